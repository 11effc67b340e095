/- The tree of what is above what: made, and asked. Of programs that are little. -/
import Derived.Test.YtiojekbkamegdaaGreatDoorLk
import Derived.Test.YtiojekbkamegdaaGreatDoorLj
import Derived.LaidEqlPtr
set_option linter.unusedVariables false
set_option linter.unusedSimpArgs false
set_option linter.unusedSectionVars false
namespace Go.Proofs.YtiojekbkamegdaaGreatDoor
open Go.Proofs.Tryz
open Go.Proofs
theorem pl221 : Places prog 221 #[(0, 1), (1, 1)] [.raw (.slice none 0 0), .raw (.slice none 0 0)] := ⟨_, _, Zh, zeroValue221, fun w => by kernel_rfl, rfl⟩
variable {E : World}
set_option maxRecDepth 20000
theorem nearest_spec (f : PFunc) (hE : EndsOk f) (hn : f.blocks.length ≤ 1000) : ACall prog E 89 [.fro 1 ((orderT (EndsOf f) f.blocks.length).map encI), froN eI (predsR f f.blocks.length), .int .i64 f.blocks.length] []
  fun x O' => ∃ i : Nat, x = .own i f.blocks.length ∧ O' = [(i, .grow 1 3 (cI (nearR (EndsOf f) f.blocks.length)))] := by
 have hG := hE.grph
 have hk := hG.gok
 have hpos := hG.npos
 have hol := order_len hG
 obtain ⟨n, hnn⟩ : ∃ n, f.blocks.length = n := ⟨_, rfl⟩
 obtain ⟨S, hS⟩ : ∃ S, EndsOf f = S := ⟨_, rfl⟩
 have hrow : ∀ k, k < n → (predsR f n)[k]? = some (predsT S n (k : Int)) := fun k h => by rw [← hnn, ← hS]; exact predsR_row f (by omega)
 rw [hnn] at hk hG hpos hol hn ⊢
 rw [hS] at hk hG hol ⊢
 obtain ⟨V, hVe⟩ : ∃ V, orderT S n = V := ⟨_, rfl⟩
 have hNG : nearT (atOf n V) V (predsT S n) n = nearG S n := by rw [← hVe]; rfl
 rw [hVe] at hk hol ⊢
 have hVp := hk.pos
 have hK := hk.K
 have hdl : (V.drop 1).length + 1 = V.length := by simp; omega
 refine zp func89 Z (by decide) Z<|zSr<|z8 (zAr Z)<|z2<|zSr<|zx (rows := [[_]]) ps23_1 Z Z Z Z Z<|zVzMi Z<|zy Z (zm (.rest _)) (repeat_own (-1) n (by omega) hpos) ?_
 rintro r18 O18 ⟨i18, rfl, rfl⟩
 refine zx (rows := [[_]]) ps23_1 Z Z Z Z Z<|zVzMi Z<|zy Z (zm (.r (.rest _))) (repeat_own (-1) n (by omega) hpos) ?_
 rintro r21 O21 ⟨i21, rfl, rfl⟩
 refine z8 (zz (cps := [(0, [_]), (1, [_])]) (rs := [_, _]) pl221 Z Z Z)<|zt (cs := [.raw (.slice none 0 0), .raw (.slice none 0 0)]) zeroValue221 Z Z<|fun i7 => zn sizeOf221 Z Z Z Z Z Z .head Z<|z2<|zc<|zSr<|zVzMf Z<|zVGvlenM j6 Z<|zVzMi Z<|z2<|zi<|y7 (γ := Nat) [0, 1, 7, 23, 24] (fun k => [(25, .int .i64 k)]) (fun k => [(i7, .cells 221 [.own i18 n, .own i21 n]), (i21, .grow 1 3 (cI (atTo n V k))), (i18, .grow 1 3 (cI (List.replicate n (-1))))]) (fun k => k ≤ V.length) (fun k => V.length - k) 0 zR1 zLe (qt _) ?_
 rintro k hkl
 refine zSr<|zVGvlss Z Z<|z2<|zc<|zo Z (fun ck=>?_) (fun ck=>?_)
 ·have hk2 : k < V.length := by simp at ck; omega
  have hb := hk.lt _ (qu hk2)
  have hb0 := hk.ord.nn _ (qu hk2)
  refine zf<|zc<|zi<|zSr<|zVzMi Z<|z8 (zIM k j6 j7 Z Z Z (qq hk2))<|zVzLi j9 Z<|zVzAi Z<|zVzAi Z<|z2<|zRg<|z8 (ze Zh Z jd (by decide) Z Z)<|z8 (zl (c := .own _ _) jk Z ⟨_, .head⟩ Z)<|zVzMi Z<|zVzMi Z<|z8 (yg (j := V[k].toNat) j6 j7 Z Z (by omega) ⟨_, .t1⟩ (by rw [cI_len, atTo_len]) (by omega))<|yt (j := V[k].toNat) j7 Z Z .t1 (by rw [atTo_len]; omega)<|z2<|zRg<|zVzAd Z Z<|zVzMi Z<|z2 ?_
  exact ⟨k + 1, zR5, zR1, ⟨_, (.refl _), by rw [atTo_succ hk2]⟩, hk2, by omega⟩
 ·have hkn : k = V.length := by simp at ck; omega
  subst hkn
  rw [atTo_all]
  have hatl : (atOf n V).length = n := by rw [← atTo_all]; exact atTo_len n V _
  have hatg : ∀ x : Int, 0 ≤ x → x < n → (atOf n V)[x.toNat]? = some (gi (atOf n V) x) := fun x h1 h2 => gi_get h1 (by omega)
  refine y6<|zSr<|z8 (ze Zh Z jd (by decide) Z Z)<|z8 (zl (c := .own _ _) jk Z ⟨_, .head⟩ Z)<|z8 (yg (j := 0) j6 j7 Z Z Z ⟨_, .t2⟩ (by first | rfl | (simp [cI_len, cB_len]; done) | (simp [cI_len, cB_len]; omega)) (by omega))<|yt (j := 0) j7 Z Z .t2 (by first | omega | (simp; omega))<|z2<|zc<|zSr<|zVzAb Z<|z2<|zi<|y7 (γ := Nat × Bool × List Int) [0, 1, 7] (fun g => [(10, .bool g.2.1)]) (fun g => [(i7, .cells 221 [.own i18 n, .own i21 n]), (i21, .grow 1 3 (cI (atOf n V))), (i18, .grow 1 3 (cI g.2.2))]) (fun g => Rnd S (gi (atOf n V)) V (gi g.2.2) g.1 1 ∧ g.2.2.length = n ∧ (g.2.1 = true → g.1 ≤ V.length) ∧ (g.2.1 = false → g.2.2 = nearG S n)) (fun g => (if g.2.1 = true then V.length + 1 - g.1 else 0)) (0, true, first0 n) zR1 zLe (⟨hk.begin, first0_len n, fun _ => qt _, fun h => by cases h⟩) ?_
  rintro ⟨j, again, l⟩ ⟨hR, hl, hj, hfin⟩
  try dsimp only at *
  refine zc<|zSr<|zVzMb Z<|z2<|zu Z (fun ca=>?_) (fun ca=>?_)
  ·have ca : again = true := by simpa using ca
   subst ca
   have hj := hj rfl
   refine zf<|zi<|zSr<|zVzAb Z<|z2<|zSr<|zVzMf Z<|z8 (Gv.cutLoM (j := 1) j6 j7 Z Z Z (by omega))<|zVGvlenM j6 Z<|zVzMi Z<|z2<|zi<|y7 (γ := Nat × Bool × List Int) [0, 1, 7, 41, 42] (fun g => [(43, .int .i64 g.1), (10, .bool g.2.1)]) (fun g => [(i7, .cells 221 [.own i18 n, .own i21 n]), (i21, .grow 1 3 (cI (atOf n V))), (i18, .grow 1 3 (cI g.2.2))]) (fun g => g.1 ≤ (V.drop 1).length ∧ g.2.2 = rndTo (atOf n V) (2 * V.length) (predsT S n) V l g.1 ∧ Rnd S (gi (atOf n V)) V (gi g.2.2) j ((g.1 + 1 : Nat) : Int) ∧ (g.2.1 = true → j < V.length) ∧ (g.2.1 = false → g.2.2 = l)) (fun g => (V.drop 1).length - g.1) (0, false, l) zR2 zLe (⟨qt _, Z, hR, fun h => (by cases h), fun _ => Z⟩) ?_
   rintro ⟨q, ag, l'⟩ ⟨hq, hl', hR', hag, hsame⟩
   try dsimp only at *
   have hl'n : l'.length = n := by rw [hl', rndTo_len, hl]
   refine zSr<|zVGvlss Z Z<|z2<|zc<|zo Z (fun cq=>?_) (fun cq=>?_)
   ·have hq2 : q < (V.drop 1).length := by simpa using cq
    obtain ⟨b, hb⟩ : ∃ b, (V.drop 1)[q] = b := ⟨_, rfl⟩
    have hbV : V[q + 1]? = some b := by rw [← hb, List.getElem_drop, Nat.add_comm]; exact qq (by simp at hq2; omega)
    obtain ⟨hs1, hs2, hs3, hbm, hb0⟩ := hk.step hl'n (Nat.succ_pos q) hbV hR'
    have hblt := hk.lt b hbm
    have hbnn := hk.ord.nn b hbm
    have hpr : ∀ p ∈ predsT S n b, 0 ≤ p ∧ p < n := fun p hp => preds_rng hG hp
    have hsucc := rndTo_succ (at_ := atOf n V) (K := 2 * V.length) (preds := predsT S n) (l := l) hq2
    rw [hb, ← hl'] at hsucc
    have hgl : ∀ x : Int, 0 ≤ x → x < n → l'[x.toNat]? = some (gi l' x) := fun x h1 h2 => gi_get h1 (by omega)
    have hrb : (predsR f n)[b.toNat]? = some (predsT S n b) := by
     have := hrow b.toNat (by omega)
     rwa [show ((b.toNat : Nat) : Int) = b by omega] at this
    obtain ⟨ps, hps⟩ : ∃ ps, predsT S n b = ps := ⟨_, rfl⟩
    have hpsl : ps.length ≤ 2 * n := by rw [← hps, ← hS]; exact predsT_len f b n
    rw [hps] at hpr hrb
    refine zf<|zc<|zi<|zSr<|z8 (zIM q j6 j7 Z Z Z (by rw [qq hq2, hb])) ?_
    refine zVzLi j9 Z<|zVzAi Z<|z2<|zSr<|zVzAi Z<|z2<|zc<|zSr<|zVzMf Z<|zVzMi Z<|z8 (zIM b.toNat jg jd Z Z (by omega) hrb)<|zVzLf jk Z<|zVGvlenM j6 Z<|zVzMi Z<|z2<|zi<|y7 (γ := Nat × Int) [0, 1, 7, 10, 12, 41, 42, 43, 50, 51] (fun g => [(52, .int .i64 g.1), (13, .int .i64 g.2)]) (fun g => [(i7, .cells 221 [.own i18 n, .own i21 n]), (i21, .grow 1 3 (cI (atOf n V))), (i18, .grow 1 3 (cI l'))]) (fun g => g.1 ≤ ps.length ∧ bestF (gi l') (gi (atOf n V)) (2 * V.length) (ps.drop g.1) g.2 = bestF (gi l') (gi (atOf n V)) (2 * V.length) ps (-1) ∧ (g.2 = -1 ∨ gi l' g.2 ≠ -1)) (fun g => ps.length - g.1) (0, -1) zR2 zLe (⟨qt _, Z, .inl Z⟩) ?_
    rintro ⟨m, best⟩ ⟨hm, hbst, hbn⟩
    try dsimp only at *
    refine zSr<|zVGvlss Z Z<|z2<|zc<|zo Z (fun cm=>?_) (fun cm=>?_)
    ·have hm2 : m < ps.length := by simp at cm; omega
     obtain ⟨p, hp⟩ : ∃ p, ps[m] = p := ⟨_, rfl⟩
     obtain ⟨hp0, hpn⟩ := hpr p (hp ▸ qu hm2)
     have hbst : bestF (gi l') (gi (atOf n V)) (2 * V.length) (ps.drop (m + 1)) (if gi (atOf n V) p = -1 ∨ gi l' p = -1 then best else if best = -1 then p else meetF (gi l') (gi (atOf n V)) (2 * V.length) best p) = bestF (gi l') (gi (atOf n V)) (2 * V.length) ps (-1) := by
      rw [← hbst, List.drop_eq_getElem_cons hm2, bestF_cons, hp]
     refine zf<|zc<|zi<|zSr<|z8 (zIM m j6 j7 Z Z Z (by rw [qq hm2, hp])) ?_
     refine zVzLi j9 Z<|zVzAi Z<|z2<|zi<|zSr<|z8 (ze Zh Z jd (by decide) Z Z)<|z8 (zl (c := .own _ _) jk Z ⟨_, .head⟩ Z)<|zVzMi Z<|z8 (yg (j := p.toNat) j6 j7 Z Z (by omega) ⟨_, .t1⟩ (by first | rfl | (simp [cI_len, cB_len]; done) | (simp [cI_len, cB_len]; omega)) (by omega))<|z8 (yr (j := p.toNat) j9 Z ⟨_, .t1⟩ (hatg p hp0 hpn))<|zVGveqlI Z Z<|zVzMb Z<|zq (s := 67) Z (fun c1=>?_) (fun c1=>?_)
     ·have d1 : gi (atOf n V) p = -1 := by simpa using c1
      rw [if_pos (.inl d1)] at hbst
      refine z6 Z Z c1<|z6 Z Z c1<|z6 Z Z c1<|z6 Z Z c1<|z6 Z Z c1<|z6 Z Z c1<|zVzPt Z c1 Z<|zVzAb Z<|z2<|yq Z Z<|zf<|zRg<|zVzAd Z Z<|zVzMi Z<|z2 ?_
      exact ⟨(m + 1, best), zR10, zR2, zLe, ⟨hm2, hbst, hbn⟩, by dsimp only; omega⟩
     ·have d1 : ¬ gi (atOf n V) p = -1 := by simpa using c1
      refine z7 Z Z c1<|z8 (ze Zh Z jd (by decide) Z Z)<|z7 Z Z c1<|z8 (zl (c := .own _ _) jk Z ⟨_, .head⟩ Z)<|z7 Z Z c1<|zVzMi Z<|z7 Z Z c1<|z8 (yg (j := p.toNat) j6 j7 Z Z (by omega) ⟨_, .t2⟩ (by first | rfl | (simp [cI_len, cB_len]; done) | (simp [cI_len, cB_len]; omega)) (by omega))<|z7 Z Z c1<|z8 (yr (j := p.toNat) j9 Z ⟨_, .t2⟩ (hgl p hp0 hpn))<|z7 Z Z c1<|zVGveqlI Z Z<|zVzPf Z c1 Z<|zVzAb Z<|z2<|zu Z (fun c2=>?_) (fun c2=>?_)
      ·have d2 : gi l' p = -1 := by simpa using c2
       rw [if_pos (.inr d2)] at hbst
       refine zf<|zRg<|zVzAd Z Z<|zVzMi Z<|z2 ?_
       exact ⟨(m + 1, best), zR10, zR2, zLe, ⟨hm2, hbst, hbn⟩, by dsimp only; omega⟩
      ·have d2 : ¬ gi l' p = -1 := by simpa using c2
       rw [if_neg (by rintro (h | h); exact d1 h; exact d2 h)] at hbst
       refine zSr<|zVzMi Z<|zVGveqlI Z Z<|zVzAb Z<|z2<|zu Z (fun c3=>?_) (fun c3=>?_)
       ·have c3 : best = -1 := by simpa using c3
        rw [if_pos c3] at hbst
        refine zRg<|zVzMi Z<|zVzAi Z<|z2<|zRg<|zVzAd Z Z<|zVzMi Z<|z2 ?_
        exact ⟨(m + 1, p), zR10, zR2, zLe, ⟨hm2, hbst, .inr d2⟩, by dsimp only; omega⟩
       ·have c3 : ¬ best = -1 := by simpa using c3
        rw [if_neg c3] at hbst
        have hbb : gi l' best ≠ -1 := by rcases hbn with h | h; exact absurd h c3; exact h
        refine zRg<|z8 (Gv.loadWC isAgg221 sizeOf221 Z ⟨_, .head⟩ Z)<|zVzMi Z<|zVzMi Z<|zy Z (zm (.r (.l (.l (.rest _))))) (meet_spec hk.ord hR'.inv hK (by omega) hl'n hatl hk.lt hbb d2) ?_
        rintro r59 O59 ⟨rfl, rfl⟩
        refine zVzAi Z<|z2<|zw (za (zb .t2))<|zRg<|zVzAd Z Z<|zVzMi Z<|z2 ?_
        exact ⟨(m + 1, meetF (gi l') (gi (atOf n V)) (2 * V.length) best p), zR10, zR2, zLe, ⟨hm2, hbst, .inr (meet_anc hk.ord hR'.inv _ best p hbb d2 (hK best p (hR'.inv.mem _ hbb) (hR'.inv.mem _ d2))).1⟩, by dsimp only; omega⟩
    ·have hmn : m = ps.length := by simp at cm; omega
     subst hmn
     rw [List.drop_length] at hbst
     have hbst : best = bestF (gi l') (gi (atOf n V)) (2 * V.length) ps (-1) := hbst
     have hst : stepL (atOf n V) (2 * V.length) (predsT S n) l' b = l'.set b.toNat best := by unfold stepL; rw [hps, ← hbst]
     rw [hst] at hs1 hs2 hsucc
     refine y6<|zSr<|z8 (ze Zh Z jd (by decide) Z Z)<|z8 (zl (c := .own _ _) jk Z ⟨_, .head⟩ Z)<|zVzMi Z<|z8 (yg (j := b.toNat) j6 j7 Z Z (by omega) ⟨_, .t2⟩ (by first | rfl | (simp [cI_len, cB_len]; done) | (simp [cI_len, cB_len]; omega)) (by omega))<|z8 (yr (j := b.toNat) j9 Z ⟨_, .t2⟩ (hgl b hbnn hblt))<|zVzMi Z<|zVGvneqI Z Z<|z2<|zu Z (fun ce=>?_) (fun ce=>?_)
     ·have ce : ¬ gi l' b = best := by simpa using ce
      have hjl : j < V.length := Classical.byContradiction fun h => ce (by
       have h2 := hs2 (by omega)
       have h3 := gi_set (l := l') hbnn (by omega) best
       rw [h2] at h3
       have h4 := congrFun h3 b
       simpa [setN] using h4)
      refine zRg<|z8 (ze Zh Z jd (by decide) Z Z)<|z8 (zl (c := .own _ _) jk Z ⟨_, .head⟩ Z)<|zVzMi Z<|zVzMi Z<|z8 (yg (j := b.toNat) j6 j7 Z Z (by omega) ⟨_, .t2⟩ (by first | rfl | (simp [cI_len, cB_len]; done) | (simp [cI_len, cB_len]; omega)) (by omega))<|yt (j := b.toNat) j7 Z Z .t2 (by first | omega | (simp; omega))<|zVzAb Z<|z2<|zRg<|zVzAd Z Z<|zVzMi Z<|z2 ?_
      exact ⟨(q + 1, true, l'.set b.toNat best), zR5, zR2, zLe, ⟨hq2, hsucc.symm, hs1, fun _ => hjl, fun h => by cases h⟩, by dsimp only; omega⟩
     ·have ce : gi l' b = best := by simpa using ce
      rw [← ce, set_same hbnn] at hs1 hsucc
      refine zf<|zRg<|zVzAd Z Z<|zVzMi Z<|z2 ?_
      exact ⟨(q + 1, ag, l'), zR5, zR2, zLe, ⟨hq2, hsucc.symm, hs1, hag, hsame⟩, by dsimp only; omega⟩
   ·have hqn : q = (V.drop 1).length := by have h0 : ¬ (q : Int) < ((V.drop 1).length : Int) := (by simpa using cq); omega
    subst hqn
    rw [rndTo_all] at hl'
    have hR2 : Rnd S (gi (atOf n V)) V (gi l') (j + 1) 1 := by rw [hl']; exact hk.pass hl hR
    refine y6 ?_
    exact ⟨(j + 1, ag, l'), zR3, zR1, zLe, ⟨hR2, hl'n, fun h => by have := hag h; omega, fun h => by have e := hsame h; rw [e] at hl'; have := hk.near_eq hl (hk.fixed hl hR hl'.symm); rw [e, this, hNG]⟩, by dsimp only; rw [if_pos rfl]; split <;> omega⟩
  ·have ca : again = false := by simpa using ca
   have hfin := hfin ca
   subst hfin
   refine y6<|zSr<|z8 (ze Zh Z jd (by decide) Z Z)<|z8 (zl (c := .own _ _) jk Z ⟨_, .head⟩ Z)<|z8 (yg (j := 0) j6 j7 Z Z Z ⟨_, .t2⟩ (by rw [cI_len, nearG_len]) (by omega))<|yt (j := 0) j7 Z Z .t2 (by rw [nearG_len]; omega)<|z2<|zSr<|z8 (ze Zh Z jd (by decide) Z Z)<|z8 (zl (c := .own _ _) jk Z ⟨_, .head⟩ Z)<|z8 (zAo Z)<|z2<|zw (GStep.drop .head)<|zw (GStep.drop .head)<|zj<|zk (x := .own _ _) Z ?_
   exact ⟨i18, rfl, rfl⟩
end Go.Proofs.YtiojekbkamegdaaGreatDoor
namespace Go.Proofs.YtiojekbkamegdaaGreatDoor
open Go.Proofs.Tryz
section
variable {E : World} {P : Program} {env : AEnv} {O O' O'' : OL}
theorem GStep.knowIC {j off i m : Nat} {T T' : TypeId} {cs : List AV} {l : List Int} (hO : Pick O i (.grow 1 T (cI l)) O') (hP : Put O' j (.cells T' cs) (.cells T' (cs.set off (.fro 1 (l.map fun x => [.int .i64 x])))) O'') (hc : cs[off]? = some (.own i m)) (hm : l.length = m) : GStep E env O env O'' :=
 GStep.knowC (rows := l.map fun x => [.int .i64 x]) (by rw [cI_flat]; exact hO) hP hc (fun r hr => by obtain ⟨_, _, rfl⟩ := List.mem_map.1 hr; rfl) (by decide) (by rw [qx]; exact hm)
theorem GStep.nestBackN {α : Type} {c : Enc α} {b j m i n : Nat} {T e : TypeId} {rows : List (List α)} {r : List α} (hn : r.length = n) (hP : Pick O i (.grow c.k e (c.av r)) O') (hO : Put O' m (nestH c T e b rows j n i) (nestO c T e b (rows.set j r)) O'') : GStep E env O env O'' := by subst hn; exact GStep.nestBack hP hO
theorem ACall.weak {f : FuncId} {args : List AV} {R : AV → OL → Prop} {y : AV} (h : ACall P E f args [] R) (hr : ∀ x O, R x O → O = [] ∧ ∀ I v, RepV I x v → RepV I y v) : AFun P E f args y := fun I F w vs h1 h2 =>
 (h I F w vs h1 h2).mono fun v w' ⟨J, x, O', a, b, c, d⟩ => by
  obtain ⟨e, hv⟩ := hr x O' d
  subst e
  exact ⟨J, y, [], a, hv _ _ b, c, rfl⟩
theorem run_neq_ptr_nil {tp te : TypeId} {j : TypeInfo} (a : Addr) (hp : P.underlying tp = some (.pointer te)) (hte : P.info? te = some j) (w : World) :
  (binOp .neq tp (.pointer (some a)) (.pointer none)).run P w = .ok (.bool true) w := by
 have h : ∀ d : Nat, (Op.equalIn (d + 1) tp (.pointer (some a)) (.pointer none)).run P w = .ok false w := fun d => by
  simp [Op.equalIn, run_underlying hp, sizeOf, typeInfo, hte]
 simp only [binOp]
 simp [Op.equal, Op.maxDepth, h 9999]
variable {d ty : Nat} {pos : String} {af : Array Edge} {x y z : Operand} {t u e T : TypeId}
theorem Gv.neqPf {cs : List AV} {j : TypeInfo} (hp : P.underlying t = some (.pointer e)) (hte : P.info? e = some j) (hx : aev env x = .pf cs) : Gv P env O (Oper.mk (some d) (.binOp .neq t x (.const (.pointer none)) u) ty pos af none) (.bool true) := Gv.ofEv fun I ρ h => by
 have h1 := h.ev x
 rw [hx] at h1
 obtain ⟨b, off, vs, e1, _⟩ := h1
 exact ⟨_, rfl, fun w => by
  have e2 : Go.Proofs.YtiojekbkamegdaaGreatDoor.ev ρ (.const (.pointer none)) = .pointer none := rfl
  simp only [execOp, e1, e2]; simp [eqGuard, run_neq_ptr_nil _ hp hte]⟩
end
end Go.Proofs.YtiojekbkamegdaaGreatDoor
namespace Go.Proofs.YtiojekbkamegdaaGreatDoor
open Go.Proofs.Tryz
open Go.Proofs
variable {E : World}
set_option maxRecDepth 20000
theorem indexO_spec (xs : List Int) (v : Int) (i : Nat) (T : TypeId) (hl : xs.length ≤ 281474976710656) : ACall prog E 169 [.own i xs.length, .int .i64 v] [(i, .grow 1 T (cI xs))] fun r O => r = .int .i64 (firstI (fun x => decide (v = x)) xs 0) ∧ O = [(i, .grow 1 T (cI xs))] := by
 refine zp func169 Z (by decide) Z<|zSr<|zVzAi Z<|z2<|zc<|zSr<|z8 (zMo Z)<|z8 (qo j6 Z)<|zVzMi Z<|z2<|zi<|y7 (γ := Nat) [0, 1, 7] (fun k => [(8, .int .i64 k)]) (fun k => [(i, .grow 1 T (cI xs))]) (fun k => k ≤ xs.length ∧ (xs.take k).all (fun x => !decide (v = x))) (fun k => xs.length - k) 0 zR1 zLe (⟨qt _, Z⟩) ?_
 rintro k ⟨hk, hall⟩
 refine zSr<|zVGvlss Z Z<|z2<|zc<|zo Z (fun ck=>?_) (fun ck=>?_)
 ·have hk2 : k < xs.length := by simp at ck; omega
  refine zf<|zc<|zi<|zSr<|zVzMi Z<|zVzAi Z<|z2<|zSr<|zVzMi Z<|z8 (zMo Z)<|zVzMi Z<|z8 (yg (j := k) j6 j7 Z Z Z ⟨_, .head⟩ (by first | rfl | (simp [cI_len, cB_len]; done) | (simp [cI_len, cB_len]; omega)) hk2)<|z8 (yr (j := k) j9 Z ⟨_, .head⟩ (qq hk2))<|zVGveqlI Z Z<|z2<|zu Z (fun cp=>?_) (fun cp=>?_)
  ·refine zSr<|zVzMi Z<|zVzAi Z<|z2<|zj<|zk (x := .int _ _) Z ?_
   exact ⟨by rw [firstI_drop _ xs k hk hall, List.drop_eq_getElem_cons hk2, firstI, if_pos (by simpa using cp)], rfl⟩
  ·refine zf<|zRg<|zVzAd Z Z<|zVzMi Z<|z2 ?_
   exact ⟨k + 1, zR3, zR1, zLe, ⟨hk2, by rw [qr hk2, List.all_append, hall]; simpa using cp⟩, by omega⟩
 ·have hkn : k = xs.length := by simp at ck; omega
  refine y6<|zSr<|zVzAi Z<|z2<|zj<|zk (x := .int _ _) Z ?_
  exact ⟨by rw [firstI_drop _ xs k hk hall, hkn, List.drop_length, firstI], rfl⟩
theorem containsO_spec (xs : List Int) (v : Int) (i : Nat) (T : TypeId) (hl : xs.length ≤ 281474976710656) : ACall prog E 154 [.own i xs.length, .int .i64 v] [(i, .grow 1 T (cI xs))] fun r O => r = .bool (xs.contains v) ∧ O = [(i, .grow 1 T (cI xs))] := by
 refine zp func154 Z (by decide) Z<|zSr<|zVzAb Z<|z2<|zSr<|z8 (zMo Z)<|zVzMi Z<|zy Z (zm (.l (.rest _))) (indexO_spec xs v i T hl) ?_
 rintro r7 O7 ⟨rfl, rfl⟩
 refine z8 (qd Z Z)<|zVzAb Z<|z2<|zj<|zk (x := .bool _) Z ?_
 exact ⟨by rw [firstI_ge]; congr 1; rw [qz]; simp, rfl⟩
theorem containsE_spec (xs : List Int) (v : Int) (i : Nat) (T : TypeId) (hl : xs.length ≤ 281474976710656) : ACall prog E 154 [.own i xs.length, .int .i64 v] [(i, .grow eI.k T (eI.av xs))] fun r O => r = .bool (xs.contains v) ∧ O = [(i, .grow eI.k T (eI.av xs))] := by rw [eI_av]; exact containsO_spec xs v i T hl
theorem sortE_own (l : List Int) (i : Nat) (T : TypeId) (hl : l.length ≤ 200000) : ACall prog E 155 [.own i l.length] [(i, .grow eI.k T (eI.av l))] fun r O => r = .tup [] ∧ O = [(i, .grow eI.k T (eI.av (sortI l)))] := by rw [eI_av, eI_av]; exact sort_own l i T hl
def FrI (n : Nat) (rows : List (List Int)) : Prop := rows.length = n ∧ ∀ r ∈ rows, r.Nodup ∧ ∀ x ∈ r, 0 ≤ x ∧ x < n
theorem FrI.len {n : Nat} {rows : List (List Int)} (h : FrI n rows) {r : List Int} (hr : r ∈ rows) : r.length ≤ n := by
 have := nodup_len r (intsTo n) (h.2 r hr).1 fun x hx => mem_intsTo.2 ((h.2 r hr).2 x hx)
 rwa [intsTo_len] at this
theorem FrI.push {n : Nat} {rows : List (List Int)} (h : FrI n rows) {j : Nat} (hj : j < rows.length) {b : Int} (h0 : 0 ≤ b) (hb : b < n) (hn : b ∉ rows[j]) : FrI n (rows.set j (rows[j] ++ [b])) := by
 refine ⟨by rw [List.length_set]; exact h.1, fun r hr => ?_⟩
 rcases List.mem_or_eq_of_mem_set hr with hr | rfl
 ·exact h.2 r hr
 ·obtain ⟨g1, g2⟩ := h.2 _ (qu hj)
  refine ⟨List.nodup_append.2 ⟨g1, by simp, fun x hx y hy e => ?_⟩, fun x hx => ?_⟩
  ·simp at hy; subst hy; subst e; exact hn hx
  ·rcases List.mem_append.1 hx with hx | hx
   ·exact g2 x hx
   ·simp at hx; subst hx; exact ⟨h0, hb⟩
theorem FrI.sort {n : Nat} {rows : List (List Int)} (h : FrI n rows) {j : Nat} (hj : j < rows.length) : FrI n (rows.set j (sortI rows[j])) := by
 refine ⟨by rw [List.length_set]; exact h.1, fun r hr => ?_⟩
 rcases List.mem_or_eq_of_mem_set hr with hr | rfl
 ·exact h.2 r hr
 ·obtain ⟨g1, g2⟩ := h.2 _ (qu hj)
  exact ⟨(sortI_perm _).nodup_iff.2 g1, fun x hx => g2 x ((sortI_perm _).mem_iff.1 hx)⟩
theorem FrI.begin (n : Nat) : FrI n (List.replicate n []) := ⟨by simp, fun r hr => by rw [List.eq_of_mem_replicate hr]; exact ⟨by simp, fun x hx => by cases hx⟩⟩
section
variable {S : Int → List Int} {n : Nat} (hG : Grph S n)
include hG
theorem front_begin {c p : Int} (hc : c ∈ orderT S n) (hp : p ∈ orderT S n) (he : c ∈ S p) : c = 0 ∨ Anc (gi (nearG S n)) p (gi (nearG S n) c) := by
 by_cases h0 : c = 0
 ·exact .inl h0
 ·right
  have hX := hG.exact
  have hO := hG.gok.ord
  have hb := hX.has c hc
  obtain ⟨g1, g2, g3⟩ := hX.inv.near c h0 hb
  have hd : Dom S (gi (nearG S n) c) c := (hX.anc c _ hc).1 (.up h0 hb (.refl _))
  exact (hX.anc p _ hp).2 (hd.pred ((hO.mem p).1 hp) he (fun e => by rw [e] at g3; omega))
theorem front_step {c y : Int} (hc : c ∈ orderT S n) (hy : (y ∈ orderT S n ∧ (c = 0 ∨ Anc (gi (nearG S n)) y (gi (nearG S n) c))) ∨ (c = 0 ∧ y = -1)) (hne : y ≠ gi (nearR S n) c) :
  y ∈ orderT S n ∧ ((gi (nearR S n) y ∈ orderT S n ∧ (c = 0 ∨ Anc (gi (nearG S n)) (gi (nearR S n) y) (gi (nearG S n) c))) ∨ (c = 0 ∧ gi (nearR S n) y = -1)) ∧ 0 < (gi (levG S n) y + 1).toNat ∧ (gi (levG S n) (gi (nearR S n) y) + 1).toNat < (gi (levG S n) y + 1).toNat := by
 have hO := hG.gok.ord
 have hpos := hG.npos
 have hyV : y ∈ orderT S n := by
  rcases hy with h | ⟨h1, h2⟩
  ·exact h.1
  ·exact absurd (by rw [h2, h1, nearR_0 hpos]) hne
 have hl := hG.lev_nn hyV
 have hy0 := hO.nn y hyV
 refine ⟨hyV, ?_⟩
 by_cases h0 : y = 0
 ·subst h0
  rw [nearR_0 hpos]
  have hc0 : c = 0 := by
   rcases hy with ⟨_, h | h⟩ | h
   ·exact h
   ·rcases h.cases' with e | ⟨e, _⟩
    ·by_cases hc0 : c = 0
     ·exact hc0
     ·have := hO.nn c hc
      exact absurd (by rw [nearR_get this hc0, ← e]) hne
    ·exact absurd rfl e
   ·exact h.1
  have hm : gi (levG S n) (-1) = -1 := gi_out (.inl (by omega))
  exact ⟨.inr ⟨hc0, rfl⟩, by omega, by rw [hm]; omega⟩
 ·rw [nearR_get hy0 h0]
  obtain ⟨g1, g2⟩ := hG.near_mem hyV h0
  have g3 := hG.lev_near hyV h0
  have g4 := hG.lev_nn g1
  refine ⟨.inl ⟨g1, ?_⟩, by omega, by omega⟩
  rcases hy with ⟨_, h | h⟩ | h
  ·exact .inl h
  ·rcases h.cases' with e | ⟨_, _, h3⟩
   ·by_cases hc0 : c = 0
    ·exact .inl hc0
    ·have := hO.nn c hc
     exact absurd (by rw [nearR_get this hc0, e]) hne
   ·exact .inr h3
  ·exact .inl h.1
end
theorem fronts_spec (f : PFunc) (hE : EndsOk f) (hn : f.blocks.length ≤ 1000) (t a b fb : Nat) (T : TypeId) (x : AV) (rows : List (List Int)) (hF : FrI f.blocks.length rows) :
  ACall prog E 91 [.po t 0, .fro 1 ((orderT (EndsOf f) f.blocks.length).map encI), froN eI (predsR f f.blocks.length)]
   [(0, nestO eI 23 3 fb rows), (t, .cells 156 [.own a f.blocks.length, .own b f.blocks.length, x, nref fb f.blocks.length]), (b, .grow 1 3 (cI (levG (EndsOf f) f.blocks.length))), (a, .grow 1 3 (cI (nearR (EndsOf f) f.blocks.length)))]
   fun r O => r = .tup [] ∧ ∃ rows', FrI f.blocks.length rows' ∧ O = [(0, nestO eI 23 3 fb rows'), (t, .cells 156 [.own a f.blocks.length, .own b f.blocks.length, x, nref fb f.blocks.length]), (b, .grow 1 3 (cI (levG (EndsOf f) f.blocks.length))), (a, .grow 1 3 (cI (nearR (EndsOf f) f.blocks.length)))] := by
 have hG := hE.grph
 have hpos := hG.npos
 have hol := order_len hG
 have hrowP : ∀ k, k < f.blocks.length → (predsR f f.blocks.length)[k]? = some (predsT (EndsOf f) f.blocks.length (k : Int)) := fun k h => predsR_row f h
 have hpl : ∀ b, (predsT (EndsOf f) f.blocks.length b).length ≤ 2 * f.blocks.length := fun b => predsT_len f b _
 obtain ⟨n, hnn⟩ : ∃ n, f.blocks.length = n := ⟨_, rfl⟩
 obtain ⟨S, hS⟩ : ∃ S, EndsOf f = S := ⟨_, rfl⟩
 rw [hnn] at hG hpos hol hn hrowP hpl hF ⊢
 rw [hS] at hG hol hrowP hpl ⊢
 obtain ⟨V, hVe⟩ : ∃ V, orderT S n = V := ⟨_, rfl⟩
 have hVr : ∀ y ∈ V, 0 ≤ y ∧ y < n := fun y hy => order_rng hG.toEOk (hVe ▸ hy)
 have hX := hG.exact
 have hO := hG.gok.ord
 have hlev := hG.lev
 rw [hVe] at hX hO hol ⊢
 have hLl : (levG S n).length = n := hlev.len
 have hRl : (nearR S n).length = n := nearR_len S n
 have hLg : ∀ y : Int, 0 ≤ y → y < n → (levG S n)[y.toNat]? = some (gi (levG S n) y) := fun y h1 h2 => gi_get h1 (by omega)
 have hNg : ∀ y : Int, 0 ≤ y → y < n → (nearR S n)[y.toNat]? = some (gi (nearR S n) y) := fun y h1 h2 => gi_get h1 (by rw [nearR_len]; omega)
 refine zp func91 Z (by decide) Z<|zc<|zSr<|zVzMf Z<|zVGvlenM j6 Z<|zVzMi Z<|z2<|zi<|y7 (γ := Nat × List (List Int)) [0, 2, 12, 13] (fun g => [(14, .int .i64 g.1)]) (fun g => [(0, nestO eI 23 3 fb g.2), (t, .cells 156 [.own a n, .own b n, x, nref fb n]), (b, .grow 1 3 (cI (levG S n))), (a, .grow 1 3 (cI (nearR S n)))]) (fun g => g.1 ≤ V.length ∧ FrI n g.2) (fun g => V.length - g.1) (0, rows) zR1 zLe (⟨qt _, hF⟩) ?_
 rintro ⟨k, rows⟩ ⟨hk, hF⟩
 try dsimp only at *
 refine zSr<|zVGvlss Z Z<|z2<|zc<|zo Z (fun ck=>?_) (fun ck=>?_)
 ·have hk2 : k < V.length := by simp at ck; omega
  obtain ⟨c, hc⟩ : ∃ c, V[k] = c := ⟨_, rfl⟩
  have hcV : c ∈ V := hc ▸ qu hk2
  obtain ⟨hc0, hcn⟩ := hVr c hcV
  have hrow : (predsR f n)[c.toNat]? = some (predsT S n c) := by
   have := hrowP c.toNat (by omega)
   rwa [show ((c.toNat : Nat) : Int) = c by omega] at this
  have hpc := hpl c
  have hpr : ∀ p ∈ predsT S n c, 0 ≤ p ∧ p < n := fun p hp => preds_rng hG hp
  have hpS : ∀ p ∈ predsT S n c, c ∈ S p := fun p hp => (hG.gok.preds c (by rw [hVe]; exact hcV) p).1 hp
  obtain ⟨ps, hps⟩ : ∃ ps, predsT S n c = ps := ⟨_, rfl⟩
  rw [hps] at hrow hpc hpr hpS
  refine zf<|zc<|zi<|zSr<|z8 (zIM k j6 j7 Z Z Z (by rw [qq hk2, hc])) ?_
  refine zVzLi j9 Z<|zVzAi Z<|z2<|zSr<|zVzMf Z<|zVzMi Z<|z8 (zIM c.toNat jg jd Z Z (by omega) hrow)<|zVzLf jk Z<|zVGvlenM j6 Z<|zVzMi Z<|z2<|zi<|y7 (γ := Nat × List (List Int)) [0, 2, 7, 12, 13, 14, 21, 22] (fun g => [(23, .int .i64 g.1)]) (fun g => [(0, nestO eI 23 3 fb g.2), (t, .cells 156 [.own a n, .own b n, x, nref fb n]), (b, .grow 1 3 (cI (levG S n))), (a, .grow 1 3 (cI (nearR S n)))]) (fun g => g.1 ≤ ps.length ∧ FrI n g.2) (fun g => ps.length - g.1) (0, rows) zR1 zLe (⟨qt _, hF⟩) ?_
  rintro ⟨j, rows⟩ ⟨hj, hF⟩
  try dsimp only at *
  refine zSr<|zVGvlss Z Z<|z2<|zc<|zo Z (fun cj=>?_) (fun cj=>?_)
  ·have hj2 : j < ps.length := by simp at cj; omega
   obtain ⟨p, hp⟩ : ∃ p, ps[j] = p := ⟨_, rfl⟩
   obtain ⟨hp0, hpn⟩ := hpr p (hp ▸ qu hj2)
   have hpc2 := hpS p (hp ▸ qu hj2)
   refine zf<|zc<|zi<|zSr<|z8 (zIM j j6 j7 Z Z Z (by rw [qq hj2, hp])) ?_
   refine zVzLi j9 Z<|zVzAi Z<|z2<|zc<|zSr<|zVzMp Z<|zVGvnilCheckO Z<|z8 (ze Z3 Z jd (by decide) Z Z)<|z8 (zl (c := .own _ _) jk Z ⟨_, .t1⟩ Z)<|zVzMi Z<|z8 (yg (j := p.toNat) j6 j7 Z Z (by omega) ⟨_, .t2⟩ (by first | rfl | (simp [cI_len, cB_len]; done) | (simp [cI_len, cB_len]; omega)) (by omega))<|z8 (yr (j := p.toNat) j9 Z ⟨_, .t2⟩ (hLg p hp0 hpn))<|zVGveqlI Z Z<|z2<|zu Z (fun cl=>?_) (fun cl=>?_)
   ·refine y6<|zRg<|zVzAd Z Z<|zVzMi Z<|z2 ?_
    exact ⟨(j + 1, rows), zR8, zR1, zLe, ⟨hj2, hF⟩, by dsimp only; omega⟩
   ·have hpV : p ∈ V := by have h0 : ¬ gi (levG S n) p = -1 := (by simpa using cl); rw [← hVe]; exact (hG.lev_mem p).1 h0
    refine zf<|zSr<|zVzMi Z<|zVzAi Z<|z2<|zi<|y7 (γ := Int × List (List Int)) [0, 2, 7, 12, 13, 14, 21, 22, 23] (fun g => [(10, .int .i64 g.1)]) (fun g => [(0, nestO eI 23 3 fb g.2), (t, .cells 156 [.own a n, .own b n, x, nref fb n]), (b, .grow 1 3 (cI (levG S n))), (a, .grow 1 3 (cI (nearR S n)))]) (fun g => ((g.1 ∈ V ∧ (c = 0 ∨ Anc (gi (nearG S n)) g.1 (gi (nearG S n) c))) ∨ (c = 0 ∧ g.1 = -1)) ∧ FrI n g.2) (fun g => (gi (levG S n) g.1 + 1).toNat) (p, rows) zR1 zLe (⟨.inl ⟨hpV, front_begin hG (by rw [hVe]; exact hcV) (by rw [hVe]; exact hpV) hpc2⟩, hF⟩) ?_
    rintro ⟨y, rows⟩ ⟨hy, hF⟩
    try dsimp only at *
    refine zc<|zSr<|zVzMi Z<|zVzMp Z<|zVGvnilCheckO Z<|z8 (ze Z3 Z jd (by decide) Z Z)<|z8 (zl (c := .own _ _) jk Z ⟨_, .t1⟩ Z)<|zVzMi Z<|z8 (yg (j := c.toNat) j6 j7 Z Z (by omega) ⟨_, .t3⟩ (by first | rfl | (simp [cI_len, cB_len]; done) | (simp [cI_len, cB_len]; omega)) (by omega))<|z8 (yr (j := c.toNat) j9 Z ⟨_, .t3⟩ (hNg c hc0 hcn))<|zVGvneqI Z Z<|z2<|zu Z (fun cy=>?_) (fun cy=>?_)
    ·have hne : y ≠ gi (nearR S n) c := by simpa using cy
     obtain ⟨hyV, hnx, hms⟩ := front_step hG (hVe ▸ hcV) (by rw [hVe]; exact hy) hne
     rw [hVe] at hyV hnx
     obtain ⟨hy0, hyn⟩ := hVr y hyV
     have hyl : y.toNat < rows.length := by rw [hF.1]; omega
     have hrl := hF.len (qu hyl)
     refine zf<|zc<|zi<|zSr<|zVzMp Z<|zVGvnilCheckO Z<|z8 (ze Z3 Z X3 (by decide) Z Z)<|z8 (zl (c := nref _ _) isAgg118 Z ⟨_, .t1⟩ Z)<|zVzMi Z<|z8 (qj (j := y.toNat) jg jd Z Z (by omega) (by omega))<|qa (j := y.toNat) (r := rows[y.toNat]) jk Z (qq hyl) (fun _ => .head)<|fun i58 => zVzMi Z<|zy Z (zm (.l (.r (.r (.r (.r (.rest _))))))) (containsE_spec rows[y.toNat] c i58 _ (by omega)) ?_
     rintro r60 O60 ⟨rfl, rfl⟩
     refine zVGvnot Z<|zd (GStep.nestBack (r := rows[y.toNat]) .head .head) ?_
     rw [List.set_getElem_self]
     refine z2<|zu Z (fun cin=>?_) (fun cin=>?_)
     ·have hnin : c ∉ rows[y.toNat] := by simpa using cin
      refine yn (γ := Unit) [0, 2, 7, 10, 12, 13, 14, 21, 22, 23] (fun u => []) (fun u => [(t, .cells 156 [.own a n, .own b n, x, nref fb n]), (b, .grow 1 3 (cI (levG S n))), (a, .grow 1 3 (cI (nearR S n))), (0, nestO eI 23 3 fb (rows.set y.toNat (rows[y.toNat] ++ [c])))]) (fun u => True) ?_ (fun _ _ h => h) ?_
      ·refine zr (fun j => Nat.beq j 16) (by kernel_rfl) Z (zm (.l (.r (.r (.r (.rest _))))))<|zTk 0 Z (zMp Z)<|zTk 1 Z (y4 Z)<|zTk 2 Z (ze Z3 Z X3 (by decide) Z Z)<|zTk 3 Z (zl (c := nref _ _) isAgg118 Z ⟨_, .head⟩ Z)<|zTk 4 Z (zMi Z)<|zTk 5 Z (zMp Z)<|zTk 6 Z (y4 Z)<|zTk 7 Z (ze Z3 Z X3 (by decide) Z Z)<|zTk 8 Z (zl (c := nref _ _) isAgg118 Z ⟨_, .head⟩ Z)<|zTk 9 Z (zMi Z)<|zTk 10 Z (qj (j := y.toNat) jg jd Z Z (by omega) (by omega))<|zTk 12 Z (zMi Z)<|yi (i := 11) (j := 13) Z Z (by kernel_rfl) ?_ ?_
       ·refine qa (j := y.toNat) (r := rows[y.toNat]) jk Z (qq hyl) (fun _ => .head)<|fun i73 => z2<|zOn 13 Z<|zx (rows := [[_]]) ps23_1 Z Z Z Z Z<|z2<|zOn 14 Z<|ym (k := 1) j6 Zr Z Z Z Z Z (fun _ => .head) (by rw [eI.av_len]; rfl) (by decide) Z (by show (_ + 1) * 8 ≤ _; omega) (by show _ + 1 ≤ _; omega)<|fun i76 => z2<|zTk 15 Z (qj (j := y.toNat) jg jd Z Z (by omega) (by omega))<|yb<|y8 (i := 16) Z (by kernel_rfl) (by kernel_rfl)<|ql (j := y.toNat) (r := rows[y.toNat] ++ [c]) jd Z Z (by omega) .t3 .t3 Z (eI.av_push _ _) (by simp)<|z2<|ye (by kernel_rfl) ?_
        exact ⟨(), zR10, trivial, zLe, trivial⟩
       ·refine zx (rows := [[_]]) ps23_1 Z Z Z Z Z<|z2<|zOn 11 Z<|qa (j := y.toNat) (r := rows[y.toNat]) jk Z (qq hyl) (fun _ => .head)<|fun i73 => z2<|zOn 14 Z<|ym (k := 1) j6 Zr Z Z Z Z Z (fun _ => .head) (by rw [eI.av_len]; rfl) (by decide) Z (by show (_ + 1) * 8 ≤ _; omega) (by show _ + 1 ≤ _; omega)<|fun i76 => z2<|zTk 15 Z (qj (j := y.toNat) jg jd Z Z (by omega) (by omega))<|yb<|y8 (i := 16) Z (by kernel_rfl) (by kernel_rfl)<|ql (j := y.toNat) (r := rows[y.toNat] ++ [c]) jd Z Z (by omega) .t3 .t3 Z (eI.av_push _ _) (by simp)<|z2<|ye (by kernel_rfl) ?_
        exact ⟨(), zR10, trivial, zLe, trivial⟩
      ·rintro _ _
       refine zw (za (zb .t3))<|zRg<|zVzMp Z<|zVGvnilCheckO Z<|z8 (ze Z3 Z jd (by decide) Z Z)<|z8 (zl (c := .own _ _) jk Z ⟨_, .t1⟩ Z)<|zVzMi Z<|z8 (yg (j := y.toNat) j6 j7 Z Z (by omega) ⟨_, .t3⟩ (by first | rfl | (simp [cI_len, cB_len]; done) | (simp [cI_len, cB_len]; omega)) (by omega))<|z8 (yr (j := y.toNat) j9 Z ⟨_, .t3⟩ (hNg y hy0 hyn))<|zVzAi Z<|z2 ?_
       exact ⟨(gi (nearR S n) y, rows.set y.toNat (rows[y.toNat] ++ [c])), zR9, zR1, zLe, ⟨hnx, hF.push hyl hc0 hcn hnin⟩, by dsimp only; omega⟩
     ·refine zf<|zRg<|zVzMp Z<|zVGvnilCheckO Z<|z8 (ze Z3 Z jd (by decide) Z Z)<|z8 (zl (c := .own _ _) jk Z ⟨_, .t1⟩ Z)<|zVzMi Z<|z8 (yg (j := y.toNat) j6 j7 Z Z (by omega) ⟨_, .t3⟩ (by first | rfl | (simp [cI_len, cB_len]; done) | (simp [cI_len, cB_len]; omega)) (by omega))<|z8 (yr (j := y.toNat) j9 Z ⟨_, .t3⟩ (hNg y hy0 hyn))<|zVzAi Z<|z2 ?_
      exact ⟨(gi (nearR S n) y, rows), zR9, zR1, zLe, ⟨hnx, hF⟩, by dsimp only; omega⟩
    ·refine y6<|zRg<|zVzAd Z Z<|zVzMi Z<|z2 ?_
     exact ⟨(j + 1, rows), zR8, zR1, zLe, ⟨hj2, hF⟩, by dsimp only; omega⟩
  ·refine y6<|zRg<|zVzAd Z Z<|zVzMi Z<|z2 ?_
   exact ⟨(k + 1, rows), zR4, zR1, zLe, ⟨hk2, hF⟩, by dsimp only; omega⟩
 ·refine y6<|zSr<|zVzMp Z<|zVGvnilCheckO Z<|z8 (ze Z3 Z X3 (by decide) Z Z)<|z8 (zl (c := nref _ _) isAgg118 Z ⟨_, .t1⟩ Z)<|z8 (Gv.lenN jg Z)<|zVzMi Z<|z2<|zi<|y7 (γ := Nat × List (List Int)) [0, 84] (fun g => [(85, .int .i64 g.1)]) (fun g => [(0, nestO eI 23 3 fb g.2), (t, .cells 156 [.own a n, .own b n, x, nref fb n]), (b, .grow 1 3 (cI (levG S n))), (a, .grow 1 3 (cI (nearR S n)))]) (fun g => g.1 ≤ n ∧ FrI n g.2) (fun g => n - g.1) (0, rows) zR1 zLe (⟨qt _, hF⟩) ?_
  rintro ⟨m, rows⟩ ⟨hm, hF⟩
  try dsimp only at *
  refine zSr<|zVGvlss Z Z<|z2<|zc<|zo Z (fun cm=>?_) (fun cm=>?_)
  ·have hm2 : m < n := by simp at cm; omega
   have hml : m < rows.length := by rw [hF.1]; omega
   have hrl := hF.len (qu hml)
   refine zf<|zc<|zi<|zSr<|zVzMi Z<|zVzAi Z<|z2<|zRg<|zVzMp Z<|zVGvnilCheckO Z<|z8 (ze Z3 Z X3 (by decide) Z Z)<|z8 (zl (c := nref _ _) isAgg118 Z ⟨_, .t1⟩ Z)<|zVzMi Z<|z8 (qj (j := m) jg jd Z Z Z (by omega))<|qa (j := m) (r := rows[m]) jk Z (qq hml) (fun _ => .head)<|fun i94 => zy Z (zm (.l (.r (.r (.r (.r (.rest _))))))) (sortE_own rows[m] i94 _ (by omega)) ?_
   rintro r95 O95 ⟨rfl, rfl⟩
   refine z2<|zw (GStep.nestBackN (r := sortI rows[m]) (sortI_perm _).length_eq .head .head)<|zRg<|zVzAd Z Z<|zVzMi Z<|z2 ?_
   exact ⟨(m + 1, rows.set m (sortI rows[m])), zR2, zR1, zLe, ⟨hm2, hF.sort hml⟩, by dsimp only; omega⟩
  ·refine y6<|yv ?_
   exact ⟨rfl, rows, hF, rfl⟩
end Go.Proofs.YtiojekbkamegdaaGreatDoor
namespace Go.Proofs.YtiojekbkamegdaaGreatDoor
open Go.Proofs.Tryz
open Go.Proofs
variable {E : World}
set_option maxRecDepth 20000
def treeV (f : PFunc) (x y : AV) : AV := .pf [.fro 1 ((nearR (EndsOf f) f.blocks.length).map encI), .fro 1 ((levG (EndsOf f) f.blocks.length).map encI), x, y]
theorem thas_spec (lev : List Int) (b : Int) (x0 x2 x3 : AV) (hl : lev.length ≤ 1000) : AFun prog E 156 [.pf [x0, .fro 1 (lev.map encI), x2, x3], .int .i64 b] (.bool (decide (gi lev b ≠ -1))) := by
 refine zp func156 Z (by decide) Z<|zSr<|zVzAb Z<|z2<|zSr<|z8 (zMg Z)<|z8 (Gv.neqPf underlying83 type156 Z)<|zVzMb Z<|z7 Z Z Z<|zVzMi Z<|z7 Z Z Z<|z8 (qd Z Z)<|zVzPt Z Z Z<|zVzMb Z<|zq (s := 11) Z (fun c0=>?_) (fun c0=>?_)
 ·have h0 : 0 ≤ b := by simpa using c0
  refine z7 Z Z c0<|zVzMi Z<|z7 Z Z c0<|z8 (zMg Z)<|z7 Z Z c0<|z8 (Gv.nilCheckF Z)<|z7 Z Z c0<|zVzFF Z3 Z jd Z Z<|z7 Z Z c0<|zVzLf jk Z<|z7 Z Z c0<|zVGvlenM j6 Z<|z7 Z Z c0<|zVGvlss Z Z<|zVzPt Z c0 Z<|zVzMb Z<|zq (s := 20) Z (fun c1=>?_) (fun c1=>?_)
  ·have h1 : b < lev.length := by simpa using c1
   have hg : lev[b.toNat]? = some (gi lev b) := gi_get h0 (by omega)
   refine z7 Z Z c1<|z8 (zMg Z)<|z7 Z Z c1<|z8 (Gv.nilCheckF Z)<|z7 Z Z c1<|zVzFF Z3 Z jd Z Z<|z7 Z Z c1<|zVzLf jk Z<|z7 Z Z c1<|zVzMi Z<|z7 Z Z c1<|z8 (zIM b.toNat j6 j7 Z Z (by omega) hg)<|z7 Z Z c1<|zVzLi j9 Z<|z7 Z Z c1<|zVGvneqI Z Z<|zVzPt Z c1 Z<|zVzAb Z<|z2<|zj<|zk (x := .bool _) Z ?_
   simp
  ·have h1 : ¬ b < lev.length := by simpa using c1
   refine z6 Z Z c1<|z6 Z Z c1<|z6 Z Z c1<|z6 Z Z c1<|z6 Z Z c1<|z6 Z Z c1<|z6 Z Z c1<|z6 Z Z c1<|zVzPf Z c1 Z<|zVzAb Z<|z2<|zj<|zk (x := .bool _) Z ?_
   rw [gi_out (.inr (by omega))]; rfl
 ·have h0 : ¬ 0 ≤ b := by simpa using c0
  refine z6 Z Z c0<|z6 Z Z c0<|z6 Z Z c0<|z6 Z Z c0<|z6 Z Z c0<|z6 Z Z c0<|z6 Z Z c0<|zVzPf Z c0 Z<|zVzMb Z<|z6 Z Z Z<|z6 Z Z Z<|z6 Z Z Z<|z6 Z Z Z<|z6 Z Z Z<|z6 Z Z Z<|z6 Z Z Z<|z6 Z Z Z<|zVzPf Z Z Z<|zVzAb Z<|z2<|zj<|zk (x := .bool _) Z ?_
  rw [gi_out (.inl (by omega))]; rfl
section
variable {S : Int → List Int} {n : Nat} (hG : Grph S n)
include hG
theorem over_step {a b : Int} (ha : a ∈ orderT S n) (hb : b ∈ orderT S n) (hlt : gi (levG S n) a < gi (levG S n) b) :
  b ≠ 0 ∧ gi (nearR S n) b ∈ orderT S n ∧ gi (levG S n) b = gi (levG S n) (gi (nearR S n) b) + 1 ∧ domB S n a b = domB S n a (gi (nearR S n) b) := by
 have hO := hG.gok.ord
 have hla := hG.lev_nn ha
 have hl0 : gi (levG S n) 0 = 0 := hG.lev.zero
 have hb0 : b ≠ 0 := fun e => by rw [e, hl0] at hlt; omega
 obtain ⟨g1, g2⟩ := hG.near_mem hb hb0
 have g3 := hG.lev_near hb hb0
 rw [nearR_get (hO.nn b hb) hb0]
 refine ⟨hb0, g1, g3, ?_⟩
 rw [qz, hG.domB_iff, hG.domB_iff, hG.dom_iff hb, hG.dom_iff g1]
 constructor
 ·intro h
  rcases h.cases' with e | ⟨_, _, h3⟩
  ·rw [e] at hlt; omega
  ·exact h3
 ·intro h
  exact .up hb0 (hG.exact.has b hb) h
theorem over_end {a b : Int} (hb : b ∈ orderT S n) (hge : ¬ gi (levG S n) a < gi (levG S n) b) : domB S n a b = decide (a = b) := by
 rw [qz, hG.domB_iff, hG.dom_iff hb, w9]
 constructor
 ·intro h
  exact (hG.lev_anc hb h).2.2 (by omega)
 ·rintro rfl; exact .refl _
theorem over_none {a b : Int} (h : a ∉ orderT S n ∨ b ∉ orderT S n) : domB S n a b = false := by
 rw [Bool.eq_false_iff]
 intro hd
 have hd := (hG.domB_iff a b).1 hd
 have hb : b ∈ orderT S n := (hG.gok.ord.mem b).2 hd.1
 have ha : a ∈ orderT S n := (hG.lev_anc hb ((hG.dom_iff hb).1 hd)).1
 rcases h with h | h
 ·exact h ha
 ·exact h hb
end
theorem Over_spec (f : PFunc) (hE : EndsOk f) (hn : f.blocks.length ≤ 1000) (a b : Int) (x y : AV) : AFun prog E 185 [treeV f x y, .int .i64 a, .int .i64 b] (.bool (domB (EndsOf f) f.blocks.length a b)) := by
 have hG := hE.grph
 have hol := order_len hG
 have hO := hG.gok.ord
 have hrng : ∀ z ∈ orderT (EndsOf f) f.blocks.length, 0 ≤ z ∧ z < f.blocks.length := fun z hz => order_rng hG.toEOk hz
 have hLl : (levG (EndsOf f) f.blocks.length).length = f.blocks.length := hG.lev.len
 have hLg : ∀ z : Int, 0 ≤ z → z < f.blocks.length → (levG (EndsOf f) f.blocks.length)[z.toNat]? = some (gi (levG (EndsOf f) f.blocks.length) z) := fun z h1 h2 => gi_get h1 (by omega)
 have hNg : ∀ z : Int, 0 ≤ z → z < f.blocks.length → (nearR (EndsOf f) f.blocks.length)[z.toNat]? = some (gi (nearR (EndsOf f) f.blocks.length) z) := fun z h1 h2 => gi_get h1 (by rw [nearR_len]; omega)
 unfold treeV
 refine zp func185 Z (by decide) Z<|zSr<|zVzAb Z<|z2<|zc<|zSr<|z8 (zMg Z)<|zVzMi Z<|zg (thas_spec (levG (EndsOf f) f.blocks.length) a _ x y (by omega)) Z<|zVGvnot Z<|zVzMb Z<|zq (s := 11) Z (fun ca=>?_) (fun ca=>?_)
 ·have ha : a ∉ orderT (EndsOf f) f.blocks.length := by have h0 : gi (levG (EndsOf f) f.blocks.length) a = -1 := (by simpa using ca); exact fun h => (hG.lev_mem a).2 h h0
  refine z6 Z Z ca<|z6 Z Z ca<|z6 Z Z ca<|z6 Z Z ca<|zVzPt Z ca Z<|z2<|yq Z Z<|zSr<|zVzAb Z<|z2<|zj<|zk (x := .bool _) Z ?_
  rw [over_none hG (.inl ha)]
 ·have ha : a ∈ orderT (EndsOf f) f.blocks.length := by have h0 : ¬ gi (levG (EndsOf f) f.blocks.length) a = -1 := (by simpa using ca); exact (hG.lev_mem a).1 h0
  refine z7 Z Z ca<|z8 (zMg Z)<|z7 Z Z ca<|zVzMi Z<|z7 Z Z ca<|zg (thas_spec (levG (EndsOf f) f.blocks.length) b _ x y (by omega)) Z<|z7 Z Z ca<|zVGvnot Z<|zVzPf Z ca Z<|z2<|zu Z (fun cb=>?_) (fun cb=>?_)
  ·have hb : b ∉ orderT (EndsOf f) f.blocks.length := by have h0 : gi (levG (EndsOf f) f.blocks.length) b = -1 := (by simpa using cb); exact fun h => (hG.lev_mem b).2 h h0
   refine zSr<|zVzAb Z<|z2<|zj<|zk (x := .bool _) Z ?_
   rw [over_none hG (.inr hb)]
  ·have hb : b ∈ orderT (EndsOf f) f.blocks.length := by have h0 : ¬ gi (levG (EndsOf f) f.blocks.length) b = -1 := (by simpa using cb); exact (hG.lev_mem b).1 h0
   obtain ⟨ha0, han⟩ := hrng a ha
   refine zf<|zc<|zi<|y7 (γ := Int) [0, 1] (fun c => [(2, .int .i64 c)]) (fun c => []) (fun c => c ∈ orderT (EndsOf f) f.blocks.length ∧ domB (EndsOf f) f.blocks.length a b = domB (EndsOf f) f.blocks.length a c) (fun c => (gi (levG (EndsOf f) f.blocks.length) c).toNat) b zR1 zLe (⟨hb, Z⟩) ?_
   rintro c ⟨hc, hd⟩
   obtain ⟨hc0, hcn⟩ := hrng c hc
   have hl := hG.lev_nn hc
   refine zc<|zc<|zr (fun j => false) (by kernel_rfl) Z (zm (.rest _))<|zTk 0 Z (zMg Z)<|zTk 1 Z (Gv.nilCheckF Z)<|zTk 2 Z (zFF Z3 Z jd Z Z)<|zTk 3 Z (zLf jk Z)<|zTk 4 Z (zMi Z)<|zTk 5 Z (zIM c.toNat j6 j7 Z Z (by omega) (hLg c hc0 hcn))<|zTk 6 Z (zLi j9 Z)<|zTk 7 Z (zMg Z)<|zTk 8 Z (Gv.nilCheckF Z)<|zTk 9 Z (zFF Z3 Z jd Z Z)<|zTk 10 Z (zLf jk Z)<|zTk 11 Z (zMi Z)<|zTk 12 Z (zIM a.toNat j6 j7 Z Z (by omega) (hLg a ha0 han))<|zTk 13 Z (zLi j9 Z)<|zTk 14 Z (Gv.gtr Z Z)<|zDn<|zu Z (fun cc=>?_) (fun cc=>?_)
   ·have hlt : gi (levG (EndsOf f) f.blocks.length) a < gi (levG (EndsOf f) f.blocks.length) c := by simpa using cc
    obtain ⟨s1, s2, s3, s4⟩ := over_step hG ha hc hlt
    refine zf<|zi<|zRg<|z8 (zMg Z)<|z8 (Gv.nilCheckF Z)<|zVzFF Z3 Z jd Z Z<|zVzLf jk Z<|zVzMi Z<|z8 (zIM c.toNat j6 j7 Z Z (by omega) (hNg c hc0 hcn))<|zVzLi j9 Z<|zVzAi Z<|z2 ?_
    exact ⟨gi (nearR (EndsOf f) f.blocks.length) c, zR2, zR1, zLe, ⟨s2, by rw [hd, s4]⟩, by have := hG.lev_nn s2; omega⟩
   ·have hge : ¬ gi (levG (EndsOf f) f.blocks.length) a < gi (levG (EndsOf f) f.blocks.length) c := by simpa using cc
    refine y6<|zSr<|zVzMi Z<|zVzMi Z<|zVGveqlI Z Z<|zVzAb Z<|z2<|zj<|zk (x := .bool _) Z ?_
    rw [hd, over_end hG hc hge]
end Go.Proofs.YtiojekbkamegdaaGreatDoor
