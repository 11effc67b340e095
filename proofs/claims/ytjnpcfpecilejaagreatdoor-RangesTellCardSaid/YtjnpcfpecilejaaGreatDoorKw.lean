/- What is asked of the program itself, of the law RangesTell, fact for fact. No conditions. -/
import Derived.Test.YtjnpcfpecilejaaGreatDoorKv
import Derived.Test.YtjnpcfpecilejaaGreatDoorKc
import Derived.Test.YtjnpcfpecilejaaGreatDoorKh
import Derived.Test.YtjnpcfpecilejaaGreatDoorKd
import Derived.Lib.LaidRTab
import Derived.Test.YtjnpcfpecilejaaGreatDoorRows
import Derived.Test.YtjnpcfpecilejaaGreatDoorChecked
import Derived.ProofKit
import Derived.JoinedOf
set_option linter.unusedVariables false
set_option linter.unusedSimpArgs false
namespace Go.Proofs.YtjnpcfpecilejaaGreatDoor
open Go.Proofs.Tryz
open Go.Proofs Go.Lib Go.Shelf Go.RowKit
variable {E : World}
set_option maxRecDepth 20000
theorem madeTo_len {f : PFunc} (hf : small f) : ∀ k, k ≤ f.blocks.length → (madeTo f k).length ≤ k * 3000
 | 0, _ => by simp [madeTo]
 | k + 1, hk => by
  have a := madeTo_len hf k (by omega)
  obtain ⟨_, h1, h2, _⟩ := hf.2.2.2.2 _ (ql (show k < f.blocks.length by omega))
  have c := madeIn_len f.blocks[k].insts
  rw [madeTo_succ (by omega), qn, qn]
  have d : (madePh f.blocks[k]).length = f.blocks[k].phis.length := by simp [madePh]
  omega
theorem refRuleO (f : PFunc) (hF : RuleF f) (hE : EndsOk f) (l : List Rng) (hl : okL64 f.vars.length l) (i : Nat) (T : TypeId) (v : Int) (h0 : 0 ≤ v) (h1 : v < f.vars.length) (h2 : 0 ≤ (makerT f v).1) :
  ACall prog E 41 [.agg (encF f), froB (tabR f), .own i f.vars.length, .int .i64 v] [(i, .grow 2 T (lC l))] fun r O => r = .agg (encZ (rF f l v)) ∧ O = [(i, .grow 2 T (lC l))] := by
 have hvv : ((v.toNat : Nat) : Int) = v := Int.toNat_of_nonneg h0
 have := refRule_spec (E := E) f hE hF.small hF.shaped l (Lv := (.own i f.vars.length, emptyO)) (HL := (.any, .grow 2 T (lC l))) (i := i) (RdL.own underlying47 sizeOf75 isAgg75 i T l f.vars.length hl.1) hl.1 hl.2 v.toNat (by omega) (by rw [hvv]; exact h2) (hF.once v.toNat (by omega)).1
 rw [hvv] at this
 exact this
theorem lv_at {l : List Rng} {n : Nat} (hl : l.length = n) {v : Int} (h0 : 0 ≤ v) (h1 : v < n) : l[v.toNat]? = some (lv l v) := by
 have := lv_nat (l := l) (k := v.toNat) (by omega)
 rwa [Int.toNat_of_nonneg h0] at this
theorem wid_low {t a j : Rng} (ht : t.1 ≤ t.2) : (if j.1 < a.1 ∧ t.1 ≤ t.2 then imin j.1 t.1 else j.1) = if j.1 < a.1 ∧ t.1 < j.1 then t.1 else j.1 := by
 unfold imin; (repeat' split) <;> omega
theorem wid_high {t a j : Rng} (ht : t.1 ≤ t.2) : (if a.2 < j.2 ∧ t.1 ≤ t.2 then imax j.2 t.2 else j.2) = if a.2 < j.2 ∧ j.2 < t.2 then t.2 else j.2 := by
 unfold imax; (repeat' split) <;> omega
theorem rType_ne {t : Int} (h0 : 0 ≤ t) (h2 : t ≤ 2) : (rType t).1 ≤ (rType t).2 := by
 unfold rType m64 M64
 (repeat' split) <;> first | omega | (dsimp only; omega) | decide
theorem next_join {f : PFunc} {l : List Rng} {v : Int} {phi : Bool} {how : Int} (h2 : how ≠ 2) (h : ¬ (phi = true ∧ how = 1 ∧ (lv l v).1 ≤ (lv l v).2)) : nextR f l v phi how = rJoin (lv l v) (rF f l v) := by
 unfold nextR
 rw [if_neg h2]
 split
 ·rename_i c
  unfold widQ
  dsimp only
  rw [if_pos (Classical.byContradiction fun hn => h ⟨c.2, c.1, by omega⟩)]
 ·rfl
theorem next_wid {f : PFunc} {l : List Rng} {v : Int} {phi : Bool} {how : Int} (hp : phi = true) (h1 : how = 1) (hne : (lv l v).1 ≤ (lv l v).2) (ht : (rType (tyV f v)).1 ≤ (rType (tyV f v)).2) {t a j : Rng} (et : rType (tyV f v) = t) (ea : lv l v = a) (ej : rJoin (lv l v) (rF f l v) = j) :
  nextR f l v phi how = (if j.1 < a.1 ∧ t.1 < j.1 then t.1 else j.1, if a.2 < j.2 ∧ j.2 < t.2 then t.2 else j.2) := by
 subst et ea ej
 unfold nextR
 rw [if_neg (by omega), if_pos ⟨h1, hp⟩]
 unfold widQ
 dsimp only
 rw [if_neg (by omega), wid_low ht, wid_high ht]
theorem set_same2 {l : List Rng} {v : Int} {n : Nat} (hl : l.length = n) (h0 : 0 ≤ v) (h1 : v < n) : l.set v.toNat (lv l v) = l := by
 refine List.ext_getElem? fun k=>?_
 by_cases e : k = v.toNat
 ·subst e; rw [List.getElem?_set_self (by omega), lv_at hl h0 h1]
 ·rw [List.getElem?_set_ne (fun h => e h.symm)]
theorem hasV_int {f : PFunc} {v : Int} (h0 : 0 ≤ v) (h1 : v < f.vars.length) : hasV f v = true := by unfold hasV; simp; omega
set_option maxHeartbeats 16000000 in
theorem refOf22_spec (f : PFunc) (hF : RuleF f) (hE : EndsOk f) (hR : Rules f.vars.length (rF f) (madeV f)) (K : Nat) (hK : Stops f K) (hKb : K ≤ 4611686018427387904) :
  AFun prog E 35 [.agg (encF f)] (.fro 2 ((endF f K).map encZ)) := by
 have hf := hF.small
 have hS := hF.shaped
 have hvn := hf.1
 have hn := hf.2.2.1
 have hend : okL64 f.vars.length (endF f K) := (endF_post hR hK).1
 have hmo := made_of hF
 have hml : (madeL f).length ≤ 3000000 := by rw [← madeTo_all]; have := madeTo_len hf f.blocks.length (Nat.le_refl _); omega
 refine zn func35 rfl (by decide) rfl<|zSr<|y1 (cs := _) rfl rfl rfl<|z2 (zAr rfl)<|z6<|zSr<|z2 (zh isAgg26 sizeOf26 rfl rfl)<|zb (refTable_spec f hE hn) rfl<|z2 (zAf rfl)<|z6<|zSr<|z2 (zAr rfl)<|z6<|adopt_wp (t := 4) (k := 2) (T := 75) rfl<|fun i4 => za<|zSr<|z2 (zFF underlying26 rfl sizeOf22 rfl rfl)<|z2 (zLf isAgg22 rfl)<|z2 (zz underlying22 rfl)<|z2 (zMi rfl)<|z6<|zi<|y6 (γ := Nat × Nat) [1, 3, 23] (fun g => [(24, .int .i64 g.1), (4, .own g.2 g.1)]) (fun g => [(g.2, .grow 2 75 (lC ((firstL f).take g.1)))]) (fun g => g.1 ≤ f.vars.length) (fun g => f.vars.length - g.1) (0, i4) zR2 zLe (qk _) ?_
 rintro ⟨k, io⟩ hk
 try dsimp only at *
 refine zSr<|z2 (y7 rfl rfl)<|z6<|za<|zl rfl (fun ck=>?_) (fun ck=>?_)
 ·have hk2 : k < f.vars.length := by simp at ck; omega
  have hfl : ((firstL f).take k).length = k := by rw [List.length_take, firstL_len]; omega
  have hft := firstL_take hk2
  refine zf<|za<|zi<|zSr<|z2 (zMi rfl)<|z2 (zAi rfl)<|z6<|zSr<|zb (rNone) rfl<|zo (cs := [.int .i64 0, .int .i64 0]) zeroValue75 rfl rfl<|fun i6 => zc sizeOf75 rfl rfl rfl rfl rfl rfl .head rfl<|z6<|za<|zSr<|z2 (zh isAgg26 sizeOf26 rfl rfl)<|z2 (zMi rfl)<|zb (Maker_spec f hf k) rfl<|z2 (zMu rfl)<|z2 (zXi rfl rfl)<|z2 (zXi rfl rfl)<|z2 (zAi rfl)<|z2 (zAi rfl)<|z6<|zSr<|z2 (zMi rfl)<|z2 (y7 rfl rfl)<|z6<|yb (γ := Unit) [1, 3, 4, 6, 23, 24] (fun r => []) (fun r => [(i6, .cells 75 (encZ (first0R f k))), (io, .grow 2 75 (lC ((firstL f).take k)))]) (fun r => True) ?_ (fun _ _ h => h) ?_
  ·refine zl rfl (fun cm=>?_) (fun cm=>?_)
   ·refine zRg<|z2 (zh isAgg26 sizeOf26 rfl rfl)<|z2 (zMi rfl)<|zb (refFirst_spec f hS hf k hk2) rfl<|zc sizeOf75 rfl rfl rfl rfl rfl rfl .head rfl<|z6 ?_
    exact ⟨(), zR6, trivial, ⟨_, (.refl _), by rw [first0R, if_pos cm]; rfl⟩, trivial⟩
   ·refine zf ?_
    exact ⟨(), zR6, trivial, ⟨_, (.refl _), by rw [first0R, if_neg cm]; rfl⟩, trivial⟩
  ·rintro _ _
   refine zRg<|z2 (zMo rfl)<|z2 (yp isAgg75 sizeOf75 rfl ⟨_, .head⟩ rfl)<|y4 (rows := [[_, _]]) ps47_1 rfl rfl rfl rfl rfl<|yo (k := 2) underlying47 type75 rfl rfl rfl rfl rfl (fun _ => .t1) (by rw [lC_len, hfl]) (by decide) rfl (by show (_ + 1) * 16 ≤ _; omega) (by show _ + 1 ≤ _; omega)<|fun i42 => z2 (zAo rfl)<|z6<|yd (GStep.drop .head)<|zRg<|z2 (zAd rfl rfl)<|z2 (zMi rfl)<|z6 ?_
   exact ⟨(k + 1, i42), zR3, zR2, ⟨_, (.refl _), by rw [hft, ← lC_push]; rfl⟩, hk2, by dsimp only; omega⟩
 ·have hkn : k = f.vars.length := by simp at ck; omega
  subst hkn
  rw [show (firstL f).take f.vars.length = firstL f by rw [← firstL_len f, qm]]
  refine y3<|zSr<|z2 (zh isAgg26 sizeOf26 rfl rfl)<|zb (refMade_spec f hf) rfl<|z2 (zMu rfl)<|z2 (Gv.extract (v := .fro _ _) rfl rfl)<|z2 (Gv.extract (v := .fro _ _) rfl rfl)<|z2 (zAf rfl)<|z2 (zAf rfl)<|z6<|zSr<|z2 (zAi rfl)<|z6<|za<|zSr<|z2 (zAb rfl)<|z6<|zi<|y6 (γ := Nat × Bool) [1, 3, 4, 9, 10] (fun g => [(11, .int .i64 ((g.1 : Int) + 1)), (12, .bool g.2)]) (fun g => [(io, .grow 2 75 (lC (rndF f g.1)))]) (fun g => g.1 ≤ K + 1 ∧ (g.2 = true ↔ g.1 ≤ K)) (fun g => K + 1 - g.1) (0, true) zR2 zLe (⟨qk _, by simp⟩) ?_
  rintro ⟨m, ag⟩ ⟨hm, hag⟩
  try dsimp only at *
  refine za<|zSr<|z2 (zMb rfl)<|z6<|zy rfl (fun ca=>?_) (fun ca=>?_)
  ·have hmK : m ≤ K := hag.1 ca
   have hg := rndF_g hR m
   obtain ⟨how, hhow⟩ : ∃ how : Int, how = if 4 ≤ m + 1 then 1 else 0 := ⟨_, rfl⟩
   have hh2 : how ≠ 2 := by rw [hhow]; split <;> decide
   have hh1 : how = 1 ↔ 4 ≤ m + 1 := by rw [hhow]; split <;> simp_all
   obtain ⟨_, hr2, hr3⟩ := rnd_grow hR hmo (how := how) (n := m + 1) hhow (madeL f) (rndF f m) false (fun _ h => h) hg
   have hrm : growA (rF f) (widF f (m + 1)) ((madeL f).map (·.1)) (rndF f m) = rndF f (m + 1) := rfl
   rw [hrm] at hr2 hr3
   refine zf<|za<|zi<|zSr<|z2 (zAb rfl)<|z6<|zSr<|z2 (zMf rfl)<|z2 (zz underlying23 rfl)<|z2 (zMi rfl)<|z6<|zi<|y6 (γ := Nat × List Rng × Bool) [1, 3, 4, 9, 10, 11, 52, 53] (fun g => [(54, .int .i64 g.1), (12, .bool g.2.2)]) (fun g => [(io, .grow 2 75 (lC g.2.1))]) (fun g => g.1 ≤ (madeL f).length ∧ g.2 = rndS f how ((madeL f).take g.1) (rndF f m, false) ∧ okL64 f.vars.length g.2.1) (fun g => (madeL f).length - g.1) (0, rndF f m, false) zR2 zLe (⟨qk _, rfl, hg.ok⟩) ?_
   rintro ⟨i, l, c⟩ ⟨hi, hs, hl⟩
   try dsimp only at *
   refine zSr<|z2 (y7 rfl rfl)<|z6<|za<|zl rfl (fun ci=>?_) (fun ci=>?_)
   ·have hi2 : i < (madeL f).length := by simp at ci; omega
    obtain ⟨q, hqe⟩ : ∃ q, (madeL f)[i] = q := ⟨_, rfl⟩
    have hq : q ∈ madeL f := hqe ▸ ql hi2
    have hqg : (madeL f)[i]? = some q := by rw [qh hi2, hqe]
    have hqg1 : ((madeL f).map (·.1))[i]? = some q.1 := by rw [qp, hqg]; rfl
    have hqg2 : ((madeL f).map (·.2))[i]? = some q.2 := by rw [qp, hqg]; rfl
    obtain ⟨h0, h1, h2, h3⟩ := hmo q hq
    have hlv := lv_at hl.1 h0 h1
    have hqn : ((q.1.toNat : Nat) : Int) = q.1 := Int.toNat_of_nonneg h0
    have hll := hl.1
    obtain ⟨y, hy, hyt, hy0, hy2⟩ := ty_get hS (hasV_int (f := f) h0 h1)
    have htne := rType_ne hy0 hy2
    have hrr := refRuleO (E := E) f hF hE l hl io 75 q.1 h0 h1 h2
    obtain ⟨A, hA⟩ : ∃ A, lv l q.1 = A := ⟨_, rfl⟩
    obtain ⟨J, hJ⟩ : ∃ J, rJoin (lv l q.1) (rF f l q.1) = J := ⟨_, rfl⟩
    obtain ⟨B, hB⟩ : ∃ B, rF f l q.1 = B := ⟨_, rfl⟩
    obtain ⟨N, hN⟩ : ∃ N, nextR f l q.1 q.2 how = N := ⟨_, rfl⟩
    have hjs := rJoin_s (E := E) A B
    rw [← hA, ← hB, hJ, hA, hB] at hjs
    have hput : putS f how (l, c) q = (l.set q.1.toNat N, !decide (N = A) || c) := by unfold putS; dsimp only; rw [hN, hA]
    have hnj : ¬ (q.2 = true ∧ how = 1 ∧ A.1 ≤ A.2) → N = J := fun h => by rw [← hN, ← hJ]; exact next_join hh2 (by rw [hA]; exact h)
    have hnw : q.2 = true → how = 1 → A.1 ≤ A.2 → N = (if J.1 < A.1 ∧ (rType y.ty).1 < J.1 then (rType y.ty).1 else J.1, if A.2 < J.2 ∧ J.2 < (rType y.ty).2 then (rType y.ty).2 else J.2) := fun a b d => by rw [← hN]; exact next_wid a b (by rw [hA]; exact d) (by rw [← hyt]; exact htne) (by rw [hyt]) hA hJ
    have hoks := put_ok hR how (s := (l, c)) hl hq
    rw [hput] at hoks
    have hsnoc : rndS f how ((madeL f).take (i + 1)) (rndF f m, false) = (l.set q.1.toNat N, !decide (N = A) || c) := by rw [qi hi2, hqe, rndS_snoc, ← hs, hput]
    rw [hA] at hlv
    rw [hB] at hrr
    obtain ⟨tt, htt⟩ : ∃ tt, rType y.ty = tt := ⟨_, rfl⟩
    have hty := rType_s (E := E) (t := y.ty) ⟨hy0, hy2⟩
    rw [htt] at hty hnw
    refine zf<|za<|zi<|zSr<|z2 (zMi rfl)<|z2 (zIM i underlying23 sizeOf3 rfl rfl rfl hqg1)<|z2 (zLi isAgg3 rfl)<|z2 (zAi rfl)<|z2 (zAi rfl)<|z6<|za<|yb (γ := Nat) [1, 3, 4, 9, 10, 11, 12, 13, 14, 52, 53, 54] (fun z => [(15, .po z 0)]) (fun z => [(z, .cells 75 (encZ (J))), (io, .grow 2 75 (lC (l)))]) (fun z => True) ?_ (fun _ _ h => h) ?_
    ·refine zt (fun j => false) (by kernel_rfl) rfl (zp (.rest _))<|zTk 0 rfl (zMo rfl)<|zTk 1 rfl (zMi rfl)<|zTk 4 rfl (zh isAgg26 sizeOf26 rfl rfl)<|zTk 5 rfl (zMf rfl)<|zTk 6 rfl (zMo rfl)<|zTk 7 rfl (zMi rfl)<|q9 (i := 2) (j := 8) (m := 10) rfl rfl rfl (by kernel_rfl) ?_ ?_ ?_
     ·refine z2 (qd (j := q.1.toNat) underlying47 sizeOf75 rfl rfl (by omega) ⟨_, .head⟩ hll (by omega))<|z6<|q9 (i := 3) (j := 8) (m := 10) rfl rfl rfl (by kernel_rfl) ?_ ?_ ?_
      ·refine z2 (qc (j := q.1.toNat) isAgg75 sizeOf75 rfl ⟨_, .head⟩ hlv)<|z6<|yc (i := 8) (j := 10) rfl rfl (by kernel_rfl) ?_ ?_
       ·refine y5 rfl (zp (.l (.rest _))) (hrr) ?_
        rintro r67 O67 ⟨rfl, rfl⟩
        refine z6<|yc (i := 9) (j := 10) rfl rfl (by kernel_rfl) ?_ ?_
        ·refine zb (hjs) rfl<|z6<|zOn 10 rfl<|zo (cs := [.int .i64 0, .int .i64 0]) zeroValue75 rfl rfl<|fun i15 => z6<|zOn 11 rfl<|zc sizeOf75 rfl rfl rfl rfl rfl rfl .head rfl<|z6<|zDn ?_
         exact ⟨i15, zR12, zR1, zLe, trivial⟩
        ·refine zo (cs := [.int .i64 0, .int .i64 0]) zeroValue75 rfl rfl<|fun i15 => z6<|zOn 9 rfl<|zb (hjs) rfl<|z6<|zOn 11 rfl<|zc sizeOf75 rfl rfl rfl rfl rfl rfl .head rfl<|z6<|zDn ?_
         exact ⟨i15, zR12, zR1, zLe, trivial⟩
       ·refine zo (cs := [.int .i64 0, .int .i64 0]) zeroValue75 rfl rfl<|fun i15 => z6<|zOn 8 rfl<|y5 rfl (zp (.r (.l (.rest _)))) (hrr) ?_
        rintro r67 O67 ⟨rfl, rfl⟩
        refine z6<|zOn 9 rfl<|zb (hjs) rfl<|z6<|zOn 11 rfl<|zc sizeOf75 rfl rfl rfl rfl rfl rfl .t1 rfl<|zg (ze (zj .head))<|zg (ze (zj .t1))<|z6<|zDn ?_
        exact ⟨i15, zR12, zR1, zLe, trivial⟩
      ·refine y5 rfl (zp (.l (.rest _))) (hrr) ?_
       rintro r67 O67 ⟨rfl, rfl⟩
       refine z6<|yc (i := 3) (j := 10) rfl rfl (by kernel_rfl) ?_ ?_
       ·refine z2 (qc (j := q.1.toNat) isAgg75 sizeOf75 rfl ⟨_, .head⟩ hlv)<|z6<|yc (i := 9) (j := 10) rfl rfl (by kernel_rfl) ?_ ?_
        ·refine zb (hjs) rfl<|z6<|zOn 10 rfl<|zo (cs := [.int .i64 0, .int .i64 0]) zeroValue75 rfl rfl<|fun i15 => z6<|zOn 11 rfl<|zc sizeOf75 rfl rfl rfl rfl rfl rfl .head rfl<|z6<|zDn ?_
         exact ⟨i15, zR12, zR1, zLe, trivial⟩
        ·refine zo (cs := [.int .i64 0, .int .i64 0]) zeroValue75 rfl rfl<|fun i15 => z6<|zOn 9 rfl<|zb (hjs) rfl<|z6<|zOn 11 rfl<|zc sizeOf75 rfl rfl rfl rfl rfl rfl .head rfl<|z6<|zDn ?_
         exact ⟨i15, zR12, zR1, zLe, trivial⟩
       ·refine zo (cs := [.int .i64 0, .int .i64 0]) zeroValue75 rfl rfl<|fun i15 => z6<|zOn 3 rfl<|z2 (qc (j := q.1.toNat) isAgg75 sizeOf75 rfl ⟨_, .t1⟩ hlv)<|z6<|zOn 9 rfl<|zb (hjs) rfl<|z6<|zOn 11 rfl<|zc sizeOf75 rfl rfl rfl rfl rfl rfl .head rfl<|z6<|zDn ?_
        exact ⟨i15, zR12, zR1, zLe, trivial⟩
      ·refine zo (cs := [.int .i64 0, .int .i64 0]) zeroValue75 rfl rfl<|fun i15 => z6<|yc (i := 3) (j := 8) rfl rfl (by kernel_rfl) ?_ ?_
       ·refine z2 (qc (j := q.1.toNat) isAgg75 sizeOf75 rfl ⟨_, .t1⟩ hlv)<|z6<|zOn 8 rfl<|y5 rfl (zp (.r (.l (.rest _)))) (hrr) ?_
        rintro r67 O67 ⟨rfl, rfl⟩
        refine z6<|zOn 9 rfl<|zb (hjs) rfl<|z6<|zOn 11 rfl<|zc sizeOf75 rfl rfl rfl rfl rfl rfl .t1 rfl<|zg (ze (zj .head))<|zg (ze (zj .t1))<|z6<|zDn ?_
        exact ⟨i15, zR12, zR1, zLe, trivial⟩
       ·refine y5 rfl (zp (.r (.l (.rest _)))) (hrr) ?_
        rintro r67 O67 ⟨rfl, rfl⟩
        refine z6<|zOn 3 rfl<|z2 (qc (j := q.1.toNat) isAgg75 sizeOf75 rfl ⟨_, .head⟩ hlv)<|z6<|zOn 9 rfl<|zb (hjs) rfl<|z6<|zOn 11 rfl<|zc sizeOf75 rfl rfl rfl rfl rfl rfl .t1 rfl<|zg (ze (zj .head))<|zg (ze (zj .t1))<|z6<|zDn ?_
        exact ⟨i15, zR12, zR1, zLe, trivial⟩
     ·refine y5 rfl (zp (.l (.rest _))) (hrr) ?_
      rintro r67 O67 ⟨rfl, rfl⟩
      refine z6<|yc (i := 2) (j := 10) rfl rfl (by kernel_rfl) ?_ ?_
      ·refine z2 (qd (j := q.1.toNat) underlying47 sizeOf75 rfl rfl (by omega) ⟨_, .head⟩ hll (by omega))<|z6<|yc (i := 3) (j := 10) rfl rfl (by kernel_rfl) ?_ ?_
       ·refine z2 (qc (j := q.1.toNat) isAgg75 sizeOf75 rfl ⟨_, .head⟩ hlv)<|z6<|yc (i := 9) (j := 10) rfl rfl (by kernel_rfl) ?_ ?_
        ·refine zb (hjs) rfl<|z6<|zOn 10 rfl<|zo (cs := [.int .i64 0, .int .i64 0]) zeroValue75 rfl rfl<|fun i15 => z6<|zOn 11 rfl<|zc sizeOf75 rfl rfl rfl rfl rfl rfl .head rfl<|z6<|zDn ?_
         exact ⟨i15, zR12, zR1, zLe, trivial⟩
        ·refine zo (cs := [.int .i64 0, .int .i64 0]) zeroValue75 rfl rfl<|fun i15 => z6<|zOn 9 rfl<|zb (hjs) rfl<|z6<|zOn 11 rfl<|zc sizeOf75 rfl rfl rfl rfl rfl rfl .head rfl<|z6<|zDn ?_
         exact ⟨i15, zR12, zR1, zLe, trivial⟩
       ·refine zo (cs := [.int .i64 0, .int .i64 0]) zeroValue75 rfl rfl<|fun i15 => z6<|zOn 3 rfl<|z2 (qc (j := q.1.toNat) isAgg75 sizeOf75 rfl ⟨_, .t1⟩ hlv)<|z6<|zOn 9 rfl<|zb (hjs) rfl<|z6<|zOn 11 rfl<|zc sizeOf75 rfl rfl rfl rfl rfl rfl .head rfl<|z6<|zDn ?_
        exact ⟨i15, zR12, zR1, zLe, trivial⟩
      ·refine zo (cs := [.int .i64 0, .int .i64 0]) zeroValue75 rfl rfl<|fun i15 => z6<|zOn 2 rfl<|z2 (qd (j := q.1.toNat) underlying47 sizeOf75 rfl rfl (by omega) ⟨_, .t1⟩ hll (by omega))<|z6<|zOn 3 rfl<|z2 (qc (j := q.1.toNat) isAgg75 sizeOf75 rfl ⟨_, .t1⟩ hlv)<|z6<|zOn 9 rfl<|zb (hjs) rfl<|z6<|zOn 11 rfl<|zc sizeOf75 rfl rfl rfl rfl rfl rfl .head rfl<|z6<|zDn ?_
       exact ⟨i15, zR12, zR1, zLe, trivial⟩
     ·refine zo (cs := [.int .i64 0, .int .i64 0]) zeroValue75 rfl rfl<|fun i15 => z6<|yc (i := 2) (j := 8) rfl rfl (by kernel_rfl) ?_ ?_
      ·refine z2 (qd (j := q.1.toNat) underlying47 sizeOf75 rfl rfl (by omega) ⟨_, .t1⟩ hll (by omega))<|z6<|yc (i := 3) (j := 8) rfl rfl (by kernel_rfl) ?_ ?_
       ·refine z2 (qc (j := q.1.toNat) isAgg75 sizeOf75 rfl ⟨_, .t1⟩ hlv)<|z6<|zOn 8 rfl<|y5 rfl (zp (.r (.l (.rest _)))) (hrr) ?_
        rintro r67 O67 ⟨rfl, rfl⟩
        refine z6<|zOn 9 rfl<|zb (hjs) rfl<|z6<|zOn 11 rfl<|zc sizeOf75 rfl rfl rfl rfl rfl rfl .t1 rfl<|zg (ze (zj .head))<|zg (ze (zj .t1))<|z6<|zDn ?_
        exact ⟨i15, zR12, zR1, zLe, trivial⟩
       ·refine y5 rfl (zp (.r (.l (.rest _)))) (hrr) ?_
        rintro r67 O67 ⟨rfl, rfl⟩
        refine z6<|zOn 3 rfl<|z2 (qc (j := q.1.toNat) isAgg75 sizeOf75 rfl ⟨_, .head⟩ hlv)<|z6<|zOn 9 rfl<|zb (hjs) rfl<|z6<|zOn 11 rfl<|zc sizeOf75 rfl rfl rfl rfl rfl rfl .t1 rfl<|zg (ze (zj .head))<|zg (ze (zj .t1))<|z6<|zDn ?_
        exact ⟨i15, zR12, zR1, zLe, trivial⟩
      ·refine y5 rfl (zp (.r (.l (.rest _)))) (hrr) ?_
       rintro r67 O67 ⟨rfl, rfl⟩
       refine z6<|zOn 2 rfl<|z2 (qd (j := q.1.toNat) underlying47 sizeOf75 rfl rfl (by omega) ⟨_, .head⟩ hll (by omega))<|z6<|zOn 3 rfl<|z2 (qc (j := q.1.toNat) isAgg75 sizeOf75 rfl ⟨_, .head⟩ hlv)<|z6<|zOn 9 rfl<|zb (hjs) rfl<|z6<|zOn 11 rfl<|zc sizeOf75 rfl rfl rfl rfl rfl rfl .t1 rfl<|zg (ze (zj .head))<|zg (ze (zj .t1))<|z6<|zDn ?_
       exact ⟨i15, zR12, zR1, zLe, trivial⟩
    ·rintro z _
     refine za<|za<|yb (γ := Bool) [1, 3, 4, 9, 10, 11, 12, 14, 15, 52, 53, 54] (fun u => [(89, .bool u)]) (fun u => [(z, .cells 75 (encZ (J))), (io, .grow 2 75 (lC (l)))]) (fun u => u = (q.2 && (decide (4 ≤ (m : Int) + 1) && decide (A.1 ≤ A.2)))) ?_ (fun _ _ h => h) ?_
     ·refine zt (fun j => false) (by kernel_rfl) rfl (zp (.r (.r (.rest _))))<|zTk 0 rfl (zMf rfl)<|zTk 1 rfl (zMi rfl)<|zTk 2 rfl (zIM i underlying111 sizeOf4 rfl rfl rfl hqg2)<|zTk 3 rfl (yz (c := .bool _) isAgg4 rfl)<|zTk 4 rfl (zMb rfl)<|qb (s := 73) rfl (fun c1=>?_) (fun c1=>?_)
      ·refine zTt 5 rfl rfl rfl c1 (zMi rfl)<|zTt 6 rfl rfl rfl c1 (q0 rfl rfl)<|zTk 7 rfl (zPt rfl c1 rfl)<|zTk 8 rfl (zMb rfl)<|qb (s := 77) rfl (fun c2=>?_) (fun c2=>?_)
       ·refine zTt 9 rfl rfl rfl c2 (zMo rfl)<|zTt 10 rfl rfl rfl c2 (zMi rfl)<|zTt 11 rfl rfl rfl c2 (qd (j := q.1.toNat) underlying47 sizeOf75 rfl rfl (by omega) ⟨_, .t1⟩ hll (by omega))<|zTt 12 rfl rfl rfl c2 (zq underlying75 rfl sizeOf2 (by decide) rfl rfl)<|zTt 13 rfl rfl rfl c2 (Gv.loadR0 (j := q.1.toNat) isAgg2 rfl ⟨_, .t1⟩ hlv)<|zTt 14 rfl rfl rfl c2 (zMo rfl)<|zTt 15 rfl rfl rfl c2 (zMi rfl)<|zTt 16 rfl rfl rfl c2 (qd (j := q.1.toNat) underlying47 sizeOf75 rfl rfl (by omega) ⟨_, .t1⟩ hll (by omega))<|zTt 17 rfl rfl rfl c2 (zq underlying75 rfl sizeOf2 (by decide) rfl rfl)<|zTt 18 rfl rfl rfl c2 (Gv.loadR1 (j := q.1.toNat) isAgg2 rfl ⟨_, .t1⟩ hlv)<|zTt 19 rfl rfl rfl c2 (Gv.leq rfl rfl)<|zTk 20 rfl (zPt rfl c2 rfl)<|zDn ?_
        exact ⟨_, zR12, zR1, zLe, by clear hnw hnj hput hsnoc hrr hoks; simp_all <;> omega⟩
       ·refine zTf 9 rfl rfl rfl c2<|zTf 10 rfl rfl rfl c2<|zTf 11 rfl rfl rfl c2<|zTf 12 rfl rfl rfl c2<|zTf 13 rfl rfl rfl c2<|zTf 14 rfl rfl rfl c2<|zTf 15 rfl rfl rfl c2<|zTf 16 rfl rfl rfl c2<|zTf 17 rfl rfl rfl c2<|zTf 18 rfl rfl rfl c2<|zTf 19 rfl rfl rfl c2<|zTk 20 rfl (zPf rfl c2 rfl)<|zDn ?_
        exact ⟨_, zR12, zR1, zLe, by clear hnw hnj hput hsnoc hrr hoks; simp_all <;> omega⟩
      ·refine zTf 5 rfl rfl rfl c1<|zTf 6 rfl rfl rfl c1<|zTk 7 rfl (zPf rfl c1 rfl)<|zTk 8 rfl (zMb rfl)<|zTf 9 rfl rfl rfl rfl<|zTf 10 rfl rfl rfl rfl<|zTf 11 rfl rfl rfl rfl<|zTf 12 rfl rfl rfl rfl<|zTf 13 rfl rfl rfl rfl<|zTf 14 rfl rfl rfl rfl<|zTf 15 rfl rfl rfl rfl<|zTf 16 rfl rfl rfl rfl<|zTf 17 rfl rfl rfl rfl<|zTf 18 rfl rfl rfl rfl<|zTf 19 rfl rfl rfl rfl<|zTk 20 rfl (zPf rfl rfl rfl)<|zDn ?_
       exact ⟨_, zR12, zR1, zLe, by clear hnw hnj hput hsnoc hrr hoks; simp_all <;> omega⟩
     ·rintro u hu
      refine yb (γ := Unit) [1, 3, 4, 9, 10, 11, 12, 14, 15, 52, 53, 54] (fun w => []) (fun w => [(z, .cells 75 (encZ (N))), (io, .grow 2 75 (lC (l)))]) (fun w => True) ?_ (fun _ _ h => h) ?_
      ·refine zy rfl (fun cu=>?_) (fun cu=>?_)
       ·have hw : q.2 = true ∧ how = 1 ∧ A.1 ≤ A.2 := by
         have := hu.symm.trans cu
         simp only [qw, qy] at this
         exact ⟨this.1, hh1.2 (by omega), this.2.2⟩
        have hNe := hnw hw.1 hw.2.1 hw.2.2
        obtain ⟨lo, hlo⟩ : ∃ lo, (if J.1 < A.1 ∧ tt.1 < J.1 then tt.1 else J.1) = lo := ⟨_, rfl⟩
        obtain ⟨hi3, hhi⟩ : ∃ hi3, (if A.2 < J.2 ∧ J.2 < tt.2 then tt.2 else J.2) = hi3 := ⟨_, rfl⟩
        rw [hlo, hhi] at hNe
        refine zSr<|z2 (zFF underlying26 rfl sizeOf22 rfl rfl)<|z2 (zLf isAgg22 rfl)<|z2 (zMi rfl)<|z2 (zIM q.1.toNat underlying22 sizeOf56 rfl rfl (by omega) hy)<|z2 (zFF underlying56 rfl sizeOf54 rfl rfl)<|z2 (zLi isAgg54 rfl)<|zb (hty) rfl<|zo (cs := [.int .i64 0, .int .i64 0]) zeroValue75 rfl rfl<|fun i16 => zc sizeOf75 rfl rfl rfl rfl rfl rfl .head rfl<|zg (ya (t := 16) rfl .head)<|z6<|za<|za<|yb (γ := Bool) [1, 3, 4, 9, 10, 11, 12, 14, 15, 16, 52, 53, 54] (fun u => [(111, .bool u)]) (fun u => [(z, .cells 75 (encZ (J))), (io, .grow 2 75 (lC (l)))]) (fun u => u = decide (J.1 < A.1 ∧ tt.1 < J.1)) ?_ (fun _ _ h => h) ?_
        ·refine zt (fun j => false) (by kernel_rfl) rfl (zp (.r (.r (.rest _))))<|zTk 0 rfl (zq underlying75 rfl sizeOf2 (by decide) rfl rfl)<|zTk 1 rfl (zu (c := .int _ _) isAgg2 rfl ⟨_, .head⟩ rfl)<|zTk 2 rfl (zMo rfl)<|zTk 3 rfl (zMi rfl)<|zTk 4 rfl (qd (j := q.1.toNat) underlying47 sizeOf75 rfl rfl (by omega) ⟨_, .t1⟩ hll (by omega))<|zTk 5 rfl (zq underlying75 rfl sizeOf2 (by decide) rfl rfl)<|zTk 6 rfl (Gv.loadR0 (j := q.1.toNat) isAgg2 rfl ⟨_, .t1⟩ hlv)<|zTk 7 rfl (y7 rfl rfl)<|zTk 8 rfl (zMb rfl)<|qb (s := 105) rfl (fun c3=>?_) (fun c3=>?_)
         ·refine zTt 9 rfl rfl rfl c3 (zFF underlying75 rfl sizeOf2 rfl rfl)<|zTt 10 rfl rfl rfl c3 (zLi isAgg2 rfl)<|zTt 11 rfl rfl rfl c3 (zq underlying75 rfl sizeOf2 (by decide) rfl rfl)<|zTt 12 rfl rfl rfl c3 (zu (c := .int _ _) isAgg2 rfl ⟨_, .head⟩ rfl)<|zTt 13 rfl rfl rfl c3 (y7 rfl rfl)<|zTk 14 rfl (zPt rfl c3 rfl)<|zDn ?_
          exact ⟨_, zR13, zR1, zLe, by clear hnw hnj hput hsnoc hrr hoks hNe hlo hhi; simp_all <;> omega⟩
         ·refine zTf 9 rfl rfl rfl c3<|zTf 10 rfl rfl rfl c3<|zTf 11 rfl rfl rfl c3<|zTf 12 rfl rfl rfl c3<|zTf 13 rfl rfl rfl c3<|zTk 14 rfl (zPf rfl c3 rfl)<|zDn ?_
          exact ⟨_, zR13, zR1, zLe, by clear hnw hnj hput hsnoc hrr hoks hNe hlo hhi; simp_all <;> omega⟩
        ·rintro u hu2
         subst hu2
         refine yb (γ := Unit) [1, 3, 4, 9, 10, 11, 12, 14, 15, 16, 52, 53, 54] (fun w => []) (fun w => [(z, .cells 75 (encZ ((lo, J.2)))), (io, .grow 2 75 (lC (l)))]) (fun w => True) ?_ (fun _ _ h => h) ?_
         ·refine zl rfl (fun c1=>?_) (fun c1=>?_)
          ·refine zRg<|z2 (zFF underlying75 rfl sizeOf2 rfl rfl)<|z2 (zLi isAgg2 rfl)<|z2 (zq underlying75 rfl sizeOf2 (by decide) rfl rfl)<|yu (l := [_]) (new := [_, _]) sizeOf2 rfl rfl rfl rfl rfl rfl .head rfl rfl<|z6 ?_
           exact ⟨(), zR13, trivial, ⟨_, (.refl _), (by rw [← hlo, if_pos c1] <;> rfl)⟩, trivial⟩
          ·refine zf ?_
           exact ⟨(), zR13, trivial, ⟨_, (.refl _), (by rw [← hlo, if_neg c1] <;> rfl)⟩, trivial⟩
         ·rintro _ _
          refine za<|yb (γ := Bool) [1, 3, 4, 9, 10, 11, 12, 14, 15, 16, 52, 53, 54] (fun u => [(129, .bool u)]) (fun u => [(z, .cells 75 (encZ ((lo, J.2)))), (io, .grow 2 75 (lC (l)))]) (fun u => u = decide (A.2 < J.2 ∧ J.2 < tt.2)) ?_ (fun _ _ h => h) ?_
          ·refine zt (fun j => false) (by kernel_rfl) rfl (zp (.r (.r (.rest _))))<|zTk 0 rfl (zq underlying75 rfl sizeOf2 (by decide) rfl rfl)<|zTk 1 rfl (zu (c := .int _ _) isAgg2 rfl ⟨_, .head⟩ rfl)<|zTk 2 rfl (zMo rfl)<|zTk 3 rfl (zMi rfl)<|zTk 4 rfl (qd (j := q.1.toNat) underlying47 sizeOf75 rfl rfl (by omega) ⟨_, .t1⟩ hll (by omega))<|zTk 5 rfl (zq underlying75 rfl sizeOf2 (by decide) rfl rfl)<|zTk 6 rfl (Gv.loadR1 (j := q.1.toNat) isAgg2 rfl ⟨_, .t1⟩ hlv)<|zTk 7 rfl (yq rfl rfl)<|zTk 8 rfl (zMb rfl)<|qb (s := 123) rfl (fun c4=>?_) (fun c4=>?_)
           ·refine zTt 9 rfl rfl rfl c4 (zFF underlying75 rfl sizeOf2 rfl rfl)<|zTt 10 rfl rfl rfl c4 (zLi isAgg2 rfl)<|zTt 11 rfl rfl rfl c4 (zq underlying75 rfl sizeOf2 (by decide) rfl rfl)<|zTt 12 rfl rfl rfl c4 (zu (c := .int _ _) isAgg2 rfl ⟨_, .head⟩ rfl)<|zTt 13 rfl rfl rfl c4 (yq rfl rfl)<|zTk 14 rfl (zPt rfl c4 rfl)<|zDn ?_
            exact ⟨_, zR13, zR1, zLe, by clear hnw hnj hput hsnoc hrr hoks hNe hlo hhi; simp_all <;> omega⟩
           ·refine zTf 9 rfl rfl rfl c4<|zTf 10 rfl rfl rfl c4<|zTf 11 rfl rfl rfl c4<|zTf 12 rfl rfl rfl c4<|zTf 13 rfl rfl rfl c4<|zTk 14 rfl (zPf rfl c4 rfl)<|zDn ?_
            exact ⟨_, zR13, zR1, zLe, by clear hnw hnj hput hsnoc hrr hoks hNe hlo hhi; simp_all <;> omega⟩
          ·rintro u hu2
           subst hu2
           refine zl rfl (fun c1=>?_) (fun c1=>?_)
           ·refine zRg<|z2 (zFF underlying75 rfl sizeOf2 rfl rfl)<|z2 (zLi isAgg2 rfl)<|z2 (zq underlying75 rfl sizeOf2 (by decide) rfl rfl)<|yu (l := [_]) (new := [_, _]) sizeOf2 rfl rfl rfl rfl rfl rfl .head rfl rfl<|z6 ?_
            exact ⟨(), zR12, trivial, ⟨_, (.refl _), (by rw [hNe, ← hhi, if_pos c1] <;> rfl)⟩, trivial⟩
           ·refine zf ?_
            exact ⟨(), zR12, trivial, ⟨_, (.refl _), (by rw [hNe, ← hhi, if_neg c1] <;> rfl)⟩, trivial⟩
       ·have hNe : N = J := hnj (fun h => by
         have := hu.symm.trans cu
         have h4 := hh1.1 h.2.1
         rw [h.1, qu h.2.2, qu (by omega)] at this
         cases this)
        refine zf ?_
        exact ⟨(), zR12, trivial, ⟨_, (.refl _), (by rw [hNe])⟩, trivial⟩
      ·rintro _ _
       refine za<|zt (fun j => false) (by kernel_rfl) rfl (zp (.r (.r (.rest _))))<|zTk 0 rfl (yp isAgg75 sizeOf75 rfl ⟨_, .head⟩ rfl)<|zTk 1 rfl (zMo rfl)<|zTk 2 rfl (zMi rfl)<|zTk 3 rfl (qd (j := q.1.toNat) underlying47 sizeOf75 rfl rfl (by omega) ⟨_, .t1⟩ hll (by omega))<|zTk 4 rfl (qc (j := q.1.toNat) isAgg75 sizeOf75 rfl ⟨_, .t1⟩ hlv)<|zTk 5 rfl (Gv.neqP (xs := [.int _ _, .int _ _]) (ys := [.int _ _, .int _ _]) (by kernel_rfl) rfl rfl (fun w => eq_rrange _ _ _ _ w))<|zDn<|zy rfl (fun cn=>?_) (fun cn=>?_)
       ·have hne : ¬ N = A := notdecT ((by rw [rng_eq] at cn; exact cn))
        refine zSr<|z2 (zMo rfl)<|z2 (zMi rfl)<|z2 (yp isAgg75 sizeOf75 rfl ⟨_, .head⟩ rfl)<|z2 (qd (j := q.1.toNat) underlying47 sizeOf75 rfl rfl (by omega) ⟨_, .t1⟩ hll (by omega))<|AOps.storeR (j := q.1.toNat) sizeOf75 rfl rfl .t1 (by rw [hll]; omega)<|z6<|yd (GStep.drop .head)<|zRg<|z2 (zAb rfl)<|z6<|zRg<|z2 (zAd rfl rfl)<|z2 (zMi rfl)<|z6 ?_
        exact ⟨(i + 1, l.set q.1.toNat N, true), zR8, zR2, zLe, ⟨hi2, by rw [hsnoc, qv hne]; rfl, hoks⟩, by dsimp only; omega⟩
       ·have heq : N = A := notdecF ((by rw [rng_eq] at cn; exact cn))
        have hse : l.set q.1.toNat N = l := by rw [heq, ← hA]; exact set_same2 hll h0 h1
        refine yd (GStep.drop .head)<|zf<|zRg<|z2 (zAd rfl rfl)<|z2 (zMi rfl)<|z6 ?_
        exact ⟨(i + 1, l, c), zR8, zR2, zLe, ⟨hi2, by rw [hsnoc, hse, qu heq]; rfl, hl⟩, by dsimp only; omega⟩
   ·have hin : i = (madeL f).length := by simp at ci; omega
    subst hin
    rw [qm] at hs
    have hl1 : l = rndF f (m + 1) := by rw [← hr2, ← hs]
    have hc1 : c = true ↔ ¬ rndF f (m + 1) = rndF f m := by
     rw [← hs] at hr3
     simpa using hr3
    have hcK : c = true ↔ m + 1 ≤ K := by
     rw [hc1]
     constructor
     ·intro h
      rcases (by omega : m = K ∨ m < K) with e | e
      ·rw [e] at h; exact absurd hK.still h
      ·omega
     ·intro h; exact hK.moves m (by omega)
    rw [hl1]
    refine y3<|zRg<|z2 (zMi rfl)<|z2 (zAd rfl rfl)<|z2 (zAi rfl)<|z6 ?_
    exact ⟨(m + 1, c), zR5, ⟨(congrArg (AV.int .i64) (by omega)), rfl, trivial⟩, zLe, ⟨by omega, hcK⟩, by dsimp only; omega⟩
  ·have hmK : m = K + 1 := by
    have : ¬ m ≤ K := fun h => by rw [hag.2 h] at ca; cases ca
    omega
   subst hmK
   rw [hK.still]
   refine y3<|za<|zSr<|z2 (zMi rfl)<|z6<|zi<|y6 (γ := Nat) [1, 3, 4, 9] (fun q => [(144, .int .i64 q)]) (fun q => [(io, .grow 2 75 (lC (narN f (rndF f K) q)))]) (fun q => q ≤ 2) (fun q => 2 - q) 0 zR1 zLe (qk _) ?_
   rintro q hq2
   refine zSr<|z2 (y7 rfl rfl)<|z6<|za<|zl rfl (fun cq=>?_) (fun cq=>?_)
   ·have hok0 := narN_ok hR (rndF_g hR K).ok q
    obtain ⟨L0, hL0⟩ : ∃ L0, narN f (rndF f K) q = L0 := ⟨_, rfl⟩
    have hnx : narN f (rndF f K) (q + 1) = narV f L0 := by rw [← hL0]; rfl
    rw [hL0] at hok0 ⊢
    refine zf<|za<|zi<|zSr<|z2 (zMf rfl)<|z2 (zz underlying23 rfl)<|z2 (zMi rfl)<|z6<|zi<|y6 (γ := Nat × List Rng) [1, 3, 4, 9, 144, 146, 147] (fun g => [(148, .int .i64 g.1)]) (fun g => [(io, .grow 2 75 (lC g.2))]) (fun g => g.1 ≤ (madeL f).length ∧ g.2 = ((madeV f).take g.1).foldl (narrow (rF f)) L0 ∧ okL64 f.vars.length g.2) (fun g => (madeL f).length - g.1) (0, L0) zR1 zLe (⟨qk _, rfl, hok0⟩) ?_
    rintro ⟨i, l⟩ ⟨hi, hs, hl⟩
    try dsimp only at *
    refine zSr<|z2 (y7 rfl rfl)<|z6<|za<|zl rfl (fun ci=>?_) (fun ci=>?_)
    ·have hi2 : i < (madeL f).length := by simp at ci; omega
     obtain ⟨p, hqe⟩ : ∃ p, (madeL f)[i] = p := ⟨_, rfl⟩
     have hq : p ∈ madeL f := hqe ▸ ql hi2
     have hqv : p.1 ∈ madeV f := List.mem_map.2 ⟨p, hq, rfl⟩
     have hqg : (madeL f)[i]? = some p := by rw [qh hi2, hqe]
     have hqg1 : ((madeL f).map (·.1))[i]? = some p.1 := by rw [qp, hqg]; rfl
     obtain ⟨h0, h1, h2, h3⟩ := hmo p hq
     have hlv := lv_at hl.1 h0 h1
     have hll := hl.1
     have hrr := refRuleO (E := E) f hF hE l hl io 75 p.1 h0 h1 h2
     have hiv : i < (madeV f).length := by unfold madeV; rw [qo]; exact hi2
     have hvi : (madeV f)[i] = p.1 := by have h := qh hiv; rw [show (madeV f)[i]? = some p.1 from hqg1] at h; exact (Option.some.inj h).symm
     have hsn : ((madeV f).take (i + 1)).foldl (narrow (rF f)) L0 = narrow (rF f) l p.1 := by rw [qi hiv, hvi, List.foldl_append, ← hs]; rfl
     refine zf<|za<|zi<|zSr<|z2 (zIM i underlying23 sizeOf3 rfl rfl rfl hqg1)<|z2 (zLi isAgg3 rfl)<|z2 (zAi rfl)<|z6<|yb (γ := Unit) [1, 3, 4, 9, 144, 146, 147, 148] (fun w => []) (fun w => [(io, .grow 2 75 (lC (narrow (rF f) l p.1)))]) (fun w => True) ?_ (fun _ _ h => h) ?_
     ·refine zt (fun j => Nat.beq j 13) (by kernel_rfl) rfl (zp (.rest _))<|zTk 0 rfl (zMo rfl)<|zTk 1 rfl (zMi rfl)<|zTk 2 rfl (zMo rfl)<|zTk 3 rfl (zMi rfl)<|zTk 6 rfl (zh isAgg26 sizeOf26 rfl rfl)<|zTk 7 rfl (zMf rfl)<|zTk 8 rfl (zMo rfl)<|zTk 9 rfl (zMi rfl)<|yc (i := 4) (j := 10) rfl rfl (by kernel_rfl) ?_ ?_
      ·refine z2 (qd (j := p.1.toNat) underlying47 sizeOf75 rfl rfl (by omega) ⟨_, .head⟩ hll (by omega))<|z6<|yc (i := 5) (j := 10) rfl rfl (by kernel_rfl) ?_ ?_
       ·refine z2 (qc (j := p.1.toNat) isAgg75 sizeOf75 rfl ⟨_, .head⟩ hlv)<|z6<|zOn 10 rfl<|y5 rfl (zp (.l (.rest _))) (hrr) ?_
        rintro r162 O162 ⟨rfl, rfl⟩
        refine z6<|zOn 11 rfl<|zb (rMeet_s (lv l p.1) (rF f l p.1)) rfl<|z6<|zOn 12 rfl<|z2 (qd (j := p.1.toNat) underlying47 sizeOf75 rfl rfl (by omega) ⟨_, .head⟩ hll (by omega))<|z6<|yf<|yl (i := 13) rfl (by kernel_rfl) (by kernel_rfl)<|AOps.storeR (j := p.1.toNat) sizeOf75 rfl rfl .head (by rw [hll]; omega)<|z6<|yh (by kernel_rfl) ?_
        exact ⟨(), zR8, trivial, zLe, trivial⟩
       ·refine y5 rfl (zp (.l (.rest _))) (hrr) ?_
        rintro r162 O162 ⟨rfl, rfl⟩
        refine z6<|zOn 5 rfl<|z2 (qc (j := p.1.toNat) isAgg75 sizeOf75 rfl ⟨_, .head⟩ hlv)<|z6<|zOn 11 rfl<|zb (rMeet_s (lv l p.1) (rF f l p.1)) rfl<|z6<|zOn 12 rfl<|z2 (qd (j := p.1.toNat) underlying47 sizeOf75 rfl rfl (by omega) ⟨_, .head⟩ hll (by omega))<|z6<|yf<|yl (i := 13) rfl (by kernel_rfl) (by kernel_rfl)<|AOps.storeR (j := p.1.toNat) sizeOf75 rfl rfl .head (by first | omega | (simp; omega))<|z6<|yh (by kernel_rfl) ?_
        exact ⟨(), zR8, trivial, zLe, trivial⟩
      ·refine y5 rfl (zp (.l (.rest _))) (hrr) ?_
       rintro r162 O162 ⟨rfl, rfl⟩
       refine z6<|zOn 4 rfl<|z2 (qd (j := p.1.toNat) underlying47 sizeOf75 rfl rfl (by omega) ⟨_, .head⟩ hll (by omega))<|z6<|zOn 5 rfl<|z2 (qc (j := p.1.toNat) isAgg75 sizeOf75 rfl ⟨_, .head⟩ hlv)<|z6<|zOn 11 rfl<|zb (rMeet_s (lv l p.1) (rF f l p.1)) rfl<|z6<|zOn 12 rfl<|z2 (qd (j := p.1.toNat) underlying47 sizeOf75 rfl rfl (by omega) ⟨_, .head⟩ hll (by omega))<|z6<|yf<|yl (i := 13) rfl (by kernel_rfl) (by kernel_rfl)<|AOps.storeR (j := p.1.toNat) sizeOf75 rfl rfl .head (by first | omega | (simp; omega))<|z6<|yh (by kernel_rfl) ?_
       exact ⟨(), zR8, trivial, zLe, trivial⟩
     ·rintro _ _
      refine zRg<|z2 (zAd rfl rfl)<|z2 (zMi rfl)<|z6 ?_
      exact ⟨(i + 1, narrow (rF f) l p.1), zR7, zR1, zLe, ⟨hi2, hsn.symm, narrow_ok hR hl hqv⟩, by dsimp only; omega⟩
    ·have hin : i = (madeL f).length := by simp at ci; omega
     subst hin
     rw [show (madeL f).length = (madeV f).length by unfold madeV; rw [qo], qm] at hs
     rw [hs]
     refine y3<|zRg<|z2 (zAd rfl rfl)<|z2 (zMi rfl)<|z6 ?_
     exact ⟨q + 1, zR4, zR1, ⟨_, (.refl _), by rw [hnx]; rfl⟩, by omega, by omega⟩
   ·obtain rfl : q = 2 := by omega
    refine y3<|zSr<|z2 (zMo rfl)<|z2 (zAo rfl)<|z6<|yd (GStep.knowR (t := 2) rfl .head hend.1)<|zd<|zm (x := .fro _ _) rfl ?_
    rfl
end Go.Proofs.YtjnpcfpecilejaaGreatDoor
namespace Go.Proofs.YtjnpcfpecilejaaGreatDoor
open Go.Proofs.Tryz
open Go.Proofs
def Imp (x y : AV) : Prop := ∀ I v, RepV I x v → RepV I y v
def ImpL (xs ys : List AV) : Prop := ∀ I vs, RepL I xs vs → RepL I ys vs
theorem Imp.refl (x : AV) : Imp x x := fun _ _ h => h
theorem Imp.nil (k : Nat) : Imp (.raw (.slice none 0 0)) (.fro k []) := fun _ _ h => ⟨none, 0, 0, h, rfl, Nat.le_refl _, fun _ => rfl, trivial⟩
theorem ImpL.nil : ImpL [] [] := fun _ _ h => h
theorem ImpL.cons {x y : AV} {xs ys : List AV} (h : Imp x y) (hs : ImpL xs ys) : ImpL (x :: xs) (y :: ys) := fun I _ ⟨v, us, e, h1, h2⟩ => ⟨v, us, e, h I v h1, hs I us h2⟩
theorem Imp.agg {xs ys : List AV} (h : ImpL xs ys) : Imp (.agg xs) (.agg ys) := fun I _ ⟨vs, e, h1⟩ => ⟨vs, e, h I vs h1⟩
end Go.Proofs.YtjnpcfpecilejaaGreatDoor
namespace Go.Proofs.YtjnpcfpecilejaaGreatDoor
open Go.Proofs.Tryz
open Go.Proofs Go.Lib Go.Shelf Go.RowKit
theorem pl56 : Places prog 56 #[(0, 1), (1, 1)] [.str ⟨#[]⟩, .int .i64 0] := ⟨_, _, underlying56, zeroValue56, fun w => by kernel_rfl, rfl⟩
theorem ps22_2 : PlacesS prog 22 56 2 2 [.str ⟨#[]⟩, .int .i64 0, .str ⟨#[]⟩, .int .i64 0] := ⟨_, underlying22, sizeOf56, zeroValue56, by decide, by decide, by kernel_rfl⟩
theorem pl33 : Places prog 33 #[(0, 1), (1, 1), (2, 1), (3, 1)] [.int .i64 0, .int .i64 0, .raw (.slice none 0 0), .int .i64 0] := ⟨_, _, underlying33, zeroValue33, fun w => by kernel_rfl, rfl⟩
theorem ps60_2 : PlacesS prog 60 33 2 4 [.int .i64 0, .int .i64 0, .raw (.slice none 0 0), .int .i64 0, .int .i64 0, .int .i64 0, .raw (.slice none 0 0), .int .i64 0] := ⟨_, underlying60, sizeOf33, zeroValue33, by decide, by decide, by kernel_rfl⟩
theorem pl64 : Places prog 64 #[(0, 1), (1, 1), (2, 2)] [.int .i64 0, .int .i64 0, .int .i64 0, .int .i64 0] := ⟨_, _, underlying64, zeroValue64, fun w => by kernel_rfl, rfl⟩
variable {E : World}
set_option maxRecDepth 20000
def lives22 : PFunc := ⟨[⟨⟨#[110]⟩, 0⟩, ⟨⟨#[109]⟩, 0⟩], [], [⟨⟨#[97]⟩, [], [⟨0, 0, [], 5⟩, ⟨2, 1, [0, 0], 0⟩], ⟨2, 1, 0, 0⟩⟩]⟩
theorem small22 : small lives22 := by unfold small lives22; simp [smallBlk]; decide
theorem sing22 : (typedB lives22 && singB lives22) = true := by decide +kernel
theorem nums22 : ∀ b ∈ lives22.blocks, ∀ x ∈ b.insts, is64 x.num := by decide
theorem stops22 : Stops lives22 1 := ⟨by decide +kernel, fun i hi => by obtain rfl : i = 0 := (by omega); decide +kernel⟩
theorem end22 : endF lives22 1 = [(5, 5), (10, 10)] := by decide +kernel
theorem lives22_spec (hL : Letters E) : AFun prog E 32 [] (.bool true) := by
 have hF := ruleF_of small22 sing22
 have ha := vOf_ok (E := E) lives22 small22 hL sing22 (made_rules (ruleF_ok hF nums22) (made_of hF)) 1 stops22
 rw [end22] at ha
 refine zn func32 rfl (by decide) rfl<|zSr<|z2 (zAb rfl)<|z6<|zSr<|z2 (zx (cps := [(0, [_])]) (rs := [_, .int .i64 0]) pl56 rfl rfl rfl)<|z2 (zx (cps := [(0, [_])]) (rs := [_, .int .i64 0]) pl56 rfl rfl rfl)<|y4 (rows := [[_, _], [_, _]]) ps22_2 rfl rfl rfl rfl rfl<|z2 (zx (cps := [(0, [_]), (1, [_]), (3, [_])]) (rs := [_, _, .raw (.slice none 0 0), _]) pl33 rfl rfl rfl)<|zg (GStep.slot (t := 7) rfl (Imp.agg (.cons (.refl _) (.cons (.refl _) (.cons (.nil 1) (.cons (.refl _) .nil))))))<|y4 (rows := [[_], [_]]) ps23_2 rfl rfl rfl rfl rfl<|z2 (zx (cps := [(0, [_]), (1, [_]), (2, [_])]) (rs := [_, _, _, .int .i64 0]) pl33 rfl rfl rfl)<|y4 (rows := [[_, _, _, _], [_, _, _, _]]) ps60_2 rfl rfl rfl rfl rfl<|z2 (zx (cps := [(0, [_]), (1, [_])]) (rs := [_, _, .int .i64 0, .int .i64 0]) pl64 rfl rfl rfl)<|z2 (zx (cps := [(0, [_]), (2, [_]), (3, [_, _, _, _])]) (rs := [_, .raw (.slice none 0 0), _, _, _, _, _]) pl66 rfl rfl rfl)<|zg (GStep.slot (t := 12) rfl (Imp.agg (.cons (.refl _) (.cons (.nil 3) (.cons (.refl _) (.cons (.refl _) (.cons (.refl _) (.cons (.refl _) (.cons (.refl _) .nil)))))))))<|y4 (rows := [[_, _, _, _, _, _, _]]) ps24_1 rfl rfl rfl rfl rfl<|z2 (zx (cps := [(0, [_]), (2, [_])]) (rs := [_, .raw (.slice none 0 0), _]) pl26 rfl rfl rfl)<|zg (GStep.slot (t := 14) rfl (Imp.agg (.cons (.refl _) (.cons (.nil 1) (.cons (.refl _) .nil)))))<|zo (cs := [.raw (.slice none 0 0), .raw (.slice none 0 0), .raw (.slice none 0 0)]) zeroValue26 rfl rfl<|fun i1 => zc sizeOf26 rfl rfl rfl rfl rfl rfl .head rfl<|zg (ya (t := 1) rfl .head)<|z6<|zSr<|z2 (zh isAgg26 sizeOf26 rfl rfl)<|zb (ha) rfl<|z2 (zMu rfl)<|z2 (Gv.extract (v := .fro _ _) rfl rfl)<|z2 (zXi rfl rfl)<|z2 (zAf rfl)<|z2 (zAi rfl)<|z6<|zSr<|z2 (zMi rfl)<|z2 (zw rfl rfl)<|z2 (zMb rfl)<|z8 rfl rfl rfl<|z2 (zMf rfl)<|z8 rfl rfl rfl<|z2 (zz underlying41 rfl) ?_
 refine z8 rfl rfl rfl<|z2 (zw rfl rfl)<|z2 (zPt rfl rfl rfl)<|z2 (zMb rfl)<|z8 rfl rfl rfl<|z2 (zMf rfl)<|z8 rfl rfl rfl<|z2 (zIM 1 underlying41 sizeOf74 rfl rfl rfl rfl)<|z8 rfl rfl rfl<|z2 (zh isAgg74 sizeOf74 rfl rfl)<|z8 rfl rfl rfl<|z2 (zx (cps := [(0, [_]), (1, [_])]) (rs := [_, _]) pl74 rfl rfl rfl)<|z8 rfl rfl rfl<|z2 (Gv.eqlP (xs := [.int _ _, .int _ _]) (ys := [.int _ _, .int _ _]) (by kernel_rfl) rfl rfl (fun w => eq_range _ _ _ _ w))<|z2 (zPt rfl rfl rfl)<|z2 (zAb rfl)<|z6<|zd<|zm (x := .bool _) rfl ?_
 rfl
end Go.Proofs.YtjnpcfpecilejaaGreatDoor
namespace Go.Proofs.YtjnpcfpecilejaaGreatDoor
open Go.Proofs.Tryz
open Go.Proofs Go.Lib Go.Shelf Go.RowKit
variable {E : World}
set_option maxRecDepth 20000
end Go.Proofs.YtjnpcfpecilejaaGreatDoor
namespace Go.Proofs.YtjnpcfpecilejaaGreatDoor
open Go.Proofs.Tryz
open Go.Proofs Go.Lib Go.Shelf Go.RowKit
variable {E : World}
set_option maxRecDepth 20000
theorem vOf_bad (f : PFunc) (hf : small f) (hL : Letters E) (h : (typedB f && singB f) = false) : AFun prog E 33 [.agg (encF f)] (.tup [.fro 2 (([] : List Rng).map encZ), .int .i64 3]) := by
 have hlk := look_bad (E := E) f hf hL h
 refine zn func33 rfl (by decide) rfl<|zSr<|y1 (cs := _) rfl rfl rfl<|z2 (zAr rfl)<|z2 (zAi rfl)<|z6<|zSr<|z2 (zh isAgg26 sizeOf26 rfl rfl)<|zb (hlk) rfl<|z2 (zMu rfl)<|z2 (Gv.extract (v := .raw _) rfl rfl)<|z2 (zXi rfl rfl)<|z2 (zAr rfl)<|z2 (zAi rfl)<|z6<|za<|zSr<|z2 (zMi rfl)<|z2 (yk rfl rfl)<|z6<|yr rfl rfl<|zSr<|z2 (zMi rfl)<|z2 (zAr rfl)<|z2 (zAi rfl)<|z6<|yd (GStep.slot (t := 2) rfl (Imp.nil 2))<|zd<|qa (x := .fro _ _) (y := .int _ _) rfl rfl ?_
 rfl
theorem back_spec (l : List Rng) (hl : l.length ≤ 100000) : AFun prog E 34 [.fro 2 (l.map encZ)] (.fro 2 (l.map encZ)) := by
 refine zn func34 rfl (by decide) rfl<|zSr<|z2 (zAr rfl)<|z6<|zSr<|z2 (zAr rfl)<|z6<|za<|zSr<|z2 (zMf rfl)<|z2 (zz underlying47 rfl)<|z2 (zMi rfl)<|z6<|adopt_wp (t := 3) (k := 2) (T := 74) rfl<|fun i3 => zi<|y6 (γ := Nat × Nat) [6, 7] (fun g => [(8, .int .i64 g.1), (3, .own g.2 g.1)]) (fun g => [(g.2, .grow 2 74 (lC (l.take g.1)))]) (fun g => g.1 ≤ l.length) (fun g => l.length - g.1) (0, i3) zR2 zLe (qk _) ?_
 rintro ⟨k, io⟩ hk
 try dsimp only at *
 refine zSr<|z2 (y7 rfl rfl)<|z6<|za<|zl rfl (fun ck=>?_) (fun ck=>?_)
 ·have hk2 : k < l.length := by simp at ck; omega
  refine zf<|za<|zi<|zSr<|z2 (zIM k underlying47 sizeOf75 rfl rfl rfl (lv_nat hk2))<|z2 (zh isAgg75 sizeOf75 rfl rfl)<|zo (cs := [.int .i64 0, .int .i64 0]) zeroValue75 rfl rfl<|fun i5 => zc sizeOf75 rfl rfl rfl rfl rfl rfl .head rfl<|zg (ya (t := 5) rfl .head)<|z6<|zRg<|z2 (zMo rfl)<|z2 (zh isAgg75 sizeOf75 rfl rfl)<|y4 (rows := [[_, _]]) ps41_1 rfl rfl rfl rfl rfl<|yo (k := 2) underlying41 type74 rfl rfl rfl rfl rfl (fun _ => .head) (by rw [lC_len, List.length_take]; omega) (by decide) rfl (by show (_ + 1) * 16 ≤ _; omega) (by show _ + 1 ≤ _; omega)<|fun i15 => z2 (zAo rfl)<|z6<|zRg<|z2 (zAd rfl rfl)<|z2 (zMi rfl)<|z6 ?_
  exact ⟨(k + 1, i15), zR2, zR2, ⟨_, (.refl _), by rw [qi hk2, ← lC_push, show l[k] = lv l k by have := lv_nat hk2; rw [qh hk2] at this; exact Option.some.inj this]; rfl⟩, hk2, by dsimp only; omega⟩
 ·have hkn : k = l.length := by simp at ck; omega
  subst hkn
  rw [qm]
  refine y3<|zSr<|z2 (zMo rfl)<|z2 (zAo rfl)<|z6<|yd (GStep.knowR (t := 2) rfl .head rfl)<|zd<|zm (x := .fro _ _) rfl ?_
  rfl
theorem phis_ty {f : PFunc} (h : typedB f = true) : ∀ b ∈ f.blocks, ∀ p ∈ b.phis, ∀ a ∈ p.args, tyV f a = tyV f p.dst := fun b hb p hp a ha => by
 unfold typedB at h
 rw [qw] at h
 have h1 := List.all_eq_true.1 h.2 b hb
 unfold blkT at h1
 simp only [qw] at h1
 have h2 := List.all_eq_true.1 h1.1.1 p hp
 unfold phiT at h2
 rw [Bool.not_eq_true'] at h2
 have h3 := List.any_eq_false.1 h2 a ha
 have : kindV f a = kindV f p.dst := by simpa using h3
 exact this
theorem stops_small {f : PFunc} (hF : RuleF f) (h : (typedB f && singB f) = true) (hN : ∀ b ∈ f.blocks, ∀ x ∈ b.insts, is64 x.num) {K : Nat} (hK : Stops f K) : K ≤ 4611686018427387904 := by
 have hf := hF.small
 have hS := hF.shaped
 have hty := (and3 h).1
 have hE := typedB_ends hty
 have hsi := (singB_iff hE).1 (and3 h).2
 have hm := made_of hF
 have hok := ruleF_ok hF hN
 have hM : ∀ b ∈ f.blocks, b.insts.length ≤ 1000 := fun b hb => (hf.2.2.2.2 b hb).2.2.1
 have hI := phi_within hm hF.once (phis_ty hty) (fun v h0 h1 => by
  obtain ⟨y, _, e, a, b⟩ := ty_get hS (hasV_int h0 h1)
  rw [← e]; exact ⟨a, b⟩)
 have := rounds_few (made_rules hok hm) hm (R := 1001000) (fun v hv => Nat.le_trans (rank_le hE hm hM hsi.2.1 hv) (by have := hf.2.2.1; omega)) (rank_deps hE hsi.2.2.2 hm hok hM) hI hK
 have h2 := hf.1
 have h3 : 3 * f.vars.length * (1001000 + 2) ≤ 3000 * 1001002 := Nat.mul_le_mul (by omega) (by omega)
 omega
set_option maxHeartbeats 4000000 in
theorem rangesTell_law (f : PFunc) (hw : wFunc f) (hN : ∀ b ∈ f.blocks, ∀ x ∈ b.insts, is64 x.num) (hL : Letters E) : AFun prog E 7 [.agg (encF f)] (.bool true) := by
 have hlv := lives22_spec (E := E) hL
 refine zn func7 rfl (by decide) rfl<|zSr<|y1 (cs := _) rfl rfl rfl<|z2 (zAb rfl)<|z6<|za<|zSr<|zb (hlv) rfl<|z2 (yg rfl)<|z2 (zMb rfl)<|z8 rfl rfl rfl<|z2 (zh isAgg26 sizeOf26 rfl rfl)<|z8 rfl rfl rfl<|zb (fewT_spec f hw) rfl<|z8 rfl rfl rfl<|z2 (yg rfl)<|z2 (zPf rfl rfl rfl)<|z6<|zy rfl (fun cf=>?_) (fun cf=>?_)
 ·refine zSr<|zb (hlv) rfl<|z2 (zAb rfl)<|z6<|zd<|zm (x := .bool _) rfl ?_
  rfl
 ·have hfew : fewB f = true := by cases h : fewB f; rw [h] at cf; simp at cf; rfl
  have hsm := ((fewB_iff f).1 hfew).small
  have hvn := hsm.1
  by_cases hs : (typedB f && singB f) = true
  ·have hF := ruleF_of hsm hs
   have hE := typedB_ends (and3 hs).1
   have hR := made_rules (ruleF_ok hF hN) (made_of hF)
   obtain ⟨K, hK⟩ := stops_ex hR
   have hKb := stops_small hF hs hN hK
   have hSi : lawSing f = true := by unfold lawSing; rw [hfew]; exact hs
   obtain ⟨l, hle⟩ : ∃ l, endF f K = l := ⟨_, rfl⟩
   have hol : okL64 f.vars.length l := by rw [← hle]; exact (endF_post hR hK).1
   have hof := vOf_ok (E := E) f hsm hL hs hR K hK
   have hrf := refOf22_spec (E := E) f hF hE hR K hK hKb
   rw [hle] at hof hrf
   have hll := hol.1
   refine zf<|zSr<|z2 (zh isAgg26 sizeOf26 rfl rfl)<|zb (hof) rfl<|z2 (zMu rfl)<|z2 (Gv.extract (v := .fro _ _) rfl rfl)<|z2 (zXi rfl rfl)<|z2 (zAf rfl)<|z2 (zAi rfl)<|z6<|za<|zSr<|z2 (zh isAgg26 sizeOf26 rfl rfl)<|zb (lawSingle_spec f hw hL) rfl<|z2 (yg rfl)<|z6<|yn rfl (by rw [hSi]; rfl)<|zf<|zSr<|z2 (zh isAgg26 sizeOf26 rfl rfl)<|zb (hrf) rfl<|zb (back_spec l (by omega)) rfl<|z2 (zAf rfl)<|z6<|za<|zSr<|z2 (zMi rfl)<|z2 (yk rfl rfl)<|z2 (zMb rfl)<|z8 rfl rfl rfl<|z2 (zMf rfl)<|z8 rfl rfl rfl<|z2 (zz underlying41 rfl)<|z8 rfl rfl rfl<|z2 (zMf rfl)<|z8 rfl rfl rfl<|z2 (zz underlying41 rfl)<|z8 rfl rfl rfl<|z2 (yk rfl rfl)<|z2 (zPf rfl rfl rfl)<|z6 ?_
   refine yn rfl (by simp)<|zf<|za<|zSr<|z2 (zMf rfl)<|z2 (zz underlying41 rfl)<|z2 (zMi rfl)<|z6<|zi<|y6 (γ := Nat) [3, 5, 43] (fun k => [(44, .int .i64 k)]) (fun k => []) (fun k => k ≤ l.length) (fun k => l.length - k) 0 zR1 zLe (qk _) ?_
   rintro k hk
   refine zSr<|z2 (y7 rfl rfl)<|z6<|za<|zl rfl (fun ck=>?_) (fun ck=>?_)
   ·have hk2 : k < l.length := by simp at ck; omega
    refine zf<|za<|zi<|zSr<|z2 (zMi rfl)<|z2 (zAi rfl)<|z6<|za<|zt (fun j => false) (by kernel_rfl) rfl (zp (.rest _))<|zTk 0 rfl (zMf rfl)<|zTk 1 rfl (zMi rfl)<|zTk 2 rfl (zIM k underlying41 sizeOf74 rfl rfl rfl (lv_nat hk2))<|zTk 3 rfl (zh isAgg74 sizeOf74 rfl rfl)<|zTk 4 rfl (zMf rfl)<|zTk 5 rfl (zMi rfl)<|zTk 6 rfl (zIM k underlying41 sizeOf74 rfl rfl rfl (lv_nat hk2))<|zTk 7 rfl (zh isAgg74 sizeOf74 rfl rfl)<|zTk 8 rfl (Gv.neqP (xs := [.int _ _, .int _ _]) (ys := [.int _ _, .int _ _]) (by kernel_rfl) rfl rfl (fun w => eq_range _ _ _ _ w))<|zDn<|yn rfl (by simp)<|zf<|zRg<|z2 (zAd rfl rfl)<|z2 (zMi rfl)<|z6 ?_
    exact ⟨k + 1, zR3, zR1, zLe, hk2, by omega⟩
   ·refine y3<|zSr<|z2 (zAb rfl)<|z6<|zd<|zm (x := .bool _) rfl ?_
    rfl
  ·have hs2 : (typedB f && singB f) = false := by simpa using hs
   have hSi : lawSing f = false := by unfold lawSing; rw [hfew]; exact hs2
   refine zf<|zSr<|z2 (zh isAgg26 sizeOf26 rfl rfl)<|zb (vOf_bad f hsm hL hs2) rfl<|z2 (zMu rfl)<|z2 (Gv.extract (v := .fro _ _) rfl rfl)<|z2 (zXi rfl rfl)<|z2 (zAf rfl)<|z2 (zAi rfl)<|z6<|za<|zSr<|z2 (zh isAgg26 sizeOf26 rfl rfl)<|zb (lawSingle_spec f hw hL) rfl<|z2 (yg rfl)<|z6<|yr rfl (by rw [hSi]; rfl)<|zSr<|z2 (zMi rfl)<|z2 (zw rfl rfl)<|z2 (zMb rfl)<|z8 rfl rfl rfl<|z2 (zMf rfl)<|z8 rfl rfl rfl<|z2 (zz underlying41 rfl)<|z8 rfl rfl rfl<|z2 (zw rfl rfl)<|z2 (zPt rfl rfl rfl)<|z2 (zAb rfl)<|z6<|zd<|zm (x := .bool _) rfl ?_
   rfl
end Go.Proofs.YtjnpcfpecilejaaGreatDoor
namespace Go.Proofs.YtjnpcfpecilejaaGreatDoor
open Go.Proofs.Tryz
open Go.Proofs Go.Lib Go.Shelf Go.RowKit Go.WideShapes
set_option maxRecDepth 20000
variable {W : World}
theorem decI : Dec prog W 3 encI (fun x => (Lit.int .i64 x).wf = true) := Dec.int underlying3
theorem decIs : Dec prog W 23 (fun l : List Int => [.fro 1 (l.map encI)]) wL := fun en held fuel cs x h => by
 obtain ⟨l, hl, r⟩ := Dec.slice (k := 1) underlying23 decI (by kernel_rfl) (by decide) en held fuel cs x h
 exact ⟨l, hl.2, r⟩
theorem decVar : Dec prog W 56 encVar (fun _ => True) := fun en held fuel cs x h => by
 obtain ⟨xs, n, _, _, hl, hxl, hf⟩ := DataW.trod_struct underlying56 h
 have hl : cs.length = 2 := hl.trans (by kernel_rfl)
 have hxl : xs.length = 2 := hxl
 obtain ⟨a, _, ra⟩ := Dec.at (o := 0) (k := 1) (hf 0 _ rfl) (Dec.str underlying9) (by omega) rfl (by kernel_rfl)
 obtain ⟨b, _, rb⟩ := Dec.at (o := 1) (k := 1) (hf 1 _ rfl) (Dec.int underlying54) (by omega) rfl (by kernel_rfl)
 exact ⟨⟨a, b⟩, trivial, q6 (o := 0) ra (q6 rb (RepL.fin hl))⟩
theorem decPhi : Dec prog W 95 encPhi wPhi := fun en held fuel cs x h => by
 obtain ⟨xs, n, _, _, hl, hxl, hf⟩ := DataW.trod_struct underlying95 h
 have hl : cs.length = 3 := hl.trans (by kernel_rfl)
 have hxl : xs.length = 3 := hxl
 obtain ⟨a, _, ra⟩ := Dec.at (o := 0) (k := 1) (hf 0 _ rfl) decI (by omega) rfl (by kernel_rfl)
 obtain ⟨b, hb, rb⟩ := Dec.at (o := 1) (k := 1) (hf 1 _ rfl) decIs (by omega) rfl (by kernel_rfl)
 obtain ⟨c, hc, rc⟩ := Dec.at (o := 2) (k := 1) (hf 2 _ rfl) decIs (by omega) rfl (by kernel_rfl)
 exact ⟨⟨a, b, c⟩, ⟨hb, hc⟩, q6 (o := 0) ra (q6 rb (q6 rc (RepL.fin hl)))⟩
def wInst (x : PInst) : Prop := wL x.args ∧ (Lit.int .i64 x.num).wf = true
theorem decInst : Dec prog W 33 encInst wInst := fun en held fuel cs x h => by
 obtain ⟨xs, n, _, _, hl, hxl, hf⟩ := DataW.trod_struct underlying33 h
 have hl : cs.length = 4 := hl.trans (by kernel_rfl)
 have hxl : xs.length = 4 := hxl
 obtain ⟨a, _, ra⟩ := Dec.at (o := 0) (k := 1) (hf 0 _ rfl) (Dec.int underlying31) (by omega) rfl (by kernel_rfl)
 obtain ⟨b, _, rb⟩ := Dec.at (o := 1) (k := 1) (hf 1 _ rfl) decI (by omega) rfl (by kernel_rfl)
 obtain ⟨c, hc, rc⟩ := Dec.at (o := 2) (k := 1) (hf 2 _ rfl) decIs (by omega) rfl (by kernel_rfl)
 obtain ⟨d, hd, rd⟩ := Dec.at (o := 3) (k := 1) (hf 3 _ rfl) (Dec.int underlying2) (by omega) rfl (by kernel_rfl)
 exact ⟨⟨a, b, c, d⟩, ⟨hc, hd⟩, q6 (o := 0) ra (q6 rb (q6 rc (q6 rd (RepL.fin hl))))⟩
theorem decTerm : Dec prog W 64 encTerm (fun _ => True) := fun en held fuel cs x h => by
 obtain ⟨xs, n, _, _, hl, hxl, hf⟩ := DataW.trod_struct underlying64 h
 have hl : cs.length = 4 := hl.trans (by kernel_rfl)
 have hxl : xs.length = 3 := hxl
 obtain ⟨a, _, ra⟩ := Dec.at (o := 0) (k := 1) (hf 0 _ rfl) (Dec.int underlying61) (by omega) rfl (by kernel_rfl)
 obtain ⟨b, _, rb⟩ := Dec.at (o := 1) (k := 1) (hf 1 _ rfl) decI (by omega) rfl (by kernel_rfl)
 obtain ⟨c, _, rc⟩ := Dec.at (o := 2) (k := 2) (hf 2 _ rfl) (Dec.pair (k := 1) underlying62 decI (by kernel_rfl) (by kernel_rfl)) (by omega) rfl (by kernel_rfl)
 exact ⟨⟨a, b, c.1, c.2⟩, trivial, q6 (o := 0) ra (q6 rb (q6 rc (RepL.fin hl)))⟩
def NumsI (f : PFunc) : Prop := ∀ b ∈ f.blocks, ∀ x ∈ b.insts, is64 x.num
def wBlkN (b : PBlock) : Prop := wBlk b ∧ ∀ x ∈ b.insts, -9223372036854775808 ≤ x.num ∧ x.num ≤ 9223372036854775807
theorem decBlkN : Dec prog W 66 encBlk wBlkN := fun en held fuel cs x h => by
 obtain ⟨xs, n, _, _, hl, hxl, hf⟩ := DataW.trod_struct underlying66 h
 have hl : cs.length = 7 := hl.trans (by kernel_rfl)
 have hxl : xs.length = 4 := hxl
 obtain ⟨a, _, ra⟩ := Dec.at (o := 0) (k := 1) (hf 0 _ rfl) (Dec.str underlying9) (by omega) rfl (by kernel_rfl)
 obtain ⟨b, hb, rb⟩ := Dec.at (o := 1) (k := 1) (hf 1 _ rfl) (Dec.slice (k := 3) underlying59 decPhi (by kernel_rfl) (by decide)) (by omega) rfl (by kernel_rfl)
 obtain ⟨c, hc, rc⟩ := Dec.at (o := 2) (k := 1) (hf 2 _ rfl) (Dec.slice (k := 4) underlying60 decInst (by kernel_rfl) (by decide)) (by omega) rfl (by kernel_rfl)
 obtain ⟨d, _, rd⟩ := Dec.at (o := 3) (k := 4) (hf 3 _ rfl) decTerm (by omega) rfl (by kernel_rfl)
 exact ⟨⟨a, b, c, d⟩, ⟨⟨hb.2, hc.2, hb.1, fun x hx => (hc.1 x hx).1⟩, fun x hx => by simpa [Lit.wf, IntKind.min, IntKind.max, IntKind.signed, IntKind.bits] using (hc.1 x hx).2⟩, q6 (o := 0) ra (q6 rb (q6 rc (q6 rd (RepL.fin hl))))⟩
theorem decFN : Dec prog W 26 encF (fun f => wFunc f ∧ NumsI f) := fun en held fuel cs x h => by
 obtain ⟨xs, n, _, _, hl, hxl, hf⟩ := DataW.trod_struct underlying26 h
 have hl : cs.length = 3 := hl.trans (by kernel_rfl)
 have hxl : xs.length = 3 := hxl
 obtain ⟨a, ha, ra⟩ := Dec.at (o := 0) (k := 1) (hf 0 _ rfl) (Dec.slice (k := 2) underlying22 decVar (by kernel_rfl) (by decide)) (by omega) rfl (by kernel_rfl)
 obtain ⟨b, hb, rb⟩ := Dec.at (o := 1) (k := 1) (hf 1 _ rfl) decIs (by omega) rfl (by kernel_rfl)
 obtain ⟨c, hc, rc⟩ := Dec.at (o := 2) (k := 1) (hf 2 _ rfl) (Dec.slice (k := 7) underlying24 decBlkN (by kernel_rfl) (by decide)) (by omega) rfl (by kernel_rfl)
 exact ⟨⟨a, b, c⟩, ⟨⟨ha.2, hb, hc.2, fun x hx => (hc.1 x hx).1⟩, fun x hx => (hc.1 x hx).2⟩, q6 (o := 0) ra (q6 rb (q6 rc (RepL.fin hl)))⟩
theorem of_struct {H : Type} {enc : TypeId × Value → H} {held : Bool} {α : Type} {T : TypeId} {e : α → List AV} {ok : α → Prop} {fs : Array Field} {base : Nat} {v : Value} {d : DataW H} {p : List MemPlace} (hd : Dec prog W T e ok) (ht : prog.underlying T = some (.struct fs))
  (hv : Value.okWide prog W .any base T v) (h : DataW.Trod enc prog W 0 (fun _ => true) held T v d p) : ∃ a, ok a ∧ RepV (I0 W) (.agg (e a)) v := by
 obtain ⟨cs, rfl, _⟩ := okWide_struct ht hv
 obtain ⟨fuel, h⟩ := h
 obtain ⟨a, h1, h2⟩ := hd enc held fuel _ _ h
 exact ⟨a, h1, cs.toList, by simp, h2⟩
theorem xTab : RExtra prog Tryz.lays200_ren := ⟨by kernel_rfl, by kernel_rfl, by kernel_rfl, by kernel_rfl, by kernel_rfl, by kernel_rfl, by kernel_rfl, by kernel_rfl⟩
theorem letters_of (h : Lib.VarReads prog W "unicode.properties" (Lib.tabData .u8 Lib.propertiesTab)) (h2 : Lib.VarReads prog W "unicode.Letter" (Lib.rtabData letterT)) : Letters W :=
 ⟨tabIs_of_reads (g := 0) (by kernel_rfl) (by kernel_rfl) underlying296 underlying5 (by kernel_rfl) (by kernel_rfl) h,
  rvar_of_reads { Tryz.lays200 with } xTab (name := "unicode.Letter") (g := 1) (by kernel_rfl) (by kernel_rfl) h2⟩
end Go.Proofs.YtjnpcfpecilejaaGreatDoor
namespace Go.Proofs.YtjnpcfpecilejaaGreatDoor
open Go.Proofs.Tryz
open Go.Proofs
theorem fMay : prog.mayEnter = true := by kernel_rfl
theorem fLift : (Rows.rangesTellRow.lifted == prog.liftsFinal) = true := by kernel_rfl
theorem fMake : (prog.make == some Rows.rangesTellRow.make) = true := by kernel_rfl
theorem fLaid : laidOutB prog = true := by kernel_rfl
theorem fRow : mapsRowed prog = true := by kernel_rfl
theorem fStop : (prog.stops == []) = true := by kernel_rfl
theorem fKnob : (prog.stopKnobs == []) = true := by kernel_rfl
theorem fKeys : (Rows.rangesTellRow.plainKeys == prog.plainKeys) = true := by kernel_rfl
theorem fHeard : prog.stopsHeard = true := by kernel_rfl
theorem gIn : (Rows.rangesTellRow.inPlace == prog.inPlace 7) = true := by kernel_rfl
theorem gUn : (Rows.rangesTellRow.unfollowed == prog.unfollowed 7) = true := by kernel_rfl
theorem gRec : (Rows.rangesTellRow.recurses == prog.recurses 7) = true := by kernel_rfl
theorem gNam : (Rows.rangesTellRow.named == prog.varsNamed 7) = true := by kernel_rfl
theorem closed : joinedFacts prog 7 Tryz.f7 Rows.rangesTellSpec Rows.rangesTellRow = true := by
 unfold joinedFacts
 rw [fLaid, fRow, fStop, fKnob, gIn, gUn, gRec, gNam, fKeys, fHeard, fMay, fLift, fMake]
 kernel_rfl
end Go.Proofs.YtjnpcfpecilejaaGreatDoor
