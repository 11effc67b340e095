/- The phi that makes a variable; the order of a round; what each has first. Plain law. No conditions. -/
import Derived.Test.YtjnpcfpecilejaaGreatDoorKp
import Derived.Test.YtjnpcfpecilejaaGreatDoorKq
set_option linter.unusedVariables false
set_option linter.unusedSimpArgs false
set_option linter.unusedSectionVars false
namespace Go.Proofs.YtjnpcfpecilejaaGreatDoor
open Go.Proofs.Tryz
open Go.Proofs Go.Lib Go.Shelf Go.RowKit
variable {E : World}
set_option maxRecDepth 20000
theorem ra_at {rs : List Rng} {i : Nat} (h : i < rs.length) : rs[i]? = some (ra rs i) := by unfold ra; rw [qh h]; rfl
def okRs (rs : List Rng) : Prop := ∀ r ∈ rs, ok64 r ∧ r.1 ≤ r.2
theorem okRs.at {rs : List Rng} (h : okRs rs) {i : Nat} (hi : i < rs.length) : ok64 (ra rs i) ∧ (ra rs i).1 ≤ (ra rs i).2 := by
 have := ra_at hi
 exact h _ (qr this)
theorem rMeet_no (a b : Rng) : (!decide ((rMeet a b).1 = noR.1 ∧ (rMeet a b).2 = noR.2)) = !decide ((rMeet a b).2 < (rMeet a b).1) := by
 congr 1
 rw [decide_eq_decide]
 constructor
 ·rintro ⟨h1, h2⟩; rw [h1, h2]; decide
 ·intro h; rw [rMeet_nrm a b h]; exact ⟨rfl, rfl⟩
set_option maxHeartbeats 4000000 in
theorem refInst22_spec (x : PInst) (rs : List Rng) (chk : Bool) (hl : rs.length = (takesL x.op).length) (hok : okRs rs) (hop : 0 ≤ x.op ∧ x.op ≤ 26) : AFun prog E 77 [.agg (encInst x), .fro 2 (rs.map encZ), .bool chk] (.agg (encZ (instQ x.op x.num rs chk))) := by
 rw [instQ]
 refine zn func77 rfl (by decide) rfl<|zSr<|y1 (cs := _) rfl rfl rfl<|zo (cs := [.int .i64 0, .int .i64 0]) zeroValue75 rfl rfl<|fun i6 => z6<|zSr<|zb (rType_s (t := 0) (by decide)) rfl<|zo (cs := [.int .i64 0, .int .i64 0]) zeroValue75 rfl rfl<|fun i7 => zc sizeOf75 rfl rfl rfl rfl rfl rfl .head rfl<|z6<|yd (ya (t := 7) rfl .head)<|za<|zSr<|z2 (zFF underlying33 rfl sizeOf31 rfl rfl)<|z2 (zLi isAgg31 rfl)<|z6<|zi<|zSr<|z2 (zw rfl rfl)<|z2 (zAb rfl)<|z6<|zl rfl (fun c0=>?_) (fun c0=>?_)
 ·refine zSr<|z2 (zFF underlying33 rfl sizeOf2 rfl rfl)<|z2 (zLi isAgg2 rfl)<|z2 (zFF underlying33 rfl sizeOf2 rfl rfl)<|z2 (zLi isAgg2 rfl)<|z2 (zx (cps := [(0, [_]), (1, [_])]) (rs := [_, _]) pl75 rfl rfl rfl)<|zc sizeOf75 rfl rfl rfl rfl rfl rfl .head rfl<|z6<|zd<|y8 rfl ⟨_, .head⟩ isAgg75 sizeOf75 rfl ?_
  rw [if_pos c0]; try rfl
 ·rw [if_neg c0]
  refine za<|zSr<|z2 (zw rfl rfl)<|z2 (zAb rfl)<|z6<|yb (γ := Bool) [1, 2, 3, 6, 7, 12] (fun u => [(20, .bool u)]) (fun u => [(i6, .cells 75 [.int .i64 0, .int .i64 0])]) (fun u => u = decide (x.op = 1 ∨ x.op = 12)) ?_ (fun _ _ h => h) ?_
  ·refine zy rfl (fun c1=>?_) (fun c1=>?_)
   ·refine zf ?_
    exact ⟨_, zR6, zR1, zLe, by simp_all⟩
   ·refine zRg<|z2 (zw rfl rfl)<|z2 (zAb rfl)<|z6 ?_
    exact ⟨_, zR6, zR1, zLe, by simp_all⟩
  ·rintro u hu
   subst hu
   refine zl rfl (fun c1=>?_) (fun c1=>?_)
   ·have hl1 : rs.length = 1 := by rw [hl]; rcases c1 with c | c <;> rw [c] <;> rfl
    refine zSr<|z2 (zMf rfl)<|z2 (zIM 0 underlying47 sizeOf75 rfl rfl rfl (ra_at (by omega)))<|z2 (zh isAgg75 sizeOf75 rfl rfl)<|zc sizeOf75 rfl rfl rfl rfl rfl rfl .head rfl<|z6<|zd<|y8 rfl ⟨_, .head⟩ isAgg75 sizeOf75 rfl ?_
    rw [if_pos c1]; try rfl
   ·rw [if_neg c1]
    refine za<|zSr<|z2 (zw rfl rfl)<|z2 (zAb rfl)<|z6<|yb (γ := Bool) [1, 2, 3, 6, 7, 12] (fun u => [(26, .bool u)]) (fun u => [(i6, .cells 75 [.int .i64 0, .int .i64 0])]) (fun u => u = decide (x.op = 2 ∨ x.op = 3 ∨ x.op = 4)) ?_ (fun _ _ h => h) ?_
    ·refine zy rfl (fun c2=>?_) (fun c2=>?_)
     ·refine zf ?_
      exact ⟨_, zR6, zR1, zLe, by simp_all⟩
     ·refine zSr<|z2 (zw rfl rfl)<|z2 (zAb rfl)<|z6<|zy rfl (fun c3=>?_) (fun c3=>?_)
      ·refine zf ?_
       exact ⟨_, zR6, zR1, zLe, by simp_all⟩
      ·refine zRg<|z2 (zw rfl rfl)<|z2 (zAb rfl)<|z6 ?_
       exact ⟨_, zR6, zR1, zLe, by simp_all⟩
    ·rintro u hu
     subst hu
     refine zl rfl (fun c2=>?_) (fun c2=>?_)
     ·have hl1 : rs.length = 2 := by rw [hl]; rcases c2 with c | c | c <;> rw [c] <;> rfl
      obtain ⟨ha, na⟩ := hok.at (i := 0) (by omega)
      obtain ⟨hb, nb⟩ := hok.at (i := 1) (by omega)
      obtain ⟨k, hk, hk2⟩ := sum_op c2
      have hk3 : x.op - 2 = (k : Int) := by omega
      have hF := rFits (E := E) hk ha hb
      have hC := rClip (E := E) hk ha hb
      rw [← hk3] at hF hC
      have hq : (if x.op = 2 then sumQ 0 (ra rs 0) (ra rs 1) chk else if x.op = 3 then sumQ 1 (ra rs 0) (ra rs 1) chk else if x.op = 4 then sumQ 2 (ra rs 0) (ra rs 1) chk else if x.op = 5 then divQ (ra rs 0) (ra rs 1) else if x.op = 6 then remQ (ra rs 0) (ra rs 1) else if x.op = 7 then eqQ (ra rs 0) (ra rs 1) else if x.op = 8 then ltQ (ra rs 0) (ra rs 1) else if x.op = 9 then leQ (ra rs 0) (ra rs 1) else if x.op = 10 then notQ (ra rs 0) else if x.op = 11 then andQ (ra rs 0) (ra rs 1) else if x.op = 15 then rMeet (ra rs 0) (0, 64) else if x.op = 16 then rOf 0 else if x.op = 25 then cutQ x.num (ra rs 0) (ra rs 1) else if x.op = 26 then cutQ 0 (rMeet (ra rs 0) (0, M64)) (ra rs 1) else allR) = sumQ k (ra rs 0) (ra rs 1) chk := by
       rcases (by omega : k = 0 ∨ k = 1 ∨ k = 2) with rfl | rfl | rfl
       ·rw [if_pos (by omega)]
       ·rw [if_neg (by omega), if_pos (by omega)]
       ·rw [if_neg (by omega), if_neg (by omega), if_pos (by omega)]
      rw [hq, sumQ]
      refine zSr<|z2 (zFF underlying33 rfl sizeOf31 rfl rfl)<|z2 (zLi isAgg31 rfl)<|z2 (Gv.sub rfl rfl (by unfold I64; omega))<|z2 (zAi rfl)<|z6<|za<|za<|yb (γ := Bool) [1, 6, 7, 8] (fun u => [(43, .bool u)]) (fun u => [(i6, .cells 75 [.int .i64 0, .int .i64 0])]) (fun u => u = decide (chk = true ∨ cornF k (ra rs 0) (ra rs 1))) ?_ (fun _ _ h => h) ?_
      ·refine zt (fun j => false) (by kernel_rfl) rfl (zp (.rest _))<|zTk 0 rfl (zMb rfl)<|zTk 1 rfl (zMb rfl)<|qb (s := 34) rfl (fun c=>?_) (fun c=>?_)
       ·refine zTf 2 rfl rfl rfl c<|zTf 3 rfl rfl rfl c<|zTf 4 rfl rfl rfl c<|zTf 5 rfl rfl rfl c<|zTf 6 rfl rfl rfl c<|zTf 7 rfl rfl rfl c<|zTf 8 rfl rfl rfl c<|zTf 9 rfl rfl rfl c<|zTk 10 rfl (zPt rfl c rfl)<|zDn ?_
        exact ⟨_, zR4, zR1, zLe, by rw [show chk = true from c]; simp⟩
       ·refine zTt 2 rfl rfl rfl c (zMi rfl)<|zTt 3 rfl rfl rfl c (zMf rfl)<|zTt 4 rfl rfl rfl c (zIM 0 underlying47 sizeOf75 rfl rfl rfl (ra_at (by omega)))<|zTt 5 rfl rfl rfl c (zh isAgg75 sizeOf75 rfl rfl)<|zTt 6 rfl rfl rfl c (zMf rfl)<|zTt 7 rfl rfl rfl c (zIM 1 underlying47 sizeOf75 rfl rfl rfl (ra_at (by omega)))<|zTt 8 rfl rfl rfl c (zh isAgg75 sizeOf75 rfl rfl)<|zOn 9 rfl<|z8 rfl rfl c<|zb (hF) rfl<|z6<|zTk 10 rfl (zPf rfl c rfl)<|zDn ?_
        exact ⟨_, zR4, zR1, zLe, by rw [show chk = false from c]; simp⟩
      ·rintro u hu
       subst hu
       refine zl rfl (fun cf=>?_) (fun cf=>?_)
       ·refine za<|zt (fun j => Nat.beq j 8) (by kernel_rfl) rfl (zp (.rest _))<|zTk 0 rfl (zMi rfl)<|zTk 1 rfl (zMf rfl)<|zTk 2 rfl (zIM 0 underlying47 sizeOf75 rfl rfl rfl (ra_at (by omega)))<|zTk 3 rfl (zh isAgg75 sizeOf75 rfl rfl)<|zTk 4 rfl (zMf rfl)<|zTk 5 rfl (zIM 1 underlying47 sizeOf75 rfl rfl rfl (ra_at (by omega)))<|zTk 6 rfl (zh isAgg75 sizeOf75 rfl rfl)<|zOn 7 rfl<|zb (hC) rfl<|z6<|yf<|yl (i := 8) rfl (by kernel_rfl) (by kernel_rfl)<|zc sizeOf75 rfl rfl rfl rfl rfl rfl .head rfl<|z6<|yh (by kernel_rfl)<|zd<|y8 rfl ⟨_, .head⟩ isAgg75 sizeOf75 rfl ?_
        rw [if_pos cf]; try rfl
       ·refine zf<|zSr<|z2 (zh isAgg75 sizeOf75 rfl rfl)<|zc sizeOf75 rfl rfl rfl rfl rfl rfl .head rfl<|z6<|zd<|y8 rfl ⟨_, .head⟩ isAgg75 sizeOf75 rfl ?_
        rw [if_neg cf]; try rfl
     ·rw [if_neg (by omega), if_neg (by omega), if_neg (by omega)]
      refine zSr<|z2 (zw rfl rfl)<|z2 (zAb rfl)<|z6<|zl rfl (fun c5=>?_) (fun c5=>?_)
      ·have hl1 : rs.length = 2 := by rw [hl, c5]; rfl
       obtain ⟨ha, na⟩ := hok.at (i := 0) (by omega)
       obtain ⟨hb, nb⟩ := hok.at (i := 1) (by omega)
       refine za<|zt (fun j => Nat.beq j 7) (by kernel_rfl) rfl (zp (.rest _))<|zTk 0 rfl (zMf rfl)<|zTk 1 rfl (zIM 0 underlying47 sizeOf75 rfl rfl rfl (ra_at (by omega)))<|zTk 2 rfl (zh isAgg75 sizeOf75 rfl rfl)<|zTk 3 rfl (zMf rfl)<|zTk 4 rfl (zIM 1 underlying47 sizeOf75 rfl rfl rfl (ra_at (by omega)))<|zTk 5 rfl (zh isAgg75 sizeOf75 rfl rfl)<|zOn 6 rfl<|zb (rDiv ha na nb) rfl<|z6<|yf<|yl (i := 7) rfl (by kernel_rfl) (by kernel_rfl)<|zc sizeOf75 rfl rfl rfl rfl rfl rfl .head rfl<|z6<|yh (by kernel_rfl)<|zd<|y8 rfl ⟨_, .head⟩ isAgg75 sizeOf75 rfl ?_
       rw [if_pos c5]; try rfl
      ·rw [if_neg c5]
       refine zSr<|z2 (zw rfl rfl)<|z2 (zAb rfl)<|z6<|zl rfl (fun c6=>?_) (fun c6=>?_)
       ·have hl1 : rs.length = 2 := by rw [hl, c6]; rfl
        obtain ⟨hb, nb⟩ := hok.at (i := 1) (by omega)
        refine za<|zt (fun j => Nat.beq j 7) (by kernel_rfl) rfl (zp (.rest _))<|zTk 0 rfl (zMf rfl)<|zTk 1 rfl (zIM 0 underlying47 sizeOf75 rfl rfl rfl (ra_at (by omega)))<|zTk 2 rfl (zh isAgg75 sizeOf75 rfl rfl)<|zTk 3 rfl (zMf rfl)<|zTk 4 rfl (zIM 1 underlying47 sizeOf75 rfl rfl rfl (ra_at (by omega)))<|zTk 5 rfl (zh isAgg75 sizeOf75 rfl rfl)<|zOn 6 rfl<|zb (rRem hb) rfl<|z6<|yf<|yl (i := 7) rfl (by kernel_rfl) (by kernel_rfl)<|zc sizeOf75 rfl rfl rfl rfl rfl rfl .head rfl<|z6<|yh (by kernel_rfl)<|zd<|y8 rfl ⟨_, .head⟩ isAgg75 sizeOf75 rfl ?_
        rw [if_pos c6]; try rfl
       ·rw [if_neg c6]
        refine zSr<|z2 (zw rfl rfl)<|z2 (zAb rfl)<|z6<|zl rfl (fun c7=>?_) (fun c7=>?_)
        ·have hl1 : rs.length = 2 := by rw [hl, c7]; rfl
         rw [if_pos c7, eqQ]
         refine za<|yb (γ := Bool) [1, 6] (fun u => [(9, .bool u)]) (fun u => [(i6, .cells 75 [.int .i64 0, .int .i64 0])]) (fun u => u = (decide ((ra rs 0).1 = (ra rs 0).2) && decide (ra rs 0 = ra rs 1))) ?_ (fun _ _ h => h) ?_
         ·refine zt (fun j => false) (by kernel_rfl) rfl (zp (.rest _))<|zTk 0 rfl (zMf rfl)<|zTk 1 rfl (zIM 0 underlying47 sizeOf75 rfl rfl rfl (ra_at (by omega)))<|zTk 2 rfl (zFF underlying75 rfl sizeOf2 rfl rfl)<|zTk 3 rfl (zLi isAgg2 rfl)<|zTk 4 rfl (zMf rfl)<|zTk 5 rfl (zIM 0 underlying47 sizeOf75 rfl rfl rfl (ra_at (by omega)))<|zTk 6 rfl (zFF underlying75 rfl sizeOf2 rfl rfl)<|zTk 7 rfl (zLi isAgg2 rfl)<|zTk 8 rfl (zw rfl rfl)<|zTk 9 rfl (zMb rfl)<|qb (s := 82) rfl (fun c=>?_) (fun c=>?_)
          ·refine zTt 10 rfl rfl rfl c (zMf rfl)<|zTt 11 rfl rfl rfl c (zIM 0 underlying47 sizeOf75 rfl rfl rfl (ra_at (by omega)))<|zTt 12 rfl rfl rfl c (zh isAgg75 sizeOf75 rfl rfl)<|zTt 13 rfl rfl rfl c (zMf rfl)<|zTt 14 rfl rfl rfl c (zIM 1 underlying47 sizeOf75 rfl rfl rfl (ra_at (by omega)))<|zTt 15 rfl rfl rfl c (zh isAgg75 sizeOf75 rfl rfl)<|zTt 16 rfl rfl rfl c (Gv.eqlP (xs := [.int _ _, .int _ _]) (ys := [.int _ _, .int _ _]) (by kernel_rfl) rfl rfl (fun w => eq_rrange _ _ _ _ w))<|zTk 17 rfl (zPt rfl c rfl)<|zTk 18 rfl (zAb rfl)<|zDn ?_
           exact ⟨_, zR2, zR1, zLe, by rw [show decide ((ra rs 0).1 = (ra rs 0).2) = true from c, ← rng_eq]; rfl⟩
          ·refine zTf 10 rfl rfl rfl c<|zTf 11 rfl rfl rfl c<|zTf 12 rfl rfl rfl c<|zTf 13 rfl rfl rfl c<|zTf 14 rfl rfl rfl c<|zTf 15 rfl rfl rfl c<|zTf 16 rfl rfl rfl c<|zTk 17 rfl (zPf rfl c rfl)<|zTk 18 rfl (zAb rfl)<|zDn ?_
           exact ⟨_, zR2, zR1, zLe, by rw [show decide ((ra rs 0).1 = (ra rs 0).2) = false from c]; rfl⟩
         ·rintro u hu
          rw [← hu]
          refine za<|zt (fun j => Nat.beq j 12) (by kernel_rfl) rfl (zp (.rest _))<|zTk 0 rfl (zMb rfl)<|zTk 1 rfl (yg rfl)<|zTk 2 rfl (zMf rfl)<|zTk 3 rfl (zIM 0 underlying47 sizeOf75 rfl rfl rfl (ra_at (by omega)))<|zTk 4 rfl (zh isAgg75 sizeOf75 rfl rfl)<|zTk 5 rfl (zMf rfl)<|zTk 6 rfl (zIM 1 underlying47 sizeOf75 rfl rfl rfl (ra_at (by omega)))<|zTk 7 rfl (zh isAgg75 sizeOf75 rfl rfl)<|zOn 8 rfl<|zb (rMeet_s _ _) rfl<|z6<|zOn 9 rfl<|zb (rNone) rfl<|z6<|zTk 10 rfl (Gv.neqP (xs := [.int _ _, .int _ _]) (ys := [.int _ _, .int _ _]) (by kernel_rfl) rfl rfl (fun w => eq_rrange _ _ _ _ w))<|zOn 11 rfl<|zb (rTruth _ _) rfl<|z6<|yf<|yl (i := 12) rfl (by kernel_rfl) (by kernel_rfl)<|zc sizeOf75 rfl rfl rfl rfl rfl rfl .head rfl<|z6<|yh (by kernel_rfl)<|zd<|y8 rfl ⟨_, .head⟩ isAgg75 sizeOf75 rfl ?_
          rw [← rMeet_no]; try rfl
        ·rw [if_neg c7]
         refine zSr<|z2 (zw rfl rfl)<|z2 (zAb rfl)<|z6<|zl rfl (fun c8=>?_) (fun c8=>?_)
         ·have hl1 : rs.length = 2 := by rw [hl, c8]; rfl
          refine za<|zt (fun j => Nat.beq j 19) (by kernel_rfl) rfl (zp (.rest _))<|zTk 0 rfl (zMf rfl)<|zTk 1 rfl (zIM 0 underlying47 sizeOf75 rfl rfl rfl (ra_at (by omega)))<|zTk 2 rfl (zFF underlying75 rfl sizeOf2 rfl rfl)<|zTk 3 rfl (zLi isAgg2 rfl)<|zTk 4 rfl (zMf rfl)<|zTk 5 rfl (zIM 1 underlying47 sizeOf75 rfl rfl rfl (ra_at (by omega)))<|zTk 6 rfl (zFF underlying75 rfl sizeOf2 rfl rfl)<|zTk 7 rfl (zLi isAgg2 rfl)<|zTk 8 rfl (q0 rfl rfl)<|zTk 9 rfl (zMf rfl)<|zTk 10 rfl (zIM 0 underlying47 sizeOf75 rfl rfl rfl (ra_at (by omega)))<|zTk 11 rfl (zFF underlying75 rfl sizeOf2 rfl rfl)<|zTk 12 rfl (zLi isAgg2 rfl)<|zTk 13 rfl (zMf rfl)<|zTk 14 rfl (zIM 1 underlying47 sizeOf75 rfl rfl rfl (ra_at (by omega)))<|zTk 15 rfl (zFF underlying75 rfl sizeOf2 rfl rfl)<|zTk 16 rfl (zLi isAgg2 rfl)<|zTk 17 rfl (y7 rfl rfl)<|zOn 18 rfl<|zb (rTruth _ _) rfl<|z6<|yf<|yl (i := 19) rfl (by kernel_rfl) (by kernel_rfl)<|zc sizeOf75 rfl rfl rfl rfl rfl rfl .head rfl<|z6<|yh (by kernel_rfl)<|zd<|y8 rfl ⟨_, .head⟩ isAgg75 sizeOf75 rfl ?_
          rw [if_pos c8]; try rfl
         ·rw [if_neg c8]
          refine zSr<|z2 (zw rfl rfl)<|z2 (zAb rfl)<|z6<|zl rfl (fun c9=>?_) (fun c9=>?_)
          ·have hl1 : rs.length = 2 := by rw [hl, c9]; rfl
           refine za<|zt (fun j => Nat.beq j 19) (by kernel_rfl) rfl (zp (.rest _))<|zTk 0 rfl (zMf rfl)<|zTk 1 rfl (zIM 0 underlying47 sizeOf75 rfl rfl rfl (ra_at (by omega)))<|zTk 2 rfl (zFF underlying75 rfl sizeOf2 rfl rfl)<|zTk 3 rfl (zLi isAgg2 rfl)<|zTk 4 rfl (zMf rfl)<|zTk 5 rfl (zIM 1 underlying47 sizeOf75 rfl rfl rfl (ra_at (by omega)))<|zTk 6 rfl (zFF underlying75 rfl sizeOf2 rfl rfl)<|zTk 7 rfl (zLi isAgg2 rfl)<|zTk 8 rfl (yq rfl rfl)<|zTk 9 rfl (zMf rfl)<|zTk 10 rfl (zIM 0 underlying47 sizeOf75 rfl rfl rfl (ra_at (by omega)))<|zTk 11 rfl (zFF underlying75 rfl sizeOf2 rfl rfl)<|zTk 12 rfl (zLi isAgg2 rfl)<|zTk 13 rfl (zMf rfl)<|zTk 14 rfl (zIM 1 underlying47 sizeOf75 rfl rfl rfl (ra_at (by omega)))<|zTk 15 rfl (zFF underlying75 rfl sizeOf2 rfl rfl)<|zTk 16 rfl (zLi isAgg2 rfl)<|zTk 17 rfl (Gv.leq rfl rfl)<|zOn 18 rfl<|zb (rTruth _ _) rfl<|z6<|yf<|yl (i := 19) rfl (by kernel_rfl) (by kernel_rfl)<|zc sizeOf75 rfl rfl rfl rfl rfl rfl .head rfl<|z6<|yh (by kernel_rfl)<|zd<|y8 rfl ⟨_, .head⟩ isAgg75 sizeOf75 rfl ?_
           rw [if_pos c9]; try rfl
          ·rw [if_neg c9]
           refine zSr<|z2 (zw rfl rfl)<|z2 (zAb rfl)<|z6<|zl rfl (fun c10=>?_) (fun c10=>?_)
           ·have hl1 : rs.length = 1 := by rw [hl, c10]; rfl
            refine za<|zt (fun j => Nat.beq j 11) (by kernel_rfl) rfl (zp (.rest _))<|zTk 0 rfl (zMf rfl)<|zTk 1 rfl (zIM 0 underlying47 sizeOf75 rfl rfl rfl (ra_at (by omega)))<|zTk 2 rfl (zFF underlying75 rfl sizeOf2 rfl rfl)<|zTk 3 rfl (zLi isAgg2 rfl)<|zTk 4 rfl (zw rfl rfl)<|zTk 5 rfl (zMf rfl)<|zTk 6 rfl (zIM 0 underlying47 sizeOf75 rfl rfl rfl (ra_at (by omega)))<|zTk 7 rfl (zFF underlying75 rfl sizeOf2 rfl rfl)<|zTk 8 rfl (zLi isAgg2 rfl)<|zTk 9 rfl (zw rfl rfl)<|zOn 10 rfl<|zb (rTruth _ _) rfl<|z6<|yf<|yl (i := 11) rfl (by kernel_rfl) (by kernel_rfl)<|zc sizeOf75 rfl rfl rfl rfl rfl rfl .head rfl<|z6<|yh (by kernel_rfl)<|zd<|y8 rfl ⟨_, .head⟩ isAgg75 sizeOf75 rfl ?_
            rw [if_pos c10]; try rfl
           ·rw [if_neg c10]
            refine zSr<|z2 (zw rfl rfl)<|z2 (zAb rfl)<|z6<|zl rfl (fun c11=>?_) (fun c11=>?_)
            ·have hl1 : rs.length = 2 := by rw [hl, c11]; rfl
             rw [if_pos c11, andQ]
             refine za<|zt (fun j => Nat.beq j 25) (by kernel_rfl) rfl (zp (.rest _))<|zTk 0 rfl (zMf rfl)<|zTk 1 rfl (zIM 0 underlying47 sizeOf75 rfl rfl rfl (ra_at (by omega)))<|zTk 2 rfl (zFF underlying75 rfl sizeOf2 rfl rfl)<|zTk 3 rfl (zLi isAgg2 rfl)<|zTk 4 rfl (zw rfl rfl)<|zTk 5 rfl (zMb rfl)<|qb (s := 165) rfl (fun c12=>?_) (fun c12=>?_)
             ·refine zTf 6 rfl rfl rfl c12<|zTf 7 rfl rfl rfl c12<|zTf 8 rfl rfl rfl c12<|zTf 9 rfl rfl rfl c12<|zTf 10 rfl rfl rfl c12<|zTk 11 rfl (zPt rfl c12 rfl)<|zTk 12 rfl (zMf rfl)<|zTk 13 rfl (zIM 0 underlying47 sizeOf75 rfl rfl rfl (ra_at (by omega)))<|zTk 14 rfl (zFF underlying75 rfl sizeOf2 rfl rfl)<|zTk 15 rfl (zLi isAgg2 rfl)<|zTk 16 rfl (zw rfl rfl)<|zTk 17 rfl (zMb rfl)<|qb (s := 177) rfl (fun c13=>?_) (fun c13=>?_)
              ·refine zTt 18 rfl rfl rfl c13 (zMf rfl)<|zTt 19 rfl rfl rfl c13 (zIM 1 underlying47 sizeOf75 rfl rfl rfl (ra_at (by omega)))<|zTt 20 rfl rfl rfl c13 (zFF underlying75 rfl sizeOf2 rfl rfl)<|zTt 21 rfl rfl rfl c13 (zLi isAgg2 rfl)<|zTt 22 rfl rfl rfl c13 (zw rfl rfl)<|zTk 23 rfl (zPt rfl c13 rfl)<|zOn 24 rfl<|zb (rTruth _ _) rfl<|z6<|yf<|yl (i := 25) rfl (by kernel_rfl) (by kernel_rfl)<|zc sizeOf75 rfl rfl rfl rfl rfl rfl .head rfl<|z6<|yh (by kernel_rfl)<|zd<|y8 rfl ⟨_, .head⟩ isAgg75 sizeOf75 rfl ?_
               rw [show decide ((ra rs 0).1 = 0) = true from c12, show decide ((ra rs 0).2 = 1) = true from c13]; try rfl
              ·refine zTf 18 rfl rfl rfl c13<|zTf 19 rfl rfl rfl c13<|zTf 20 rfl rfl rfl c13<|zTf 21 rfl rfl rfl c13<|zTf 22 rfl rfl rfl c13<|zTk 23 rfl (zPf rfl c13 rfl)<|zOn 24 rfl<|zb (rTruth _ _) rfl<|z6<|yf<|yl (i := 25) rfl (by kernel_rfl) (by kernel_rfl)<|zc sizeOf75 rfl rfl rfl rfl rfl rfl .head rfl<|z6<|yh (by kernel_rfl)<|zd<|y8 rfl ⟨_, .head⟩ isAgg75 sizeOf75 rfl ?_
               rw [show decide ((ra rs 0).1 = 0) = true from c12, show decide ((ra rs 0).2 = 1) = false from c13]; try rfl
             ·refine zTt 6 rfl rfl rfl c12 (zMf rfl)<|zTt 7 rfl rfl rfl c12 (zIM 1 underlying47 sizeOf75 rfl rfl rfl (ra_at (by omega)))<|zTt 8 rfl rfl rfl c12 (zFF underlying75 rfl sizeOf2 rfl rfl)<|zTt 9 rfl rfl rfl c12 (zLi isAgg2 rfl)<|zTt 10 rfl rfl rfl c12 (zw rfl rfl)<|zTk 11 rfl (zPf rfl c12 rfl)<|zTk 12 rfl (zMf rfl)<|zTk 13 rfl (zIM 0 underlying47 sizeOf75 rfl rfl rfl (ra_at (by omega)))<|zTk 14 rfl (zFF underlying75 rfl sizeOf2 rfl rfl)<|zTk 15 rfl (zLi isAgg2 rfl)<|zTk 16 rfl (zw rfl rfl)<|zTk 17 rfl (zMb rfl)<|qb (s := 177) rfl (fun c13=>?_) (fun c13=>?_)
              ·refine zTt 18 rfl rfl rfl c13 (zMf rfl)<|zTt 19 rfl rfl rfl c13 (zIM 1 underlying47 sizeOf75 rfl rfl rfl (ra_at (by omega)))<|zTt 20 rfl rfl rfl c13 (zFF underlying75 rfl sizeOf2 rfl rfl)<|zTt 21 rfl rfl rfl c13 (zLi isAgg2 rfl)<|zTt 22 rfl rfl rfl c13 (zw rfl rfl)<|zTk 23 rfl (zPt rfl c13 rfl)<|zOn 24 rfl<|zb (rTruth _ _) rfl<|z6<|yf<|yl (i := 25) rfl (by kernel_rfl) (by kernel_rfl)<|zc sizeOf75 rfl rfl rfl rfl rfl rfl .head rfl<|z6<|yh (by kernel_rfl)<|zd<|y8 rfl ⟨_, .head⟩ isAgg75 sizeOf75 rfl ?_
               rw [show decide ((ra rs 0).1 = 0) = false from c12, show decide ((ra rs 0).2 = 1) = true from c13]; try rfl
              ·refine zTf 18 rfl rfl rfl c13<|zTf 19 rfl rfl rfl c13<|zTf 20 rfl rfl rfl c13<|zTf 21 rfl rfl rfl c13<|zTf 22 rfl rfl rfl c13<|zTk 23 rfl (zPf rfl c13 rfl)<|zOn 24 rfl<|zb (rTruth _ _) rfl<|z6<|yf<|yl (i := 25) rfl (by kernel_rfl) (by kernel_rfl)<|zc sizeOf75 rfl rfl rfl rfl rfl rfl .head rfl<|z6<|yh (by kernel_rfl)<|zd<|y8 rfl ⟨_, .head⟩ isAgg75 sizeOf75 rfl ?_
               rw [show decide ((ra rs 0).1 = 0) = false from c12, show decide ((ra rs 0).2 = 1) = false from c13]; try rfl
            ·rw [if_neg c11]
             refine zSr<|z2 (zw rfl rfl)<|z2 (zAb rfl)<|z6<|zl rfl (fun c15=>?_) (fun c15=>?_)
             ·have hl1 : rs.length = 1 := by rw [hl, c15]; rfl
              refine za<|zt (fun j => Nat.beq j 5) (by kernel_rfl) rfl (zp (.rest _))<|zTk 0 rfl (zMf rfl)<|zTk 1 rfl (zIM 0 underlying47 sizeOf75 rfl rfl rfl (ra_at (by omega)))<|zTk 2 rfl (zh isAgg75 sizeOf75 rfl rfl)<|zOn 3 rfl<|zb (rType_s (t := 2) (by decide)) rfl<|z6<|zOn 4 rfl<|zb (rMeet_s _ _) rfl<|z6<|yf<|yl (i := 5) rfl (by kernel_rfl) (by kernel_rfl)<|zc sizeOf75 rfl rfl rfl rfl rfl rfl .head rfl<|z6<|yh (by kernel_rfl)<|zd<|y8 rfl ⟨_, .head⟩ isAgg75 sizeOf75 rfl ?_
              rw [if_pos c15]; try rfl
             ·rw [if_neg c15]
              refine zSr<|z2 (zw rfl rfl)<|z2 (zAb rfl)<|z6<|zl rfl (fun c16=>?_) (fun c16=>?_)
              ·refine zSr<|z2 (zx (cps := []) (rs := [.int .i64 0, .int .i64 0]) pl75 rfl rfl rfl)<|zc sizeOf75 rfl rfl rfl rfl rfl rfl .head rfl<|z6<|zd<|y8 rfl ⟨_, .head⟩ isAgg75 sizeOf75 rfl ?_
               rw [if_pos c16]; try rfl
              ·rw [if_neg c16]
               refine zSr<|z2 (zw rfl rfl)<|z2 (zAb rfl)<|z6<|zl rfl (fun c25=>?_) (fun c25=>?_)
               ·have hl1 : rs.length = 2 := by rw [hl, c25]; rfl
                obtain ⟨hb, nb⟩ := hok.at (i := 1) (by omega)
                refine za<|zt (fun j => Nat.beq j 9) (by kernel_rfl) rfl (zp (.rest _))<|zTk 0 rfl (zFF underlying33 rfl sizeOf2 rfl rfl)<|zTk 1 rfl (zLi isAgg2 rfl)<|zTk 2 rfl (zMf rfl)<|zTk 3 rfl (zIM 0 underlying47 sizeOf75 rfl rfl rfl (ra_at (by omega)))<|zTk 4 rfl (zh isAgg75 sizeOf75 rfl rfl)<|zTk 5 rfl (zMf rfl)<|zTk 6 rfl (zIM 1 underlying47 sizeOf75 rfl rfl rfl (ra_at (by omega)))<|zTk 7 rfl (zh isAgg75 sizeOf75 rfl rfl)<|zOn 8 rfl<|zb (rCut x.num hb) rfl<|z6<|yf<|yl (i := 9) rfl (by kernel_rfl) (by kernel_rfl)<|zc sizeOf75 rfl rfl rfl rfl rfl rfl .head rfl<|z6<|yh (by kernel_rfl)<|zd<|y8 rfl ⟨_, .head⟩ isAgg75 sizeOf75 rfl ?_
                rw [if_pos c25]; try rfl
               ·rw [if_neg c25]
                refine zSr<|z2 (zw rfl rfl)<|z2 (zAb rfl)<|z6<|zl rfl (fun c26=>?_) (fun c26=>?_)
                ·have hl1 : rs.length = 2 := by rw [hl, c26]; rfl
                 obtain ⟨hb, nb⟩ := hok.at (i := 1) (by omega)
                 refine za<|zt (fun j => Nat.beq j 9) (by kernel_rfl) rfl (zp (.rest _))<|zTk 0 rfl (zMf rfl)<|zTk 1 rfl (zIM 0 underlying47 sizeOf75 rfl rfl rfl (ra_at (by omega)))<|zTk 2 rfl (zh isAgg75 sizeOf75 rfl rfl)<|zTk 3 rfl (zx (cps := [(0, [_]), (1, [_])]) (rs := [_, _]) pl75 rfl rfl rfl)<|zTk 5 rfl (zMf rfl)<|zTk 6 rfl (zIM 1 underlying47 sizeOf75 rfl rfl rfl (ra_at (by omega)))<|zTk 7 rfl (zh isAgg75 sizeOf75 rfl rfl)<|zOn 4 rfl<|zb (rMeet_s (ra rs 0) (0, M64)) rfl<|z6<|zOn 8 rfl<|zb (rCut 0 hb) rfl<|z6<|yf<|yl (i := 9) rfl (by kernel_rfl) (by kernel_rfl)<|zc sizeOf75 rfl rfl rfl rfl rfl rfl .head rfl<|z6<|yh (by kernel_rfl)<|zd<|y8 rfl ⟨_, .head⟩ isAgg75 sizeOf75 rfl ?_
                 rw [if_pos c26]; try rfl
                ·refine zf<|zSr<|z2 (zh isAgg75 sizeOf75 rfl rfl)<|zc sizeOf75 rfl rfl rfl rfl rfl rfl .head rfl<|z6<|zd<|y8 rfl ⟨_, .head⟩ isAgg75 sizeOf75 rfl ?_
                 rw [if_neg c26]; try rfl
end Go.Proofs.YtjnpcfpecilejaaGreatDoor
namespace Go.Proofs.YtjnpcfpecilejaaGreatDoor
open Go.Proofs.Tryz
theorem flat_len1 {α β : Type} {g : α → List β} : ∀ {l : List α} {i : Nat} {x : α}, l[i]? = some x → (g x).length ≤ (l.flatMap g).length
 | y :: l, 0, x, h => by simp at h; subst h; rw [List.flatMap_cons, qn]; omega
 | y :: l, i + 1, x, h => by
  have := flat_len1 (g := g) (l := l) (i := i) (x := x) (by simpa using h)
  rw [List.flatMap_cons, qn]; omega
theorem mkBlk_len {f : PFunc} {v : Int} (hl : (makings f v).length ≤ 1) {i : Nat} {b : PBlock} (h : f.blocks[i]? = some b) : (mkBlk v i b).length ≤ 1 := by
 have h2 : f.blocks.zipIdx[i]? = some (b, i) := by rw [List.getElem?_zipIdx, h]; simp
 exact Nat.le_trans (flat_len1 (g := fun b : PBlock × Nat => mkBlk v (b.2 : Int) b.1) h2) hl
theorem phi_one {f : PFunc} {v : Int} (hl : (makings f v).length ≤ 1) {i : Nat} {b : PBlock} (h : f.blocks[i]? = some b) {p : PPhi} (hp : p ∈ b.phis) (hd : p.dst = v) : b.phis.filter (fun q => decide (q.dst = v)) = [p] := by
 have h1 := mkBlk_len hl h
 unfold mkBlk at h1
 rw [qn, qo] at h1
 have h2 : p ∈ b.phis.filter (fun q => decide (q.dst = v)) := List.mem_filter.2 ⟨hp, by simpa using hd⟩
 cases hf : b.phis.filter (fun q => decide (q.dst = v)) with
 | nil => rw [hf] at h2; cases h2
 | cons x l =>
  rw [hf] at h1 h2
  have : l = [] := qt (by simp only [List.length_cons] at h1; omega)
  subst this
  simp at h2; rw [h2]
theorem phi_find {f : PFunc} {v : Int} (hl : (makings f v).length ≤ 1) {i : Nat} {b : PBlock} (h : f.blocks[i]? = some b) {p : PPhi} (hp : p ∈ b.phis) (hd : p.dst = v) : (b.phis.find? fun q => decide (q.dst = v)) = some p := by
 rw [← List.head?_filter, phi_one hl h hp hd]; rfl
def phiAcc (f : PFunc) (l : List Rng) (acc : Rng) (xs : List Int) : Rng := xs.foldl (fun acc v => rJoin acc (ofR f l v)) acc
theorem phiAcc_snoc (f : PFunc) (l : List Rng) (acc : Rng) (xs : List Int) (v : Int) : phiAcc f l acc (xs ++ [v]) = rJoin (phiAcc f l acc xs) (ofR f l v) := by unfold phiAcc; rw [List.foldl_append]; rfl
def phisAcc (f : PFunc) (l : List Rng) (v : Int) (ps : List PPhi) : Rng := (ps.filter fun q => decide (q.dst = v)).foldl (fun acc p => phiAcc f l acc p.args) noR
theorem phisAcc_snoc (f : PFunc) (l : List Rng) (v : Int) (ps : List PPhi) (p : PPhi) : phisAcc f l v (ps ++ [p]) = if p.dst = v then phiAcc f l (phisAcc f l v ps) p.args else phisAcc f l v ps := by
 unfold phisAcc
 rw [List.filter_append, List.foldl_append]
 by_cases h : p.dst = v
 ·rw [if_pos h]; simp [h]
 ·rw [if_neg h]; simp [h]
theorem rule_phi {f : PFunc} {chk : Int → Bool} {l : List Rng} {v : Int} (hl : (makings f v).length ≤ 1) {i : Nat} {b : PBlock} (h : f.blocks[i]? = some b) {p : PPhi} (hp : p ∈ b.phis) (hd : p.dst = v) (hm : makerT f v = ((i : Int), -1)) : ruleR f chk l v = phiAcc f l noR p.args := by
 unfold ruleR
 rw [hm]
 dsimp only
 rw [show (i : Int).toNat = i from rfl, h]
 dsimp only
 rw [if_neg (by decide), phi_find hl h hp hd]
 rfl
theorem phis_one {f : PFunc} {l : List Rng} {v : Int} (hl : (makings f v).length ≤ 1) {i : Nat} {b : PBlock} (h : f.blocks[i]? = some b) {p : PPhi} (hp : p ∈ b.phis) (hd : p.dst = v) : phisAcc f l v b.phis = phiAcc f l noR p.args := by
 unfold phisAcc; rw [phi_one hl h hp hd]; rfl
theorem rule_inst {f : PFunc} {chk : Int → Bool} {l : List Rng} {v : Int} {i k : Nat} {b : PBlock} (h : f.blocks[i]? = some b) {x : PInst} (hx : b.insts[k]? = some x) (hm : makerT f v = ((i : Int), (k : Int))) : ruleR f chk l v = instR f chk l x := by
 unfold ruleR
 rw [hm]
 dsimp only
 rw [show (i : Int).toNat = i from rfl, h]
 dsimp only
 rw [if_pos (by omega), show (k : Int).toNat = k from rfl, hx]
def firstR (f : PFunc) (v : Int) : Rng := if v < f.params.length then rType (tyV f v) else (0, 0)
def first0R (f : PFunc) (v : Int) : Rng := if (makerT f v).1 < 0 then firstR f v else noR
def firstL (f : PFunc) : List Rng := (List.range f.vars.length).map fun (v : Nat) => first0R f v
theorem firstL_len (f : PFunc) : (firstL f).length = f.vars.length := by simp [firstL]
theorem firstL_take {f : PFunc} {k : Nat} (h : k < f.vars.length) : (firstL f).take (k + 1) = (firstL f).take k ++ [first0R f k] := by
 rw [qi (by rw [firstL_len]; exact h)]
 congr 1
 unfold firstL; simp
def madePh (b : PBlock) : List (Int × Bool) := b.phis.map fun p => (p.dst, true)
def madeIn (xs : List PInst) : List (Int × Bool) := (xs.filter fun x => decide (0 ≤ x.dst)).map fun x => (x.dst, false)
def madeTo (f : PFunc) (k : Nat) : List (Int × Bool) := (f.blocks.take k).flatMap fun b => madePh b ++ madeIn b.insts
def madeL (f : PFunc) : List (Int × Bool) := f.blocks.flatMap fun b => madePh b ++ madeIn b.insts
theorem madeTo_all (f : PFunc) : madeTo f f.blocks.length = madeL f := by unfold madeTo madeL; rw [qm]
theorem madeTo_succ {f : PFunc} {k : Nat} (h : k < f.blocks.length) : madeTo f (k + 1) = madeTo f k ++ (madePh f.blocks[k] ++ madeIn f.blocks[k].insts) := by
 unfold madeTo; rw [qi h, List.flatMap_append]; simp
theorem madePh_succ {b : PBlock} {j : Nat} (h : j < b.phis.length) : (b.phis.take (j + 1)).map (fun p => ((p.dst, true) : Int × Bool)) = (b.phis.take j).map (fun p => ((p.dst, true) : Int × Bool)) ++ [(b.phis[j].dst, true)] := by
 rw [qi h, List.map_append]; rfl
theorem madeIn_succ {xs : List PInst} {j : Nat} (h : j < xs.length) : madeIn (xs.take (j + 1)) = madeIn (xs.take j) ++ if 0 ≤ xs[j].dst then [(xs[j].dst, false)] else [] := by
 unfold madeIn
 rw [qi h, List.filter_append, List.map_append]
 congr 1
 by_cases c : 0 ≤ xs[j].dst
 ·rw [if_pos c]; simp [c]
 ·rw [if_neg c]; simp [c]
theorem mem_madeL {f : PFunc} {v : Int} {p : Bool} : (v, p) ∈ madeL f ↔ ∃ b ∈ f.blocks, (p = true ∧ ∃ q ∈ b.phis, q.dst = v) ∨ (p = false ∧ 0 ≤ v ∧ ∃ x ∈ b.insts, x.dst = v) := by
 unfold madeL
 rw [List.mem_flatMap]
 constructor
 ·rintro ⟨b, hb, h⟩
  refine ⟨b, hb, ?_⟩
  rcases List.mem_append.1 h with h | h
  ·obtain ⟨q, hq, e⟩ := List.mem_map.1 h
   simp only [Prod.mk.injEq] at e
   exact .inl ⟨e.2.symm, q, hq, e.1⟩
  ·obtain ⟨x, hx, e⟩ := List.mem_map.1 h
   obtain ⟨h1, h2⟩ := List.mem_filter.1 hx
   simp only [Prod.mk.injEq] at e
   exact .inr ⟨e.2.symm, by rw [← e.1]; simpa using h2, x, h1, e.1⟩
 ·rintro ⟨b, hb, h⟩
  refine ⟨b, hb, ?_⟩
  rcases h with ⟨rfl, q, hq, rfl⟩ | ⟨rfl, h0, x, hx, rfl⟩
  ·exact List.mem_append_left _ (List.mem_map.2 ⟨q, hq, rfl⟩)
  ·exact List.mem_append_right _ (List.mem_map.2 ⟨x, List.mem_filter.2 ⟨hx, by simpa using h0⟩, rfl⟩)
end Go.Proofs.YtjnpcfpecilejaaGreatDoor
