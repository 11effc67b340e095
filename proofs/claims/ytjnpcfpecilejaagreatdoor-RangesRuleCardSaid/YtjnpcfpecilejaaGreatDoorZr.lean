/- The document's rules; what each has first; the order of a round. Of programs that are little. -/
import Derived.Test.YtjnpcfpecilejaaGreatDoorZp
import Derived.Test.YtjnpcfpecilejaaGreatDoorZq
set_option linter.unusedVariables false
set_option linter.unusedSimpArgs false
set_option linter.unusedSectionVars false
namespace Go.Proofs.YtjnpcfpecilejaaGreatDoor
open Go.Proofs.Tryz
open Go.Proofs Go.Lib Go.Shelf Go.RowKit
variable {E : World}
set_option maxRecDepth 20000
theorem ra_at {rs : List Rng} {i : Nat} (h : i < rs.length) : rs[i]? = some (ra rs i) := by unfold ra; rw [qj h]; rfl
def okRs (rs : List Rng) : Prop := ∀ r ∈ rs, ok64 r ∧ r.1 ≤ r.2
theorem okRs.at {rs : List Rng} (h : okRs rs) {i : Nat} (hi : i < rs.length) : ok64 (ra rs i) ∧ (ra rs i).1 ≤ (ra rs i).2 := by
 have := ra_at hi
 exact h _ (qu this)
theorem rMeet_no (a b : Rng) : (!decide ((rMeet a b).1 = noR.1 ∧ (rMeet a b).2 = noR.2)) = !decide ((rMeet a b).2 < (rMeet a b).1) := by
 congr 1
 rw [decide_eq_decide]
 constructor
 ·rintro ⟨h1, h2⟩; rw [h1, h2]; decide
 ·intro h; rw [rMeet_nrm a b h]; exact ⟨rfl, rfl⟩
set_option maxHeartbeats 4000000 in
theorem refInst22_spec (x : PInst) (rs : List Rng) (chk : Bool) (hl : rs.length = (takesL x.op).length) (hok : okRs rs) (hop : 0 ≤ x.op ∧ x.op ≤ 26) : AFun Tryz.prog E 77 [.agg (encInst x), .fro 2 (rs.map encZ), .bool chk] (.agg (encZ (instQ x.op x.num rs chk))) := by
 rw [instQ]
 refine zp func77 rfl (by decide) rfl<|za<|z7 rfl<|y7 (cs := _) rfl rfl rfl<|zq (cs := [.int .i64 0, .int .i64 0]) zeroValue75 rfl rfl<|fun i6 => z6<|za<|z7 rfl<|zd (rType_s (t := 0) (by decide)) rfl<|zq (cs := [.int .i64 0, .int .i64 0]) zeroValue75 rfl rfl<|fun i7 => ze sizeOf75 rfl rfl rfl rfl rfl rfl .head rfl<|z6<|yl (yh (t := 7) rfl .head)<|za<|za<|z7 rfl<|z2 (zc underlying33 rfl sizeOf31 (by decide) rfl rfl)<|z2 (zLi isAgg31 rfl)<|z6<|zm<|za<|z7 rfl<|z2 (zy rfl rfl)<|z2 (zAb rfl)<|z6<|zn rfl (fun c0 => ?_) (fun c0 => ?_)
 ·refine za<|z7 rfl<|z2 (zc underlying33 rfl sizeOf2 (by decide) rfl rfl)<|z2 (zLi isAgg2 rfl)<|z2 (zc underlying33 rfl sizeOf2 (by decide) rfl rfl)<|z2 (zLi isAgg2 rfl)<|z2 (y3 (cps := [(0, [_]), (1, [_])]) (rs := [_, _]) pl75 rfl rfl rfl)<|ze sizeOf75 rfl rfl rfl rfl rfl rfl .head rfl<|z6<|zf<|yf rfl ⟨_, .head⟩ isAgg75 sizeOf75 rfl ?_
  rw [if_pos c0]; try rfl
 ·rw [if_neg c0]
  refine za<|za<|z7 rfl<|z2 (zy rfl rfl)<|z2 (zAb rfl)<|z6<|yi (γ := Bool) [1, 2, 3, 6, 7, 12] (fun u => [(20, .bool u)]) (fun u => [(i6, .cells 75 [.int .i64 0, .int .i64 0])]) (fun u => u = decide (x.op = 1 ∨ x.op = 12)) ?_ (fun _ _ h => h) ?_
  ·refine y4 rfl (fun c1 => ?_) (fun c1 => ?_)
   ·refine zg ?_
    exact ⟨_, zR6, zR1, zLe, by simp_all⟩
   ·refine z7 rfl<|z2 (zy rfl rfl)<|z2 (zAb rfl)<|z6 ?_
    exact ⟨_, zR6, zR1, zLe, by simp_all⟩
  ·rintro u hu
   subst hu
   refine zn rfl (fun c1 => ?_) (fun c1 => ?_)
   ·have hl1 : rs.length = 1 := by rw [hl]; rcases c1 with c | c <;> rw [c] <;> rfl
    refine za<|z7 rfl<|z2 (zMf rfl)<|z2 (zz (j := 0) underlying47 sizeOf75 rfl rfl rfl (ra_at (by omega)))<|z2 (zj isAgg75 sizeOf75 rfl rfl)<|ze sizeOf75 rfl rfl rfl rfl rfl rfl .head rfl<|z6<|zf<|yf rfl ⟨_, .head⟩ isAgg75 sizeOf75 rfl ?_
    rw [if_pos c1]; try rfl
   ·rw [if_neg c1]
    refine za<|za<|z7 rfl<|z2 (zy rfl rfl)<|z2 (zAb rfl)<|z6<|yi (γ := Bool) [1, 2, 3, 6, 7, 12] (fun u => [(26, .bool u)]) (fun u => [(i6, .cells 75 [.int .i64 0, .int .i64 0])]) (fun u => u = decide (x.op = 2 ∨ x.op = 3 ∨ x.op = 4)) ?_ (fun _ _ h => h) ?_
    ·refine y4 rfl (fun c2 => ?_) (fun c2 => ?_)
     ·refine zg ?_
      exact ⟨_, zR6, zR1, zLe, by simp_all⟩
     ·refine za<|z7 rfl<|z2 (zy rfl rfl)<|z2 (zAb rfl)<|z6<|y4 rfl (fun c3 => ?_) (fun c3 => ?_)
      ·refine zg ?_
       exact ⟨_, zR6, zR1, zLe, by simp_all⟩
      ·refine z7 rfl<|z2 (zy rfl rfl)<|z2 (zAb rfl)<|z6 ?_
       exact ⟨_, zR6, zR1, zLe, by simp_all⟩
    ·rintro u hu
     subst hu
     refine zn rfl (fun c2 => ?_) (fun c2 => ?_)
     ·have hl1 : rs.length = 2 := by rw [hl]; rcases c2 with c | c | c <;> rw [c] <;> rfl
      obtain ⟨ha, na⟩ := hok.at (i := 0) (by omega)
      obtain ⟨hb, nb⟩ := hok.at (i := 1) (by omega)
      obtain ⟨k, hk, hk2⟩ := sum_op c2
      have hk3 : x.op - 2 = (k : Int) := by omega
      have hF := rFits (E := E) hk ha hb
      have hC := rClip (E := E) hk ha hb
      rw [← hk3] at hF hC
      have hq : (if x.op = 2 then sumQ 0 (ra rs 0) (ra rs 1) chk else if x.op = 3 then sumQ 1 (ra rs 0) (ra rs 1) chk else if x.op = 4 then sumQ 2 (ra rs 0) (ra rs 1) chk else if x.op = 5 then divQ (ra rs 0) (ra rs 1) else if x.op = 6 then remQ (ra rs 0) (ra rs 1) else if x.op = 7 then eqQ (ra rs 0) (ra rs 1) else if x.op = 8 then ltQ (ra rs 0) (ra rs 1) else if x.op = 9 then leQ (ra rs 0) (ra rs 1) else if x.op = 10 then notQ (ra rs 0) else if x.op = 11 then andQ (ra rs 0) (ra rs 1) else if x.op = 15 then rMeet (ra rs 0) (0, 64) else if x.op = 16 then rOf 0 else if x.op = 25 then cutQ x.num (ra rs 0) (ra rs 1) else if x.op = 26 then cutQ 0 (rMeet (ra rs 0) (0, M64)) (ra rs 1) else allR) = sumQ k (ra rs 0) (ra rs 1) chk := by
       rcases (by omega : k = 0 ∨ k = 1 ∨ k = 2) with rfl | rfl | rfl
       ·rw [if_pos (by omega)]
       ·rw [if_neg (by omega), if_pos (by omega)]
       ·rw [if_neg (by omega), if_neg (by omega), if_pos (by omega)]
      rw [hq, sumQ]
      refine za<|z7 rfl<|z2 (zc underlying33 rfl sizeOf31 (by decide) rfl rfl)<|z2 (zLi isAgg31 rfl)<|z2 (Gv.sub rfl rfl (by unfold I64; omega))<|z2 (zAi rfl)<|z6<|za<|za<|yi (γ := Bool) [1, 6, 7, 8] (fun u => [(43, .bool u)]) (fun u => [(i6, .cells 75 [.int .i64 0, .int .i64 0])]) (fun u => u = decide (chk = true ∨ cornF k (ra rs 0) (ra rs 1))) ?_ (fun _ _ h => h) ?_
      ·refine zw (fun j => false) (by kernel_rfl) rfl (zu (.rest _))<|zTk (i := 0) rfl (zMb rfl)<|zTk (i := 1) rfl (zMb rfl)<|AAny.case (s := 34) rfl (fun c => ?_) (fun c => ?_)
       ·refine zTf (i := 2) rfl rfl rfl c<|zTf (i := 3) rfl rfl rfl c<|zTf (i := 4) rfl rfl rfl c<|zTf (i := 5) rfl rfl rfl c<|zTf (i := 6) rfl rfl rfl c<|zTf (i := 7) rfl rfl rfl c<|zTf (i := 8) rfl rfl rfl c<|zTf (i := 9) rfl rfl rfl c<|zTk (i := 10) rfl (zPt rfl c rfl)<|zDn ?_
        exact ⟨_, zR4, zR1, zLe, by rw [show chk = true from c]; simp⟩
       ·refine zTt (i := 2) rfl rfl rfl c (zMi rfl)<|zTt (i := 3) rfl rfl rfl c (zMf rfl)<|zTt (i := 4) rfl rfl rfl c (zz (j := 0) underlying47 sizeOf75 rfl rfl rfl (ra_at (by omega)))<|zTt (i := 5) rfl rfl rfl c (zj isAgg75 sizeOf75 rfl rfl)<|zTt (i := 6) rfl rfl rfl c (zMf rfl)<|zTt (i := 7) rfl rfl rfl c (zz (j := 1) underlying47 sizeOf75 rfl rfl rfl (ra_at (by omega)))<|zTt (i := 8) rfl rfl rfl c (zj isAgg75 sizeOf75 rfl rfl)<|zOn (i := 9) rfl<|zb rfl rfl c<|zd (hF) rfl<|z6<|zTk (i := 10) rfl (zPf rfl c rfl)<|zDn ?_
        exact ⟨_, zR4, zR1, zLe, by rw [show chk = false from c]; simp⟩
      ·rintro u hu
       subst hu
       refine zn rfl (fun cf => ?_) (fun cf => ?_)
       ·refine za<|zw (fun j => Nat.beq j 8) (by kernel_rfl) rfl (zu (.rest _))<|zTk (i := 0) rfl (zMi rfl)<|zTk (i := 1) rfl (zMf rfl)<|zTk (i := 2) rfl (zz (j := 0) underlying47 sizeOf75 rfl rfl rfl (ra_at (by omega)))<|zTk (i := 3) rfl (zj isAgg75 sizeOf75 rfl rfl)<|zTk (i := 4) rfl (zMf rfl)<|zTk (i := 5) rfl (zz (j := 1) underlying47 sizeOf75 rfl rfl rfl (ra_at (by omega)))<|zTk (i := 6) rfl (zj isAgg75 sizeOf75 rfl rfl)<|zOn (i := 7) rfl<|zd (hC) rfl<|z6<|ym<|yv (i := 8) rfl (by kernel_rfl) (by kernel_rfl)<|ze sizeOf75 rfl rfl rfl rfl rfl rfl .head rfl<|z6<|yr (by kernel_rfl)<|zf<|yf rfl ⟨_, .head⟩ isAgg75 sizeOf75 rfl ?_
        rw [if_pos cf]; try rfl
       ·refine zg<|za<|z7 rfl<|z2 (zj isAgg75 sizeOf75 rfl rfl)<|ze sizeOf75 rfl rfl rfl rfl rfl rfl .head rfl<|z6<|zf<|yf rfl ⟨_, .head⟩ isAgg75 sizeOf75 rfl ?_
        rw [if_neg cf]; try rfl
     ·rw [if_neg (by omega), if_neg (by omega), if_neg (by omega)]
      refine za<|z7 rfl<|z2 (zy rfl rfl)<|z2 (zAb rfl)<|z6<|zn rfl (fun c5 => ?_) (fun c5 => ?_)
      ·have hl1 : rs.length = 2 := by rw [hl, c5]; rfl
       obtain ⟨ha, na⟩ := hok.at (i := 0) (by omega)
       obtain ⟨hb, nb⟩ := hok.at (i := 1) (by omega)
       refine za<|zw (fun j => Nat.beq j 7) (by kernel_rfl) rfl (zu (.rest _))<|zTk (i := 0) rfl (zMf rfl)<|zTk (i := 1) rfl (zz (j := 0) underlying47 sizeOf75 rfl rfl rfl (ra_at (by omega)))<|zTk (i := 2) rfl (zj isAgg75 sizeOf75 rfl rfl)<|zTk (i := 3) rfl (zMf rfl)<|zTk (i := 4) rfl (zz (j := 1) underlying47 sizeOf75 rfl rfl rfl (ra_at (by omega)))<|zTk (i := 5) rfl (zj isAgg75 sizeOf75 rfl rfl)<|zOn (i := 6) rfl<|zd (rDiv ha na nb) rfl<|z6<|ym<|yv (i := 7) rfl (by kernel_rfl) (by kernel_rfl)<|ze sizeOf75 rfl rfl rfl rfl rfl rfl .head rfl<|z6<|yr (by kernel_rfl)<|zf<|yf rfl ⟨_, .head⟩ isAgg75 sizeOf75 rfl ?_
       rw [if_pos c5]; try rfl
      ·rw [if_neg c5]
       refine za<|z7 rfl<|z2 (zy rfl rfl)<|z2 (zAb rfl)<|z6<|zn rfl (fun c6 => ?_) (fun c6 => ?_)
       ·have hl1 : rs.length = 2 := by rw [hl, c6]; rfl
        obtain ⟨hb, nb⟩ := hok.at (i := 1) (by omega)
        refine za<|zw (fun j => Nat.beq j 7) (by kernel_rfl) rfl (zu (.rest _))<|zTk (i := 0) rfl (zMf rfl)<|zTk (i := 1) rfl (zz (j := 0) underlying47 sizeOf75 rfl rfl rfl (ra_at (by omega)))<|zTk (i := 2) rfl (zj isAgg75 sizeOf75 rfl rfl)<|zTk (i := 3) rfl (zMf rfl)<|zTk (i := 4) rfl (zz (j := 1) underlying47 sizeOf75 rfl rfl rfl (ra_at (by omega)))<|zTk (i := 5) rfl (zj isAgg75 sizeOf75 rfl rfl)<|zOn (i := 6) rfl<|zd (rRem hb) rfl<|z6<|ym<|yv (i := 7) rfl (by kernel_rfl) (by kernel_rfl)<|ze sizeOf75 rfl rfl rfl rfl rfl rfl .head rfl<|z6<|yr (by kernel_rfl)<|zf<|yf rfl ⟨_, .head⟩ isAgg75 sizeOf75 rfl ?_
        rw [if_pos c6]; try rfl
       ·rw [if_neg c6]
        refine za<|z7 rfl<|z2 (zy rfl rfl)<|z2 (zAb rfl)<|z6<|zn rfl (fun c7 => ?_) (fun c7 => ?_)
        ·have hl1 : rs.length = 2 := by rw [hl, c7]; rfl
         rw [if_pos c7, eqQ]
         refine za<|yi (γ := Bool) [1, 6] (fun u => [(9, .bool u)]) (fun u => [(i6, .cells 75 [.int .i64 0, .int .i64 0])]) (fun u => u = (decide ((ra rs 0).1 = (ra rs 0).2) && decide (ra rs 0 = ra rs 1))) ?_ (fun _ _ h => h) ?_
         ·refine zw (fun j => false) (by kernel_rfl) rfl (zu (.rest _))<|zTk (i := 0) rfl (zMf rfl)<|zTk (i := 1) rfl (zz (j := 0) underlying47 sizeOf75 rfl rfl rfl (ra_at (by omega)))<|zTk (i := 2) rfl (zc underlying75 rfl sizeOf2 (by decide) rfl rfl)<|zTk (i := 3) rfl (zLi isAgg2 rfl)<|zTk (i := 4) rfl (zMf rfl)<|zTk (i := 5) rfl (zz (j := 0) underlying47 sizeOf75 rfl rfl rfl (ra_at (by omega)))<|zTk (i := 6) rfl (zc underlying75 rfl sizeOf2 (by decide) rfl rfl)<|zTk (i := 7) rfl (zLi isAgg2 rfl)<|zTk (i := 8) rfl (zy rfl rfl)<|zTk (i := 9) rfl (zMb rfl)<|AAny.case (s := 82) rfl (fun c => ?_) (fun c => ?_)
          ·refine zTt (i := 10) rfl rfl rfl c (zMf rfl)<|zTt (i := 11) rfl rfl rfl c (zz (j := 0) underlying47 sizeOf75 rfl rfl rfl (ra_at (by omega)))<|zTt (i := 12) rfl rfl rfl c (zj isAgg75 sizeOf75 rfl rfl)<|zTt (i := 13) rfl rfl rfl c (zMf rfl)<|zTt (i := 14) rfl rfl rfl c (zz (j := 1) underlying47 sizeOf75 rfl rfl rfl (ra_at (by omega)))<|zTt (i := 15) rfl rfl rfl c (zj isAgg75 sizeOf75 rfl rfl)<|zTt (i := 16) rfl rfl rfl c (Gv.eqlP (xs := [.int _ _, .int _ _]) (ys := [.int _ _, .int _ _]) (by kernel_rfl) rfl rfl (fun w => eq_rrange _ _ _ _ w))<|zTk (i := 17) rfl (zPt rfl c rfl)<|zTk (i := 18) rfl (zAb rfl)<|zDn ?_
           exact ⟨_, zR2, zR1, zLe, by rw [show decide ((ra rs 0).1 = (ra rs 0).2) = true from c, ← rng_eq]; rfl⟩
          ·refine zTf (i := 10) rfl rfl rfl c<|zTf (i := 11) rfl rfl rfl c<|zTf (i := 12) rfl rfl rfl c<|zTf (i := 13) rfl rfl rfl c<|zTf (i := 14) rfl rfl rfl c<|zTf (i := 15) rfl rfl rfl c<|zTf (i := 16) rfl rfl rfl c<|zTk (i := 17) rfl (zPf rfl c rfl)<|zTk (i := 18) rfl (zAb rfl)<|zDn ?_
           exact ⟨_, zR2, zR1, zLe, by rw [show decide ((ra rs 0).1 = (ra rs 0).2) = false from c]; rfl⟩
         ·rintro u hu
          rw [← hu]
          refine za<|zw (fun j => Nat.beq j 12) (by kernel_rfl) rfl (zu (.rest _))<|zTk (i := 0) rfl (zMb rfl)<|zTk (i := 1) rfl (yk rfl)<|zTk (i := 2) rfl (zMf rfl)<|zTk (i := 3) rfl (zz (j := 0) underlying47 sizeOf75 rfl rfl rfl (ra_at (by omega)))<|zTk (i := 4) rfl (zj isAgg75 sizeOf75 rfl rfl)<|zTk (i := 5) rfl (zMf rfl)<|zTk (i := 6) rfl (zz (j := 1) underlying47 sizeOf75 rfl rfl rfl (ra_at (by omega)))<|zTk (i := 7) rfl (zj isAgg75 sizeOf75 rfl rfl)<|zOn (i := 8) rfl<|zd (rMeet_s _ _) rfl<|z6<|zOn (i := 9) rfl<|zd (rNone) rfl<|z6<|zTk (i := 10) rfl (Gv.neqP (xs := [.int _ _, .int _ _]) (ys := [.int _ _, .int _ _]) (by kernel_rfl) rfl rfl (fun w => eq_rrange _ _ _ _ w))<|zOn (i := 11) rfl<|zd (rTruth _ _) rfl<|z6<|ym<|yv (i := 12) rfl (by kernel_rfl) (by kernel_rfl)<|ze sizeOf75 rfl rfl rfl rfl rfl rfl .head rfl<|z6<|yr (by kernel_rfl)<|zf<|yf rfl ⟨_, .head⟩ isAgg75 sizeOf75 rfl ?_
          rw [← rMeet_no]; try rfl
        ·rw [if_neg c7]
         refine za<|z7 rfl<|z2 (zy rfl rfl)<|z2 (zAb rfl)<|z6<|zn rfl (fun c8 => ?_) (fun c8 => ?_)
         ·have hl1 : rs.length = 2 := by rw [hl, c8]; rfl
          refine za<|zw (fun j => Nat.beq j 19) (by kernel_rfl) rfl (zu (.rest _))<|zTk (i := 0) rfl (zMf rfl)<|zTk (i := 1) rfl (zz (j := 0) underlying47 sizeOf75 rfl rfl rfl (ra_at (by omega)))<|zTk (i := 2) rfl (zc underlying75 rfl sizeOf2 (by decide) rfl rfl)<|zTk (i := 3) rfl (zLi isAgg2 rfl)<|zTk (i := 4) rfl (zMf rfl)<|zTk (i := 5) rfl (zz (j := 1) underlying47 sizeOf75 rfl rfl rfl (ra_at (by omega)))<|zTk (i := 6) rfl (zc underlying75 rfl sizeOf2 (by decide) rfl rfl)<|zTk (i := 7) rfl (zLi isAgg2 rfl)<|zTk (i := 8) rfl (q8 rfl rfl)<|zTk (i := 9) rfl (zMf rfl)<|zTk (i := 10) rfl (zz (j := 0) underlying47 sizeOf75 rfl rfl rfl (ra_at (by omega)))<|zTk (i := 11) rfl (zc underlying75 rfl sizeOf2 (by decide) rfl rfl)<|zTk (i := 12) rfl (zLi isAgg2 rfl)<|zTk (i := 13) rfl (zMf rfl)<|zTk (i := 14) rfl (zz (j := 1) underlying47 sizeOf75 rfl rfl rfl (ra_at (by omega)))<|zTk (i := 15) rfl (zc underlying75 rfl sizeOf2 (by decide) rfl rfl)<|zTk (i := 16) rfl (zLi isAgg2 rfl)<|zTk (i := 17) rfl (yc rfl rfl)<|zOn (i := 18) rfl<|zd (rTruth _ _) rfl<|z6<|ym<|yv (i := 19) rfl (by kernel_rfl) (by kernel_rfl)<|ze sizeOf75 rfl rfl rfl rfl rfl rfl .head rfl<|z6<|yr (by kernel_rfl)<|zf<|yf rfl ⟨_, .head⟩ isAgg75 sizeOf75 rfl ?_
          rw [if_pos c8]; try rfl
         ·rw [if_neg c8]
          refine za<|z7 rfl<|z2 (zy rfl rfl)<|z2 (zAb rfl)<|z6<|zn rfl (fun c9 => ?_) (fun c9 => ?_)
          ·have hl1 : rs.length = 2 := by rw [hl, c9]; rfl
           refine za<|zw (fun j => Nat.beq j 19) (by kernel_rfl) rfl (zu (.rest _))<|zTk (i := 0) rfl (zMf rfl)<|zTk (i := 1) rfl (zz (j := 0) underlying47 sizeOf75 rfl rfl rfl (ra_at (by omega)))<|zTk (i := 2) rfl (zc underlying75 rfl sizeOf2 (by decide) rfl rfl)<|zTk (i := 3) rfl (zLi isAgg2 rfl)<|zTk (i := 4) rfl (zMf rfl)<|zTk (i := 5) rfl (zz (j := 1) underlying47 sizeOf75 rfl rfl rfl (ra_at (by omega)))<|zTk (i := 6) rfl (zc underlying75 rfl sizeOf2 (by decide) rfl rfl)<|zTk (i := 7) rfl (zLi isAgg2 rfl)<|zTk (i := 8) rfl (yx rfl rfl)<|zTk (i := 9) rfl (zMf rfl)<|zTk (i := 10) rfl (zz (j := 0) underlying47 sizeOf75 rfl rfl rfl (ra_at (by omega)))<|zTk (i := 11) rfl (zc underlying75 rfl sizeOf2 (by decide) rfl rfl)<|zTk (i := 12) rfl (zLi isAgg2 rfl)<|zTk (i := 13) rfl (zMf rfl)<|zTk (i := 14) rfl (zz (j := 1) underlying47 sizeOf75 rfl rfl rfl (ra_at (by omega)))<|zTk (i := 15) rfl (zc underlying75 rfl sizeOf2 (by decide) rfl rfl)<|zTk (i := 16) rfl (zLi isAgg2 rfl)<|zTk (i := 17) rfl (Gv.leq rfl rfl)<|zOn (i := 18) rfl<|zd (rTruth _ _) rfl<|z6<|ym<|yv (i := 19) rfl (by kernel_rfl) (by kernel_rfl)<|ze sizeOf75 rfl rfl rfl rfl rfl rfl .head rfl<|z6<|yr (by kernel_rfl)<|zf<|yf rfl ⟨_, .head⟩ isAgg75 sizeOf75 rfl ?_
           rw [if_pos c9]; try rfl
          ·rw [if_neg c9]
           refine za<|z7 rfl<|z2 (zy rfl rfl)<|z2 (zAb rfl)<|z6<|zn rfl (fun c10 => ?_) (fun c10 => ?_)
           ·have hl1 : rs.length = 1 := by rw [hl, c10]; rfl
            refine za<|zw (fun j => Nat.beq j 11) (by kernel_rfl) rfl (zu (.rest _))<|zTk (i := 0) rfl (zMf rfl)<|zTk (i := 1) rfl (zz (j := 0) underlying47 sizeOf75 rfl rfl rfl (ra_at (by omega)))<|zTk (i := 2) rfl (zc underlying75 rfl sizeOf2 (by decide) rfl rfl)<|zTk (i := 3) rfl (zLi isAgg2 rfl)<|zTk (i := 4) rfl (zy rfl rfl)<|zTk (i := 5) rfl (zMf rfl)<|zTk (i := 6) rfl (zz (j := 0) underlying47 sizeOf75 rfl rfl rfl (ra_at (by omega)))<|zTk (i := 7) rfl (zc underlying75 rfl sizeOf2 (by decide) rfl rfl)<|zTk (i := 8) rfl (zLi isAgg2 rfl)<|zTk (i := 9) rfl (zy rfl rfl)<|zOn (i := 10) rfl<|zd (rTruth _ _) rfl<|z6<|ym<|yv (i := 11) rfl (by kernel_rfl) (by kernel_rfl)<|ze sizeOf75 rfl rfl rfl rfl rfl rfl .head rfl<|z6<|yr (by kernel_rfl)<|zf<|yf rfl ⟨_, .head⟩ isAgg75 sizeOf75 rfl ?_
            rw [if_pos c10]; try rfl
           ·rw [if_neg c10]
            refine za<|z7 rfl<|z2 (zy rfl rfl)<|z2 (zAb rfl)<|z6<|zn rfl (fun c11 => ?_) (fun c11 => ?_)
            ·have hl1 : rs.length = 2 := by rw [hl, c11]; rfl
             rw [if_pos c11, andQ]
             refine za<|zw (fun j => Nat.beq j 25) (by kernel_rfl) rfl (zu (.rest _))<|zTk (i := 0) rfl (zMf rfl)<|zTk (i := 1) rfl (zz (j := 0) underlying47 sizeOf75 rfl rfl rfl (ra_at (by omega)))<|zTk (i := 2) rfl (zc underlying75 rfl sizeOf2 (by decide) rfl rfl)<|zTk (i := 3) rfl (zLi isAgg2 rfl)<|zTk (i := 4) rfl (zy rfl rfl)<|zTk (i := 5) rfl (zMb rfl)<|AAny.case (s := 165) rfl (fun c12 => ?_) (fun c12 => ?_)
             ·refine zTf (i := 6) rfl rfl rfl c12<|zTf (i := 7) rfl rfl rfl c12<|zTf (i := 8) rfl rfl rfl c12<|zTf (i := 9) rfl rfl rfl c12<|zTf (i := 10) rfl rfl rfl c12<|zTk (i := 11) rfl (zPt rfl c12 rfl)<|zTk (i := 12) rfl (zMf rfl)<|zTk (i := 13) rfl (zz (j := 0) underlying47 sizeOf75 rfl rfl rfl (ra_at (by omega)))<|zTk (i := 14) rfl (zc underlying75 rfl sizeOf2 (by decide) rfl rfl)<|zTk (i := 15) rfl (zLi isAgg2 rfl)<|zTk (i := 16) rfl (zy rfl rfl)<|zTk (i := 17) rfl (zMb rfl)<|AAny.case (s := 177) rfl (fun c13 => ?_) (fun c13 => ?_)
              ·refine zTt (i := 18) rfl rfl rfl c13 (zMf rfl)<|zTt (i := 19) rfl rfl rfl c13 (zz (j := 1) underlying47 sizeOf75 rfl rfl rfl (ra_at (by omega)))<|zTt (i := 20) rfl rfl rfl c13 (zc underlying75 rfl sizeOf2 (by decide) rfl rfl)<|zTt (i := 21) rfl rfl rfl c13 (zLi isAgg2 rfl)<|zTt (i := 22) rfl rfl rfl c13 (zy rfl rfl)<|zTk (i := 23) rfl (zPt rfl c13 rfl)<|zOn (i := 24) rfl<|zd (rTruth _ _) rfl<|z6<|ym<|yv (i := 25) rfl (by kernel_rfl) (by kernel_rfl)<|ze sizeOf75 rfl rfl rfl rfl rfl rfl .head rfl<|z6<|yr (by kernel_rfl)<|zf<|yf rfl ⟨_, .head⟩ isAgg75 sizeOf75 rfl ?_
               rw [show decide ((ra rs 0).1 = 0) = true from c12, show decide ((ra rs 0).2 = 1) = true from c13]; try rfl
              ·refine zTf (i := 18) rfl rfl rfl c13<|zTf (i := 19) rfl rfl rfl c13<|zTf (i := 20) rfl rfl rfl c13<|zTf (i := 21) rfl rfl rfl c13<|zTf (i := 22) rfl rfl rfl c13<|zTk (i := 23) rfl (zPf rfl c13 rfl)<|zOn (i := 24) rfl<|zd (rTruth _ _) rfl<|z6<|ym<|yv (i := 25) rfl (by kernel_rfl) (by kernel_rfl)<|ze sizeOf75 rfl rfl rfl rfl rfl rfl .head rfl<|z6<|yr (by kernel_rfl)<|zf<|yf rfl ⟨_, .head⟩ isAgg75 sizeOf75 rfl ?_
               rw [show decide ((ra rs 0).1 = 0) = true from c12, show decide ((ra rs 0).2 = 1) = false from c13]; try rfl
             ·refine zTt (i := 6) rfl rfl rfl c12 (zMf rfl)<|zTt (i := 7) rfl rfl rfl c12 (zz (j := 1) underlying47 sizeOf75 rfl rfl rfl (ra_at (by omega)))<|zTt (i := 8) rfl rfl rfl c12 (zc underlying75 rfl sizeOf2 (by decide) rfl rfl)<|zTt (i := 9) rfl rfl rfl c12 (zLi isAgg2 rfl)<|zTt (i := 10) rfl rfl rfl c12 (zy rfl rfl)<|zTk (i := 11) rfl (zPf rfl c12 rfl)<|zTk (i := 12) rfl (zMf rfl)<|zTk (i := 13) rfl (zz (j := 0) underlying47 sizeOf75 rfl rfl rfl (ra_at (by omega)))<|zTk (i := 14) rfl (zc underlying75 rfl sizeOf2 (by decide) rfl rfl)<|zTk (i := 15) rfl (zLi isAgg2 rfl)<|zTk (i := 16) rfl (zy rfl rfl)<|zTk (i := 17) rfl (zMb rfl)<|AAny.case (s := 177) rfl (fun c13 => ?_) (fun c13 => ?_)
              ·refine zTt (i := 18) rfl rfl rfl c13 (zMf rfl)<|zTt (i := 19) rfl rfl rfl c13 (zz (j := 1) underlying47 sizeOf75 rfl rfl rfl (ra_at (by omega)))<|zTt (i := 20) rfl rfl rfl c13 (zc underlying75 rfl sizeOf2 (by decide) rfl rfl)<|zTt (i := 21) rfl rfl rfl c13 (zLi isAgg2 rfl)<|zTt (i := 22) rfl rfl rfl c13 (zy rfl rfl)<|zTk (i := 23) rfl (zPt rfl c13 rfl)<|zOn (i := 24) rfl<|zd (rTruth _ _) rfl<|z6<|ym<|yv (i := 25) rfl (by kernel_rfl) (by kernel_rfl)<|ze sizeOf75 rfl rfl rfl rfl rfl rfl .head rfl<|z6<|yr (by kernel_rfl)<|zf<|yf rfl ⟨_, .head⟩ isAgg75 sizeOf75 rfl ?_
               rw [show decide ((ra rs 0).1 = 0) = false from c12, show decide ((ra rs 0).2 = 1) = true from c13]; try rfl
              ·refine zTf (i := 18) rfl rfl rfl c13<|zTf (i := 19) rfl rfl rfl c13<|zTf (i := 20) rfl rfl rfl c13<|zTf (i := 21) rfl rfl rfl c13<|zTf (i := 22) rfl rfl rfl c13<|zTk (i := 23) rfl (zPf rfl c13 rfl)<|zOn (i := 24) rfl<|zd (rTruth _ _) rfl<|z6<|ym<|yv (i := 25) rfl (by kernel_rfl) (by kernel_rfl)<|ze sizeOf75 rfl rfl rfl rfl rfl rfl .head rfl<|z6<|yr (by kernel_rfl)<|zf<|yf rfl ⟨_, .head⟩ isAgg75 sizeOf75 rfl ?_
               rw [show decide ((ra rs 0).1 = 0) = false from c12, show decide ((ra rs 0).2 = 1) = false from c13]; try rfl
            ·rw [if_neg c11]
             refine za<|z7 rfl<|z2 (zy rfl rfl)<|z2 (zAb rfl)<|z6<|zn rfl (fun c15 => ?_) (fun c15 => ?_)
             ·have hl1 : rs.length = 1 := by rw [hl, c15]; rfl
              refine za<|zw (fun j => Nat.beq j 5) (by kernel_rfl) rfl (zu (.rest _))<|zTk (i := 0) rfl (zMf rfl)<|zTk (i := 1) rfl (zz (j := 0) underlying47 sizeOf75 rfl rfl rfl (ra_at (by omega)))<|zTk (i := 2) rfl (zj isAgg75 sizeOf75 rfl rfl)<|zOn (i := 3) rfl<|zd (rType_s (t := 2) (by decide)) rfl<|z6<|zOn (i := 4) rfl<|zd (rMeet_s _ _) rfl<|z6<|ym<|yv (i := 5) rfl (by kernel_rfl) (by kernel_rfl)<|ze sizeOf75 rfl rfl rfl rfl rfl rfl .head rfl<|z6<|yr (by kernel_rfl)<|zf<|yf rfl ⟨_, .head⟩ isAgg75 sizeOf75 rfl ?_
              rw [if_pos c15]; try rfl
             ·rw [if_neg c15]
              refine za<|z7 rfl<|z2 (zy rfl rfl)<|z2 (zAb rfl)<|z6<|zn rfl (fun c16 => ?_) (fun c16 => ?_)
              ·refine za<|z7 rfl<|z2 (y3 (cps := []) (rs := [.int .i64 0, .int .i64 0]) pl75 rfl rfl rfl)<|ze sizeOf75 rfl rfl rfl rfl rfl rfl .head rfl<|z6<|zf<|yf rfl ⟨_, .head⟩ isAgg75 sizeOf75 rfl ?_
               rw [if_pos c16]; try rfl
              ·rw [if_neg c16]
               refine za<|z7 rfl<|z2 (zy rfl rfl)<|z2 (zAb rfl)<|z6<|zn rfl (fun c25 => ?_) (fun c25 => ?_)
               ·have hl1 : rs.length = 2 := by rw [hl, c25]; rfl
                obtain ⟨hb, nb⟩ := hok.at (i := 1) (by omega)
                refine za<|zw (fun j => Nat.beq j 9) (by kernel_rfl) rfl (zu (.rest _))<|zTk (i := 0) rfl (zc underlying33 rfl sizeOf2 (by decide) rfl rfl)<|zTk (i := 1) rfl (zLi isAgg2 rfl)<|zTk (i := 2) rfl (zMf rfl)<|zTk (i := 3) rfl (zz (j := 0) underlying47 sizeOf75 rfl rfl rfl (ra_at (by omega)))<|zTk (i := 4) rfl (zj isAgg75 sizeOf75 rfl rfl)<|zTk (i := 5) rfl (zMf rfl)<|zTk (i := 6) rfl (zz (j := 1) underlying47 sizeOf75 rfl rfl rfl (ra_at (by omega)))<|zTk (i := 7) rfl (zj isAgg75 sizeOf75 rfl rfl)<|zOn (i := 8) rfl<|zd (rCut x.num hb) rfl<|z6<|ym<|yv (i := 9) rfl (by kernel_rfl) (by kernel_rfl)<|ze sizeOf75 rfl rfl rfl rfl rfl rfl .head rfl<|z6<|yr (by kernel_rfl)<|zf<|yf rfl ⟨_, .head⟩ isAgg75 sizeOf75 rfl ?_
                rw [if_pos c25]; try rfl
               ·rw [if_neg c25]
                refine za<|z7 rfl<|z2 (zy rfl rfl)<|z2 (zAb rfl)<|z6<|zn rfl (fun c26 => ?_) (fun c26 => ?_)
                ·have hl1 : rs.length = 2 := by rw [hl, c26]; rfl
                 obtain ⟨hb, nb⟩ := hok.at (i := 1) (by omega)
                 refine za<|zw (fun j => Nat.beq j 9) (by kernel_rfl) rfl (zu (.rest _))<|zTk (i := 0) rfl (zMf rfl)<|zTk (i := 1) rfl (zz (j := 0) underlying47 sizeOf75 rfl rfl rfl (ra_at (by omega)))<|zTk (i := 2) rfl (zj isAgg75 sizeOf75 rfl rfl)<|zTk (i := 3) rfl (y3 (cps := [(0, [_]), (1, [_])]) (rs := [_, _]) pl75 rfl rfl rfl)<|zTk (i := 5) rfl (zMf rfl)<|zTk (i := 6) rfl (zz (j := 1) underlying47 sizeOf75 rfl rfl rfl (ra_at (by omega)))<|zTk (i := 7) rfl (zj isAgg75 sizeOf75 rfl rfl)<|zOn (i := 4) rfl<|zd (rMeet_s (ra rs 0) (0, M64)) rfl<|z6<|zOn (i := 8) rfl<|zd (rCut 0 hb) rfl<|z6<|ym<|yv (i := 9) rfl (by kernel_rfl) (by kernel_rfl)<|ze sizeOf75 rfl rfl rfl rfl rfl rfl .head rfl<|z6<|yr (by kernel_rfl)<|zf<|yf rfl ⟨_, .head⟩ isAgg75 sizeOf75 rfl ?_
                 rw [if_pos c26]; try rfl
                ·refine zg<|za<|z7 rfl<|z2 (zj isAgg75 sizeOf75 rfl rfl)<|ze sizeOf75 rfl rfl rfl rfl rfl rfl .head rfl<|z6<|zf<|yf rfl ⟨_, .head⟩ isAgg75 sizeOf75 rfl ?_
                 rw [if_neg c26]; try rfl
end Go.Proofs.YtjnpcfpecilejaaGreatDoor
namespace Go.Proofs.YtjnpcfpecilejaaGreatDoor
open Go.Proofs.Tryz
theorem flat_len1 {α β : Type} {g : α → List β} : ∀ {l : List α} {i : Nat} {x : α}, l[i]? = some x → (g x).length ≤ (l.flatMap g).length
 | y :: l, 0, x, h => by simp at h; subst h; rw [List.flatMap_cons, qp]; omega
 | y :: l, i + 1, x, h => by
  have := flat_len1 (g := g) (l := l) (i := i) (x := x) (by simpa using h)
  rw [List.flatMap_cons, qp]; omega
theorem mkBlk_len {f : PFunc} {v : Int} (hl : (makings f v).length ≤ 1) {i : Nat} {b : PBlock} (h : f.blocks[i]? = some b) : (mkBlk v i b).length ≤ 1 := by
 have h2 : f.blocks.zipIdx[i]? = some (b, i) := by rw [List.getElem?_zipIdx, h]; simp
 exact Nat.le_trans (flat_len1 (g := fun b : PBlock × Nat => mkBlk v (b.2 : Int) b.1) h2) hl
theorem phi_one {f : PFunc} {v : Int} (hl : (makings f v).length ≤ 1) {i : Nat} {b : PBlock} (h : f.blocks[i]? = some b) {p : PPhi} (hp : p ∈ b.phis) (hd : p.dst = v) : b.phis.filter (fun q => decide (q.dst = v)) = [p] := by
 have h1 := mkBlk_len hl h
 unfold mkBlk at h1
 rw [qp, qq] at h1
 have h2 : p ∈ b.phis.filter (fun q => decide (q.dst = v)) := List.mem_filter.2 ⟨hp, by simpa using hd⟩
 cases hf : b.phis.filter (fun q => decide (q.dst = v)) with
 | nil => rw [hf] at h2; cases h2
 | cons x l =>
  rw [hf] at h1 h2
  have : l = [] := qv (by simp only [List.length_cons] at h1; omega)
  subst this
  simp at h2; rw [h2]
theorem phi_find {f : PFunc} {v : Int} (hl : (makings f v).length ≤ 1) {i : Nat} {b : PBlock} (h : f.blocks[i]? = some b) {p : PPhi} (hp : p ∈ b.phis) (hd : p.dst = v) : (b.phis.find? fun q => decide (q.dst = v)) = some p := by
 rw [← List.head?_filter, phi_one hl h hp hd]; rfl
def phiAcc (f : PFunc) (l : List Rng) (acc : Rng) (xs : List Int) : Rng := xs.foldl (fun acc v => rJoin acc (ofR f l v)) acc
theorem phiAcc_snoc (f : PFunc) (l : List Rng) (acc : Rng) (xs : List Int) (v : Int) : phiAcc f l acc (xs ++ [v]) = rJoin (phiAcc f l acc xs) (ofR f l v) := by unfold phiAcc; rw [List.foldl_append]; rfl
def phisAcc (f : PFunc) (l : List Rng) (v : Int) (ps : List PPhi) : Rng := (ps.filter fun q => decide (q.dst = v)).foldl (fun acc p => phiAcc f l acc p.args) noR
theorem phisAcc_snoc (f : PFunc) (l : List Rng) (v : Int) (ps : List PPhi) (p : PPhi) : phisAcc f l v (ps ++ [p]) = if p.dst = v then phiAcc f l (phisAcc f l v ps) p.args else phisAcc f l v ps := by
 unfold phisAcc
 rw [List.filter_append, List.foldl_append]
 by_cases h : p.dst = v
 ·rw [if_pos h]; simp [h]
 ·rw [if_neg h]; simp [h]
theorem rule_phi {f : PFunc} {chk : Int → Bool} {l : List Rng} {v : Int} (hl : (makings f v).length ≤ 1) {i : Nat} {b : PBlock} (h : f.blocks[i]? = some b) {p : PPhi} (hp : p ∈ b.phis) (hd : p.dst = v) (hm : makerT f v = ((i : Int), -1)) : ruleR f chk l v = phiAcc f l noR p.args := by
 unfold ruleR
 rw [hm]
 dsimp only
 rw [show (i : Int).toNat = i from rfl, h]
 dsimp only
 rw [if_neg (by decide), phi_find hl h hp hd]
 rfl
theorem phis_one {f : PFunc} {l : List Rng} {v : Int} (hl : (makings f v).length ≤ 1) {i : Nat} {b : PBlock} (h : f.blocks[i]? = some b) {p : PPhi} (hp : p ∈ b.phis) (hd : p.dst = v) : phisAcc f l v b.phis = phiAcc f l noR p.args := by
 unfold phisAcc; rw [phi_one hl h hp hd]; rfl
theorem rule_inst {f : PFunc} {chk : Int → Bool} {l : List Rng} {v : Int} {i k : Nat} {b : PBlock} (h : f.blocks[i]? = some b) {x : PInst} (hx : b.insts[k]? = some x) (hm : makerT f v = ((i : Int), (k : Int))) : ruleR f chk l v = instR f chk l x := by
 unfold ruleR
 rw [hm]
 dsimp only
 rw [show (i : Int).toNat = i from rfl, h]
 dsimp only
 rw [if_pos (by omega), show (k : Int).toNat = k from rfl, hx]
def firstR (f : PFunc) (v : Int) : Rng := if v < f.params.length then rType (tyV f v) else (0, 0)
def first0R (f : PFunc) (v : Int) : Rng := if (makerT f v).1 < 0 then firstR f v else noR
def firstL (f : PFunc) : List Rng := (List.range f.vars.length).map fun (v : Nat) => first0R f v
theorem firstL_len (f : PFunc) : (firstL f).length = f.vars.length := by simp [firstL]
theorem firstL_take {f : PFunc} {k : Nat} (h : k < f.vars.length) : (firstL f).take (k + 1) = (firstL f).take k ++ [first0R f k] := by
 rw [qk (by rw [firstL_len]; exact h)]
 congr 1
 unfold firstL; simp
def madePh (b : PBlock) : List (Int × Bool) := b.phis.map fun p => (p.dst, true)
def madeIn (xs : List PInst) : List (Int × Bool) := (xs.filter fun x => decide (0 ≤ x.dst)).map fun x => (x.dst, false)
def madeTo (f : PFunc) (k : Nat) : List (Int × Bool) := (f.blocks.take k).flatMap fun b => madePh b ++ madeIn b.insts
def madeL (f : PFunc) : List (Int × Bool) := f.blocks.flatMap fun b => madePh b ++ madeIn b.insts
theorem madeTo_all (f : PFunc) : madeTo f f.blocks.length = madeL f := by unfold madeTo madeL; rw [qo]
theorem madeTo_succ {f : PFunc} {k : Nat} (h : k < f.blocks.length) : madeTo f (k + 1) = madeTo f k ++ (madePh f.blocks[k] ++ madeIn f.blocks[k].insts) := by
 unfold madeTo; rw [qk h, List.flatMap_append]; simp
theorem madePh_succ {b : PBlock} {j : Nat} (h : j < b.phis.length) : (b.phis.take (j + 1)).map (fun p => ((p.dst, true) : Int × Bool)) = (b.phis.take j).map (fun p => ((p.dst, true) : Int × Bool)) ++ [(b.phis[j].dst, true)] := by
 rw [qk h, List.map_append]; rfl
theorem madeIn_succ {xs : List PInst} {j : Nat} (h : j < xs.length) : madeIn (xs.take (j + 1)) = madeIn (xs.take j) ++ if 0 ≤ xs[j].dst then [(xs[j].dst, false)] else [] := by
 unfold madeIn
 rw [qk h, List.filter_append, List.map_append]
 congr 1
 by_cases c : 0 ≤ xs[j].dst
 ·rw [if_pos c]; simp [c]
 ·rw [if_neg c]; simp [c]
theorem mem_madeL {f : PFunc} {v : Int} {p : Bool} : (v, p) ∈ madeL f ↔ ∃ b ∈ f.blocks, (p = true ∧ ∃ q ∈ b.phis, q.dst = v) ∨ (p = false ∧ 0 ≤ v ∧ ∃ x ∈ b.insts, x.dst = v) := by
 unfold madeL
 rw [List.mem_flatMap]
 constructor
 ·rintro ⟨b, hb, h⟩
  refine ⟨b, hb, ?_⟩
  rcases List.mem_append.1 h with h | h
  ·obtain ⟨q, hq, e⟩ := List.mem_map.1 h
   simp only [Prod.mk.injEq] at e
   exact .inl ⟨e.2.symm, q, hq, e.1⟩
  ·obtain ⟨x, hx, e⟩ := List.mem_map.1 h
   obtain ⟨h1, h2⟩ := List.mem_filter.1 hx
   simp only [Prod.mk.injEq] at e
   exact .inr ⟨e.2.symm, by rw [← e.1]; simpa using h2, x, h1, e.1⟩
 ·rintro ⟨b, hb, h⟩
  refine ⟨b, hb, ?_⟩
  rcases h with ⟨rfl, q, hq, rfl⟩ | ⟨rfl, h0, x, hx, rfl⟩
  ·exact List.mem_append_left _ (List.mem_map.2 ⟨q, hq, rfl⟩)
  ·exact List.mem_append_right _ (List.mem_map.2 ⟨x, List.mem_filter.2 ⟨hx, by simpa using h0⟩, rfl⟩)
end Go.Proofs.YtjnpcfpecilejaaGreatDoor
namespace Go.Proofs.YtjnpcfpecilejaaGreatDoor
open Go.Proofs.Tryz
open Go.Proofs Go.Lib Go.Shelf Go.RowKit
theorem ps47_1 : PlacesS Tryz.prog 47 75 1 2 [.int .i64 0, .int .i64 0] := ⟨_, underlying47, sizeOf75, zeroValue75, by decide, by decide, by kernel_rfl⟩
variable {E : World}
set_option maxRecDepth 20000
theorem ShapedP.ty {f : PFunc} (h : ShapedP f) {v : Nat} (hv : v < f.vars.length) : 0 ≤ tyV f v ∧ tyV f v ≤ 2 := by
 have h1 := h.2.2.1 v hv
 unfold tyV
 rw [show (v : Int).toNat = v from rfl, qj hv]
 exact ⟨h1.2.1, h1.2.2.1⟩
theorem tyV_at {f : PFunc} {v : Nat} (hv : v < f.vars.length) : f.vars[v].ty = tyV f v := by unfold tyV; rw [show (v : Int).toNat = v from rfl, qj hv]; rfl
theorem refFirst_spec (f : PFunc) (hS : ShapedP f) (hf : small f) (v : Nat) (hv : v < f.vars.length) : AFun Tryz.prog E 39 [.agg (encF f), .int .i64 v] (.agg (encZ (firstR f v))) := by
 have hp := hf.2.1
 have hr := rType_s (E := E) (hS.ty hv)
 rw [← tyV_at hv] at hr
 refine zp func39 rfl (by decide) rfl<|za<|z7 rfl<|y7 (cs := _) rfl rfl rfl<|zq (cs := [.int .i64 0, .int .i64 0]) zeroValue75 rfl rfl<|fun i4 => z6<|za<|za<|z7 rfl<|z2 (zMi rfl)<|z2 (zc underlying26 rfl sizeOf23 (by decide) rfl rfl)<|z2 (zLf isAgg23 rfl)<|z2 (y6 underlying23 rfl)<|z2 (yc rfl rfl)<|z6<|zn rfl (fun c => ?_) (fun c => ?_)
 ·refine za<|z7 rfl<|z2 (zc underlying26 rfl sizeOf22 (by decide) rfl rfl)<|z2 (zLf isAgg22 rfl)<|z2 (zMi rfl)<|z2 (zz (j := v) underlying22 sizeOf56 rfl rfl rfl (qj hv))<|z2 (zc underlying56 rfl sizeOf54 (by decide) rfl rfl)<|z2 (zLi isAgg54 rfl)<|zd (hr) rfl<|ze sizeOf75 rfl rfl rfl rfl rfl rfl .head rfl<|z6<|zf<|yf rfl ⟨_, .head⟩ isAgg75 sizeOf75 rfl ?_
  rw [firstR, if_pos c, tyV_at hv]; try rfl
 ·refine zg<|za<|z7 rfl<|z2 (y3 (cps := []) (rs := [.int .i64 0, .int .i64 0]) pl75 rfl rfl rfl)<|ze sizeOf75 rfl rfl rfl rfl rfl rfl .head rfl<|z6<|zf<|yf rfl ⟨_, .head⟩ isAgg75 sizeOf75 rfl ?_
  rw [firstR, if_neg c]; try rfl
theorem small.made {f : PFunc} (hf : small f) : ∀ {k : Nat}, k ≤ f.blocks.length → (madeTo f k).length ≤ k * 2000
 | 0, _ => by simp [madeTo]
 | k + 1, hk => by
  have h1 := small.made hf (k := k) (by omega)
  obtain ⟨hb0, hb1, hb2, hb3, hb4⟩ := hf.2.2.2.2 _ (qn (show k < f.blocks.length by omega))
  rw [madeTo_succ (by omega), qp, qp]
  unfold madePh madeIn
  rw [qq, qq]
  have := List.length_filter_le (fun x : PInst => decide (0 ≤ x.dst)) (f.blocks[k]'(by omega)).insts
  omega
theorem lv_get {l : List Rng} {a : Int} (h : a.toNat < l.length) : l[a.toNat]? = some (lv l a) := by unfold lv; rw [qj h]; rfl
theorem hasV_rng {f : PFunc} {v : Int} (h : hasV f v = true) : 0 ≤ v ∧ v < f.vars.length := by simpa [hasV] using h
theorem ty_get {f : PFunc} (hS : ShapedP f) {a : Int} (h : hasV f a = true) : ∃ x, f.vars[a.toNat]? = some x ∧ x.ty = tyV f a ∧ 0 ≤ x.ty ∧ x.ty ≤ 2 := by
 obtain ⟨h0, h1⟩ := hasV_rng h
 have hl : a.toNat < f.vars.length := by omega
 have h2 := hS.2.2.1 _ hl
 refine ⟨f.vars[a.toNat], qj hl, ?_, h2.2.1, h2.2.2.1⟩
 unfold tyV; rw [qj hl]; rfl
theorem args_take {f : PFunc} {l : List Rng} {x : PInst} {m : Nat} (h : m < x.args.length) : (argsR f l x).take (m + 1) = (argsR f l x).take m ++ [ofR f l x.args[m]] := by
 unfold argsR
 rw [qk (by rw [qq]; exact h), List.getElem_map]
theorem Left.d1 {x : Nat × AObj} {O : OL} : Left (x :: O) O := ⟨_, .drop (.refl _), rfl⟩
theorem Left.d2 {x y : Nat × AObj} {O : OL} : Left (x :: y :: O) O := ⟨_, .drop (.drop (.refl _)), rfl⟩
theorem ACall.same {P : Program} {E : World} {f : FuncId} {ars : List AV} {O : OL} {x : AV} (h : ACall P E f ars O fun y O' => y = x ∧ Left O' O) : ACall P E f ars O fun y O' => y = x ∧ O' = O :=
 (ACall.exact (γ := Unit) (x := fun _ => x) (M := fun _ => O) (p := fun _ => True) (h.mono fun _ _ h => ⟨(), h.1, h.2, trivial⟩)).mono fun _ _ ⟨_, h1, h2, _⟩ => ⟨h1, h2⟩
set_option maxHeartbeats 8000000 in
theorem refRule_spec (f : PFunc) (hE : EndsOk f) (hf : small f) (hS : ShapedP f) (l : List Rng) {Lv HL : AV × AObj} {ptr : Nat → AV} {i : Nat} (R : RdL Tryz.prog 47 75 Lv.1 ptr i HL.2 l) (hll : l.length = f.vars.length) (ho : ∀ u : Int, 0 ≤ u → ok64 (lv l u))
  (v : Nat) (hv : v < f.vars.length) (hm : 0 ≤ (makerT f v).1) (hone : (makings f v).length ≤ 1) :
  ACall Tryz.prog E 41 [.agg (encF f), froB (tabR f), Lv.1, .int .i64 v] [(i, HL.2)] fun r O => r = .agg (encZ (ruleR f (chkV f) l v)) ∧ O = [(i, HL.2)] := by
 refine ACall.same ?_
 obtain ⟨Lv, _⟩ := Lv
 obtain ⟨_, HL⟩ := HL
 dsimp only at R ⊢
 obtain ⟨bi, b, hget, hcase⟩ := maker_cases hm
 have hbi : bi < f.blocks.length := (List.getElem?_eq_some_iff.1 hget).1
 have hmem := qu hget
 obtain ⟨hb0, hb1, hb2, hb3, hb4⟩ := hf.2.2.2.2 b hmem
 obtain ⟨hPh, hIn, hTm⟩ := hS.2.2.2.2.2 b hmem
 have hMk := Maker_spec (E := E) f hf v
 refine zp func41 rfl (by decide) rfl<|za<|z7 rfl<|y7 (cs := _) rfl rfl rfl<|zq (cs := [.int .i64 0, .int .i64 0]) zeroValue75 rfl rfl<|fun i8 => z6 ?_
 rcases hcase with ⟨p0, hp0, hd0, hmk⟩ | ⟨k, x, hxk, hxd, hmk⟩
 ·have hrule := rule_phi (chk := chkV f) (l := l) hone hget hp0 hd0 hmk
  rw [hrule, ← phis_one hone hget hp0 hd0]
  rw [hmk] at hMk
  dsimp only at hMk
  refine za<|z7 rfl<|z2 (zj isAgg26 sizeOf26 rfl rfl)<|z2 (zMi rfl)<|zd (hMk) rfl<|z2 (y5 (v := .tup _) rfl)<|z2 (yj (v := .int _ _) rfl rfl)<|z2 (yj (v := .int _ _) rfl rfl)<|z2 (zAi rfl)<|z2 (zAi rfl)<|z6<|za<|za<|z7 rfl<|z2 (zMi rfl)<|z2 (yc rfl rfl)<|z6<|yy rfl rfl<|za<|z7 rfl<|zd (rNone) rfl<|zq (cs := [.int .i64 0, .int .i64 0]) zeroValue75 rfl rfl<|fun i11 => ze sizeOf75 rfl rfl rfl rfl rfl rfl .head rfl<|z6<|za<|za<|z7 rfl<|z2 (zc underlying26 rfl sizeOf24 (by decide) rfl rfl)<|z2 (zLf isAgg24 rfl)<|z2 (zMi rfl)<|z2 (zz (j := bi) underlying24 sizeOf66 rfl rfl rfl hget)<|z2 (zc underlying66 rfl sizeOf59 (by decide) rfl rfl)<|z2 (zLf isAgg59 rfl)<|z2 (y6 underlying59 rfl)<|z2 (zMi rfl)<|z6<|zm<|ya (γ := Nat) [2, 3, 4, 8, 11, 35, 36] (fun q => [(37, .int .i64 q)]) (fun q => [(i11, .cells 75 (encZ (phisAcc f l v (b.phis.take q)))), (i8, .cells 75 [.int .i64 0, .int .i64 0]), (i, HL)]) (fun q => q ≤ b.phis.length) (fun q => b.phis.length - q) 0 zR1 zLe (qm _) ?_
  rintro q hq
  refine za<|z7 rfl<|z2 (yc rfl rfl)<|z6<|za<|zn rfl (fun cq => ?_) (fun cq => ?_)
  ·have hq2 : q < b.phis.length := by simp at cq; omega
   obtain ⟨p, hp⟩ : ∃ p, b.phis[q] = p := ⟨_, rfl⟩
   have hpm : p ∈ b.phis := hp ▸ qn hq2
   obtain ⟨hpd, hpl, hpn, hpa, hpf⟩ := hPh p hpm
   have hpb := (hb3 p hpm).1
   have hsn := phisAcc_snoc f l v (b.phis.take q) p
   rw [← hp, ← qk hq2, hp] at hsn
   refine zg<|za<|zm<|za<|z7 rfl<|z2 (zz (j := q) underlying59 sizeOf95 rfl rfl rfl (by rw [qj hq2, hp]))<|z2 (zj isAgg95 sizeOf95 rfl rfl)<|zq (cs := [.int .i64 0, .raw (.slice none 0 0), .raw (.slice none 0 0)]) zeroValue95 rfl rfl<|fun i13 => ze sizeOf95 rfl rfl rfl rfl rfl rfl .head rfl<|zi (yh (t := 13) rfl .head)<|z6<|za<|za<|z7 rfl<|z2 (zc underlying95 rfl sizeOf3 (by decide) rfl rfl)<|z2 (zLi isAgg3 rfl)<|z2 (zMi rfl)<|z2 (yq rfl rfl)<|z6<|y4 rfl (fun cd => ?_) (fun cd => ?_)
   ·have hd : ¬ p.dst = (v : Int) := by simpa using cd
    rw [if_neg hd] at hsn
    refine y8<|z7 rfl<|z2 (yd rfl rfl (by unfold I64; omega))<|z2 (zMi rfl)<|z6 ?_
    exact ⟨q + 1, zR7, zR1, ⟨_, (.refl _), by rw [hsn]⟩, hq2, by omega⟩
   ·have hd : p.dst = (v : Int) := by simpa using cd
    rw [if_pos hd] at hsn
    obtain ⟨A, hA⟩ : ∃ A, phisAcc f l v (b.phis.take q) = A := ⟨_, rfl⟩
    rw [hA] at hsn ⊢
    refine zg<|za<|z7 rfl<|z2 (zc underlying95 rfl sizeOf23 (by decide) rfl rfl)<|z2 (zLf isAgg23 rfl)<|z2 (y6 underlying23 rfl)<|z2 (zMi rfl)<|z6<|zm<|ya (γ := Nat) [2, 3, 4, 8, 11, 35, 36, 37, 46, 47] (fun m => [(48, .int .i64 m)]) (fun m => [(i11, .cells 75 (encZ (phiAcc f l A (p.args.take m)))), (i8, .cells 75 [.int .i64 0, .int .i64 0]), (i, HL)]) (fun m => m ≤ p.args.length) (fun m => p.args.length - m) 0 zR1 zLe (qm _) ?_
    rintro m hm
    refine za<|z7 rfl<|z2 (yc rfl rfl)<|z6<|za<|zn rfl (fun cm => ?_) (fun cm => ?_)
    ·have hm2 : m < p.args.length := by simp at cm; omega
     obtain ⟨a, ha⟩ : ∃ a, p.args[m] = a := ⟨_, rfl⟩
     have hav := List.all_eq_true.1 hpa a (ha ▸ qn hm2)
     obtain ⟨ha0, ha1⟩ := hasV_rng hav
     obtain ⟨y, hy, hyt, hy0, hy2⟩ := ty_get hS hav
     refine zg<|za<|zm<|za<|z7 rfl<|z2 (zz (j := m) underlying23 sizeOf3 rfl rfl rfl (by rw [qj hm2, ha]))<|z2 (zLi isAgg3 rfl)<|z2 (zAi rfl)<|z6<|zw (fun j => Nat.beq j 14) (by kernel_rfl) rfl (zu (.r (.l (.r (.rest _)))))<|zTk (i := 0) rfl (yw isAgg75 sizeOf75 rfl ⟨_, .head⟩ rfl)<|zTk (i := 1) rfl (y5 (v := _) rfl)<|zTk (i := 2) rfl (zMi rfl)<|zTk (i := 3) rfl (R.idx (j := a.toNat) rfl rfl (by omega) (by omega) ⟨_, (.tail .head)⟩)<|zTk (i := 4) rfl (R.load (j := a.toNat) (r := lv l a) rfl (lv_get (by omega)) ⟨_, (.tail .head)⟩)<|zTk (i := 5) rfl (zc underlying26 rfl sizeOf22 (by decide) rfl rfl)<|zTk (i := 6) rfl (zLf isAgg22 rfl)<|zTk (i := 7) rfl (zMi rfl)<|zTk (i := 8) rfl (zz (j := a.toNat) underlying22 sizeOf56 rfl rfl (by omega) hy)<|zTk (i := 9) rfl (zc underlying56 rfl sizeOf54 (by decide) rfl rfl)<|zTk (i := 10) rfl (zLi isAgg54 rfl)<|zOn (i := 11) rfl<|zd (rType_s ⟨hy0, hy2⟩) rfl<|z6<|zOn (i := 12) rfl<|zd (rMeet_s _ _) rfl<|z6<|zOn (i := 13) rfl<|zd (rJoin_s _ _) rfl<|z6<|ym<|yv (i := 14) rfl (by kernel_rfl) (by kernel_rfl)<|ze sizeOf75 rfl rfl rfl rfl rfl rfl .head rfl<|zi (zh (zl (.tail .head)))<|zi (zh (zl (.tail (.tail .head))))<|zi (zh (zl (.tail (.tail .head))))<|z6<|yr (by kernel_rfl)<|z7 rfl<|z2 (yd rfl rfl (by unfold I64; omega))<|z2 (zMi rfl) ?_
     refine z6 ?_
     exact ⟨m + 1, zR10, zR1, ⟨_, (.refl _), by rw [qk hm2, ha, phiAcc_snoc]; unfold ofR; rw [← hyt]; rfl⟩, hm2, by omega⟩
    ·have hmn : m = p.args.length := by simp at cm; omega
     refine y8<|z7 rfl<|z2 (yd rfl rfl (by unfold I64; omega))<|z2 (zMi rfl)<|z6 ?_
     exact ⟨q + 1, zR7, zR1, ⟨_, (.refl _), by rw [hsn, hmn, qo]⟩, hq2, by omega⟩
  ·have hqn : q = b.phis.length := by simp at cq; omega
   rw [hqn, qo]
   refine y8<|za<|z7 rfl<|z2 (yw isAgg75 sizeOf75 rfl ⟨_, .head⟩ rfl)<|ze sizeOf75 rfl rfl rfl rfl rfl rfl (.tail .head) rfl<|z6<|zf<|yf rfl ⟨_, (.tail .head)⟩ isAgg75 sizeOf75 rfl ?_
   exact ⟨rfl, .d2⟩
 ·have hI := instP_F (hIn x (qu hxk))
  have hxl := hb4 x (qu hxk)
  have hchk := chkV_at hget hxk hmk
  have hrule : ruleR f (chkV f) l v = if (argsR f l x).any rEmp = true then noR else instQ x.op x.num (argsR f l x) (chkX f x bi k) := by rw [rule_inst hget hxk hmk, instR, hxd, hchk]
  rw [hrule]
  rw [hmk] at hMk
  dsimp only at hMk
  have hal : (argsR f l x).length = x.args.length := by unfold argsR; rw [qq]
  refine za<|z7 rfl<|z2 (zj isAgg26 sizeOf26 rfl rfl)<|z2 (zMi rfl)<|zd (hMk) rfl<|z2 (y5 (v := .tup _) rfl)<|z2 (yj (v := .int _ _) rfl rfl)<|z2 (yj (v := .int _ _) rfl rfl)<|z2 (zAi rfl)<|z2 (zAi rfl)<|z6<|za<|za<|z7 rfl<|z2 (zMi rfl)<|z2 (yc rfl rfl)<|z6<|yu rfl (qx (by omega))<|zg<|za<|z7 rfl<|z2 (zc underlying26 rfl sizeOf24 (by decide) rfl rfl)<|z2 (zLf isAgg24 rfl)<|z2 (zMi rfl)<|z2 (zz (j := bi) underlying24 sizeOf66 rfl rfl rfl hget)<|z2 (zc underlying66 rfl sizeOf60 (by decide) rfl rfl)<|z2 (zLf isAgg60 rfl)<|z2 (zMi rfl)<|z2 (zz (j := k) underlying60 sizeOf33 rfl rfl rfl hxk)<|z2 (zj isAgg33 sizeOf33 rfl rfl)<|zq (cs := [.int .i64 0, .int .i64 0, .raw (.slice none 0 0), .int .i64 0]) zeroValue33 rfl rfl<|fun i16 => ze sizeOf33 rfl rfl rfl rfl rfl rfl .head rfl<|zi (yh (t := 16) rfl .head)<|z6<|za<|z7 rfl<|z2 (y1 (v := .raw _) rfl)<|z6<|za<|za ?_
  refine z7 rfl<|z2 (zc underlying33 rfl sizeOf23 (by decide) rfl rfl)<|z2 (zLf isAgg23 rfl)<|z2 (y6 underlying23 rfl)<|z2 (zMi rfl)<|z6<|adopt_wp (t := 17) (k := 2) (T := 75) rfl<|fun i17 => zm<|ya (γ := Nat × Nat) [1, 2, 4, 8, 9, 10, 16, 79, 80] (fun g => [(81, .int .i64 g.1), (17, .own g.2 g.1)]) (fun g => [(g.2, .grow 2 75 (lC ((argsR f l x).take g.1))), (i8, .cells 75 [.int .i64 0, .int .i64 0]), (i, HL)]) (fun g => g.1 ≤ x.args.length ∧ ((argsR f l x).take g.1).any rEmp = false) (fun g => x.args.length - g.1) (0, i17) zR2 zLe (⟨qm _, rfl⟩) ?_
  rintro ⟨m, iq⟩ ⟨hm, hne⟩
  try dsimp only at *
  refine za<|z7 rfl<|z2 (yc rfl rfl)<|z6<|za<|zn rfl (fun cm => ?_) (fun cm => ?_)
  ·have hm2 : m < x.args.length := by simp at cm; omega
   obtain ⟨a, ha⟩ : ∃ a, x.args[m] = a := ⟨_, rfl⟩
   have hav := hI.args a (ha ▸ qn hm2)
   obtain ⟨ha0, ha1⟩ := hasV_rng hav
   obtain ⟨y, hy, hyt, hy0, hy2⟩ := ty_get hS hav
   have hof : ofR f l a = rMeet (lv l a) (rType y.ty) := by unfold ofR; rw [hyt]
   have htk := args_take (f := f) (l := l) hm2
   rw [ha, hof] at htk
   have hta : (argsR f l x)[m]? = some (rMeet (lv l a) (rType y.ty)) := by unfold argsR; rw [qr, qj hm2, ha]; simp [hof]
   refine zg<|za<|zm<|za<|z7 rfl<|z2 (zz (j := m) underlying23 sizeOf3 rfl rfl rfl (by rw [qj hm2, ha]))<|z2 (zLi isAgg3 rfl)<|z2 (zAi rfl)<|z6<|za<|yi (γ := Nat) [1, 2, 4, 8, 9, 10, 16, 17, 79, 80, 81] (fun z => [(20, .po z 0)]) (fun z => [(i, HL), (z, .cells 75 (encZ (rMeet (lv l a) (rType y.ty)))), (iq, .grow 2 75 (lC ((argsR f l x).take m))), (i8, .cells 75 [.int .i64 0, .int .i64 0])]) (fun z => True) ?_ (fun _ _ h => h) ?_
   ·refine zw (fun j => false) (by kernel_rfl) rfl (zu (.l (.l (.r (.rest _)))))<|zTk (i := 0) rfl (y5 (v := _) rfl)<|zTk (i := 1) rfl (zMi rfl)<|zTk (i := 2) rfl (R.idx (j := a.toNat) rfl rfl (by omega) (by omega) ⟨_, .head⟩)<|zTk (i := 3) rfl (R.load (j := a.toNat) (r := lv l a) rfl (lv_get (by omega)) ⟨_, .head⟩)<|zTk (i := 4) rfl (zc underlying26 rfl sizeOf22 (by decide) rfl rfl)<|zTk (i := 5) rfl (zLf isAgg22 rfl)<|zTk (i := 6) rfl (zMi rfl)<|zTk (i := 7) rfl (zz (j := a.toNat) underlying22 sizeOf56 rfl rfl (by omega) hy)<|zTk (i := 8) rfl (zc underlying56 rfl sizeOf54 (by decide) rfl rfl)<|zTk (i := 9) rfl (zLi isAgg54 rfl)<|yp (i := 10) (j := 12) rfl rfl (by kernel_rfl) ?_ ?_
    ·refine zd (rType_s ⟨hy0, hy2⟩) rfl<|z6<|yp (i := 11) (j := 12) rfl rfl (by kernel_rfl) ?_ ?_
     ·refine zd (rMeet_s _ _) rfl<|z6<|zOn (i := 12) rfl<|zq (cs := [.int .i64 0, .int .i64 0]) zeroValue75 rfl rfl<|fun i20 => z6<|zOn (i := 13) rfl<|ze sizeOf75 rfl rfl rfl rfl rfl rfl .head rfl<|z6<|zDn ?_
      exact ⟨i20, zR11, zR1, zLe, trivial⟩
     ·refine zq (cs := [.int .i64 0, .int .i64 0]) zeroValue75 rfl rfl<|fun i20 => z6<|zOn (i := 11) rfl<|zd (rMeet_s _ _) rfl<|z6<|zOn (i := 13) rfl<|ze sizeOf75 rfl rfl rfl rfl rfl rfl .head rfl<|z6<|zDn ?_
      exact ⟨i20, zR11, zR1, zLe, trivial⟩
    ·refine zq (cs := [.int .i64 0, .int .i64 0]) zeroValue75 rfl rfl<|fun i20 => z6<|zOn (i := 10) rfl<|zd (rType_s ⟨hy0, hy2⟩) rfl<|z6<|zOn (i := 11) rfl<|zd (rMeet_s _ _) rfl<|z6<|zOn (i := 13) rfl<|ze sizeOf75 rfl rfl rfl rfl rfl rfl .head rfl<|z6<|zDn ?_
     exact ⟨i20, zR11, zR1, zLe, trivial⟩
   ·rintro z _
    refine yl (yh (t := 20) rfl (.tail .head))<|yl (zh (zl (.tail (.tail .head))))<|yl (zh (zl (.tail (.tail .head))))<|za<|za<|z7 rfl<|z2 (zc underlying75 rfl sizeOf2 (by decide) rfl rfl)<|z2 (zLi isAgg2 rfl)<|z2 (zc underlying75 rfl sizeOf2 (by decide) rfl rfl)<|z2 (zLi isAgg2 rfl)<|z2 (yx rfl rfl)<|z6<|zn rfl (fun ce => ?_) (fun ce => ?_)
    ·refine za<|z7 rfl<|zd (rNone) rfl<|ze sizeOf75 rfl rfl rfl rfl rfl rfl (.tail .head) rfl<|z6<|zf<|yf rfl ⟨_, (.tail .head)⟩ isAgg75 sizeOf75 rfl ?_
     exact ⟨by rw [if_pos (List.any_eq_true.2 ⟨_, qu hta, by unfold rEmp; exact qw ce⟩)]; rfl, .d2⟩
    ·refine zg<|z7 rfl<|z2 (y5 (v := .own _ _) rfl)<|z2 (zj isAgg75 sizeOf75 rfl rfl)<|y9 (rows := [[_, _]]) ps47_1 rfl rfl rfl rfl rfl<|yz (k := 2) underlying47 Tryz.type75 rfl rfl rfl rfl rfl (fun _ => .head) (by rw [lC_len, List.length_take, hal]; omega) (by decide) rfl (by show (_ + 1) * 16 ≤ _; omega) (by show _ + 1 ≤ _; omega)<|fun i106 => z2 (y1 (v := .own _ _) rfl)<|z6<|z7 rfl<|z2 (yd rfl rfl (by unfold I64; omega))<|z2 (zMi rfl)<|z6 ?_
     exact ⟨(m + 1, i106), zR9, zR2, ⟨_, (.refl _), by rw [htk, ← lC_push]; rfl⟩, ⟨hm2, by rw [htk, List.any_append, hne]; simp [rEmp]; omega⟩, by dsimp only; omega⟩
  ·have hmn : m = x.args.length := by simp at cm; omega
   subst hmn
   rw [← hal, qo] at hne
   rw [← hal, qo]
   have hokr : okRs (argsR f l x) := fun r hr => by
    obtain ⟨a, ha, rfl⟩ := List.mem_map.1 hr
    have hav := hasV_rng (hI.args a ha)
    have hnn := List.any_eq_false.1 hne _ hr
    exact ⟨ofR_ok ho hav.1, by simpa [rEmp] using hnn⟩
   refine y8<|yl (GStep.knowR (t := 17) rfl .head rfl)<|za<|zw (fun j => Nat.beq j 9) (by kernel_rfl) rfl (zu (.l (.r (.rest _))))<|zTk (i := 0) rfl (zj isAgg33 sizeOf33 rfl rfl)<|zTk (i := 1) rfl (zMf rfl)<|zTk (i := 2) rfl (zj isAgg26 sizeOf26 rfl rfl)<|zTk (i := 3) rfl (zMf rfl)<|zTk (i := 4) rfl (zj isAgg33 sizeOf33 rfl rfl)<|zTk (i := 5) rfl (zMi rfl)<|zTk (i := 6) rfl (zMi rfl)<|zOn (i := 7) rfl<|zd (refChecked_spec f hf x hxl bi k hbi) rfl<|z6<|zOn (i := 8) rfl<|zd (refInst22_spec x (argsR f l x) (chkX f x bi k) (by rw [hal]; exact hI.len) hokr hI.op) rfl<|z6<|ym<|yv (i := 9) rfl (by kernel_rfl) (by kernel_rfl)<|ze sizeOf75 rfl rfl rfl rfl rfl rfl (.tail .head) rfl<|zi (zh (zl .head))<|zi (zh (zl (.tail .head)))<|z6<|yr (by kernel_rfl)<|zf<|yf rfl ⟨_, .head⟩ isAgg75 sizeOf75 rfl ?_
   exact ⟨by rw [if_neg (by rw [hne]; decide)]; rfl, .d1⟩
end Go.Proofs.YtjnpcfpecilejaaGreatDoor
