/- The places of the checks of sums; which sums are checked, told one after the other. Plain law. No conditions. -/
import Derived.Test.YtjnpcfpecilejaaGreatDoorZd
import Derived.Test.YtjnpcfpecilejaaGreatDoorZn
import Derived.Test.YtjnpcfpecilejaaGreatDoorZf
import Derived.Test.YtjnpcfpecilejaaGreatDoorZl
set_option linter.unusedVariables false
set_option linter.unusedSimpArgs false
set_option linter.unusedSectionVars false
namespace Go.Proofs.YtjnpcfpecilejaaGreatDoor
open Go.Proofs.Tryz
open Go.Proofs Go.Lib Go.Shelf Go.RowKit
theorem ps82_1 : PlacesS Tryz.prog 82 111 1 1 [.raw (.slice none 0 0)] := ⟨_, underlying82, sizeOf111, zeroValue111, by decide, by decide, by kernel_rfl⟩
variable {E : World}
set_option maxRecDepth 20000
def outC (rows : List (List Bool)) : List AV := (rows.map fun r => [AV.fro 1 (r.map encB)]).flatten
theorem outC_push (rows : List (List Bool)) (r : List Bool) : outC rows ++ [AV.fro 1 (r.map encB)] = outC (rows ++ [r]) := by unfold outC; simp
theorem outC_len (rows : List (List Bool)) : (outC rows).length = rows.length := by unfold outC; induction rows with
 | nil => rfl
 | cons r rows ih => simp only [List.map_cons, List.flatten_cons, ql, ih, List.length_cons, List.length_nil]; omega
def froB (rows : List (List Bool)) : AV := .fro 1 (rows.map fun r => [AV.fro 1 (r.map encB)])
set_option maxHeartbeats 4000000 in
theorem refTable_spec (f : PFunc) (hE : EndsOk f) (hn : f.blocks.length ≤ 1000) : AFun Tryz.prog E 42 [.agg (encF f)] (froB (tabR f)) := by
 have hG := hE.grph
 refine zp func42 rfl (by decide) rfl<|zb<|z8 rfl<|yc (cs := _) rfl rfl rfl<|z2 (zw (v := .raw _) rfl)<|z6<|zb<|z8 rfl<|z2 (zn isAgg26 sizeOf26 rfl rfl)<|zg (reached_spec f hE hn (-1)) rfl<|z2 (zAf rfl)<|z6<|zb<|z8 rfl<|z2 (zw (v := .raw _) rfl)<|z6<|zb<|zb<|z8 rfl<|z2 (zc underlying26 rfl sizeOf24 (by decide) rfl rfl)<|z2 (zLf isAgg24 rfl)<|z2 (y5 underlying24 rfl)<|z2 (zMi rfl)<|z6<|adopt_wp (t := 4) (k := 1) (T := 111) rfl<|fun i4 => zi<|ya (γ := Nat × Nat) [1, 3, 13] (fun g => [(14, .int .i64 g.1), (4, .own g.2 g.1)]) (fun g => [(g.2, .grow 1 111 (outC ((tabR f).take g.1)))]) (fun g => g.1 ≤ f.blocks.length) (fun g => f.blocks.length - g.1) (0, i4) zR2 zLe (qi _) ?_
 rintro ⟨k, io⟩ hk
 try dsimp only at *
 refine zb<|z8 rfl<|z2 (ye rfl rfl)<|z6<|zb<|zr rfl (fun ck => ?_) (fun ck => ?_)
 ·have hk2 : k < f.blocks.length := by simp at ck; omega
  have hgk := reach_gb (EndsOf f) hk2 (-1)
  refine ze<|zb<|zi<|zb<|z8 rfl<|z2 (zMi rfl)<|z2 (zAi rfl)<|z6<|zb<|z8 rfl<|z2 (zc underlying26 rfl sizeOf24 (by decide) rfl rfl)<|z2 (zLf isAgg24 rfl)<|z2 (y5 underlying24 rfl)<|AOps.makeB (m := f.blocks.length) underlying111 Tryz.type4 rfl rfl rfl rfl rfl (by simp) (by simp) (by show (1 : Int) * _ ≤ _; omega) (by omega)<|fun i20 => z2 (zw (v := .own _ _) rfl)<|z6<|zb<|zb<|z8 rfl<|z2 (zMf rfl)<|z2 (zMi rfl)<|z2 (y6 (j := k) underlying111 sizeOf4 rfl rfl rfl hgk)<|z2 (q6 (c := .bool _) isAgg4 rfl)<|z6<|yk (γ := Nat) [1, 3, 4, 13, 14] (fun q => [(6, .own q f.blocks.length)]) (fun q => [(q, .grow 1 4 (cB (rowR f k))), (io, .grow 1 111 (outC ((tabR f).take k)))]) (fun q => True) ?_ (fun _ _ h => h) ?_
  ·refine zy rfl (fun cr => ?_) (fun cr => ?_)
   ·have hra : gb (reachT (EndsOf f) f.blocks.length (-1)) (k : Int) = true := cr
    refine zb<|z8 rfl<|z2 (zn isAgg26 sizeOf26 rfl rfl)<|z2 (zMi rfl)<|zg (reached_spec f hE hn (k : Int)) rfl<|z2 (zAf rfl)<|z6<|zb<|z8 rfl<|z2 (zq (v := .own _ _) rfl)<|z2 (Gv.lenO underlying111 rfl)<|z2 (zMi rfl)<|z6<|zi<|ya (γ := Nat) [1, 3, 4, 5, 6, 7, 13, 14, 29] (fun j => [(30, .int .i64 j)]) (fun j => [(i20, .grow 1 4 (cB (rowTo f k j))), (io, .grow 1 111 (outC ((tabR f).take k)))]) (fun j => j ≤ f.blocks.length) (fun j => f.blocks.length - j) 0 zR1 ⟨_, (.refl _), by rw [← rowTo_zero]⟩ (qi _) ?_
    rintro j hj
    refine zb<|z8 rfl<|z2 (ye rfl rfl)<|z6<|zb<|zr rfl (fun cj => ?_) (fun cj => ?_)
    ·have hj2 : j < f.blocks.length := by simp at cj; omega
     have hgj := reach_gb (EndsOf f) hj2 (-1)
     have hgl := reach_gb (EndsOf f) hj2 (k : Int)
     have hcell := dom_cell hG hk2 hj2 hra
     refine ze<|zb<|zi<|zb<|z8 rfl<|z2 (zMi rfl)<|z2 (zAi rfl)<|z6<|z8 rfl<|z2 (zq (v := .own _ _) rfl)<|z2 (zMi rfl)<|z2 (zMf rfl)<|z2 (zMi rfl)<|z2 (y6 (j := j) underlying111 sizeOf4 rfl rfl rfl hgj)<|z2 (q6 (c := .bool _) isAgg4 rfl)<|z2 (zMb rfl)<|zm (s := 39) rfl (fun c1 => ?_) (fun c1 => ?_)
     ·have d1 : gb (reachT (EndsOf f) f.blocks.length (-1)) (j : Int) = true := c1
      refine za rfl rfl c1<|z2 (zMi rfl)<|za rfl rfl c1<|z2 (zMi rfl)<|za rfl rfl c1<|z2 (y3 rfl rfl)<|za rfl rfl c1<|z2 (zMb rfl)<|zm (s := 43) rfl (fun c2 => ?_) (fun c2 => ?_)
      ·refine z7 rfl rfl c2<|z7 rfl rfl c2<|z7 rfl rfl c2<|z7 rfl rfl c2<|z7 rfl rfl c2<|za rfl rfl c1<|z2 (zPt rfl c2 rfl)<|z2 (zPt rfl c1 rfl)<|z2 (yw (j := j) underlying111 sizeOf4 rfl rfl rfl ⟨_, .head⟩ (by rw [cB_len, rowTo_len]) hj2)<|AOps.storeB (j := j) sizeOf4 rfl rfl .head (by rw [rowTo_len]; exact hj2)<|z6<|z8 rfl<|z2 (yb rfl rfl (by unfold I64; omega))<|z2 (zMi rfl)<|z6 ?_
       exact ⟨j + 1, zR9, zR1, ⟨_, (.refl _), by rw [← rowTo_succ, ← hcell, d1, show decide ((k : Int) = (j : Int)) = true from c2]; rfl⟩, hj2, by omega⟩
      ·refine za rfl rfl c2<|z2 (zMf rfl)<|za rfl rfl c2<|z2 (zMi rfl)<|za rfl rfl c2<|z2 (y6 (j := j) underlying111 sizeOf4 rfl rfl rfl hgl)<|za rfl rfl c2<|z2 (q6 (c := .bool _) isAgg4 rfl)<|za rfl rfl c2<|z2 (yg rfl)<|za rfl rfl c1<|z2 (zPf rfl c2 rfl)<|z2 (zPt rfl c1 rfl)<|z2 (yw (j := j) underlying111 sizeOf4 rfl rfl rfl ⟨_, .head⟩ (by rw [cB_len, rowTo_len]) hj2)<|AOps.storeB (j := j) sizeOf4 rfl rfl .head (by rw [rowTo_len]; exact hj2)<|z6<|z8 rfl<|z2 (yb rfl rfl (by unfold I64; omega))<|z2 (zMi rfl)<|z6 ?_
       exact ⟨j + 1, zR9, zR1, ⟨_, (.refl _), by rw [← rowTo_succ, ← hcell, d1, show decide ((k : Int) = (j : Int)) = false from c2]; rfl⟩, hj2, by omega⟩
     ·have d1 : gb (reachT (EndsOf f) f.blocks.length (-1)) (j : Int) = false := c1
      refine z7 rfl rfl c1<|z7 rfl rfl c1<|z7 rfl rfl c1<|z7 rfl rfl c1<|zd rfl rfl<|zd rfl rfl<|zd rfl rfl<|zd rfl rfl<|zd rfl rfl<|z7 rfl rfl c1<|z2 (zPf rfl c1 rfl)<|z2 (yw (j := j) underlying111 sizeOf4 rfl rfl rfl ⟨_, .head⟩ (by rw [cB_len, rowTo_len]) hj2)<|AOps.storeB (j := j) sizeOf4 rfl rfl .head (by rw [rowTo_len]; exact hj2)<|z6<|z8 rfl<|z2 (yb rfl rfl (by unfold I64; omega))<|z2 (zMi rfl)<|z6 ?_
      exact ⟨j + 1, zR9, zR1, ⟨_, (.refl _), by rw [← rowTo_succ, ← hcell, d1]; rfl⟩, hj2, by omega⟩
    ·have hjn : j = f.blocks.length := by simp at cj; omega
     refine y8 ?_
     exact ⟨i20, zR5, zR1, ⟨_, (.refl _), by rw [hjn, rowTo_all]⟩, trivial⟩
   ·have hra : gb (reachT (EndsOf f) f.blocks.length (-1)) (k : Int) = false := cr
    refine ze ?_
    exact ⟨i20, zR5, zR1, ⟨_, (.refl _), by rw [← row_none hG hk2 hra, ← rowTo_zero]⟩, trivial⟩
  ·rintro q _
   refine yp (GStep.knowB (t := 6) rfl .head (rowR_len _ _))<|z8 rfl<|z2 (zq (v := .own _ _) rfl)<|z2 (zMf rfl)<|zx (rows := [[_]]) ps82_1 rfl rfl rfl rfl rfl<|yn (k := 1) underlying82 Tryz.type111 rfl rfl rfl rfl rfl (fun _ => .head) (by rw [outC_len, List.length_take, tabR_len]; omega) (by decide) rfl (by show (_ + 1) * 24 ≤ _; omega) (by show _ + 1 ≤ _; omega)<|fun i56 => z2 (zw (v := .own _ _) rfl)<|z6<|z8 rfl<|z2 (yb rfl rfl (by unfold I64; omega))<|z2 (zMi rfl)<|z6 ?_
   exact ⟨(k + 1, i56), zR3, zR2, ⟨_, (.refl _), by rw [tabR_take hk2, ← outC_push]; rfl⟩, hk2, by dsimp only; omega⟩
 ·have hkn : k = f.blocks.length := by simp at ck; omega
  subst hkn
  rw [show f.blocks.length = (tabR f).length from (tabR_len f).symm, qk, tabR_len]
  refine y8<|zb<|z8 rfl<|z2 (zq (v := .own _ _) rfl)<|z2 (zw (v := .own _ _) rfl)<|z6<|zh ?_
  repeat (first | refine aseqQ_ret ?_ | refine ablockQ_ret ?_)
  refine GStep.fin (GStep.know (t := 2) (rows := (tabR f).map fun r => [AV.fro 1 (r.map encB)]) rfl .head (by (intro r hr; obtain ⟨x, _, rfl⟩ := List.mem_map.1 hr; rfl)) (by decide) (by (rw [qm]; exact tabR_len f)))<|zk (x := .fro _ _) rfl ?_
  rfl
theorem refIs_spec (x : PInst) (op : Int) (args : List Int) (hx : x.args.length ≤ 100000) (ha : args.length ≤ 100000) : AFun Tryz.prog E 19 [.agg (encInst x), .int .i64 op, .fro 1 (args.map encI)] (.bool (decide (x.op = op) && decide (x.args = args))) := by
 refine zp func19 rfl (by decide) rfl<|zb<|z8 rfl<|yc (cs := _) rfl rfl rfl<|z2 (zAb rfl)<|z6<|zb<|zb<|yk (γ := Bool) [2, 3] (fun u => [(19, .bool u)]) (fun u => []) (fun u => u = !(decide (x.op = op) && decide (x.args.length = args.length))) ?_ (fun _ _ h => h) ?_
 ·refine z8 rfl<|z2 (zc underlying33 rfl sizeOf31 (by decide) rfl rfl)<|z2 (zLi isAgg31 rfl)<|z2 (zMi rfl)<|z2 (yl rfl rfl)<|z2 (zMb rfl)<|zm (s := 12) rfl (fun c1 => ?_) (fun c1 => ?_)
  ·refine z7 rfl rfl c1<|z7 rfl rfl c1<|z7 rfl rfl c1<|z7 rfl rfl c1<|z7 rfl rfl c1<|z7 rfl rfl c1<|z2 (zPt rfl c1 rfl)<|z6 ?_
   exact ⟨_, zR2, zR1, zLe, by simp_all <;> omega⟩
  ·refine za rfl rfl c1<|z2 (zc underlying33 rfl sizeOf23 (by decide) rfl rfl)<|za rfl rfl c1<|z2 (zLf isAgg23 rfl)<|za rfl rfl c1<|z2 (y5 underlying23 rfl)<|za rfl rfl c1<|z2 (zMf rfl)<|za rfl rfl c1<|z2 (y5 underlying23 rfl)<|za rfl rfl c1<|z2 (yl rfl rfl)<|z2 (zPf rfl c1 rfl)<|z6 ?_
   exact ⟨_, zR2, zR1, zLe, by simp_all <;> omega⟩
 ·rintro u hu
  subst hu
  refine zy rfl (fun c0 => ?_) (fun c0 => ?_)
  ·have h0 : (decide (x.op = op) && decide (x.args.length = args.length)) = false := by rwa [Bool.not_eq_true'] at c0
   refine zb<|z8 rfl<|z2 (zAb rfl)<|z6<|zh<|zk (x := .bool _) rfl ?_
   exact jb (by
    rcases Bool.and_eq_false_iff.1 h0 with h | h
    ·rw [h]; rfl
    ·rw [qr (p := x.args = args) (fun e => absurd (congrArg List.length e) (of_decide_eq_false h)), Bool.and_false])
  ·have h0 : (decide (x.op = op) && decide (x.args.length = args.length)) = true := by simpa using c0
   have h1 : x.op = op := by rw [qs, qt, qt] at h0; exact h0.1
   have h2 : x.args.length = args.length := by rw [qs, qt, qt] at h0; exact h0.2
   refine ze<|zb<|zb<|z8 rfl<|z2 (zMf rfl)<|z2 (y5 underlying23 rfl)<|z2 (zMi rfl)<|z6<|zi<|ya (γ := Nat) [2, 3, 21] (fun k => [(22, .int .i64 k)]) (fun k => []) (fun k => k ≤ args.length ∧ x.args.take k = args.take k) (fun k => args.length - k) 0 zR1 zLe (⟨qi _, rfl⟩) ?_
   rintro k ⟨hk, hall⟩
   refine zb<|z8 rfl<|z2 (ye rfl rfl)<|z6<|zb<|zr rfl (fun ck => ?_) (fun ck => ?_)
   ·have hk2 : k < args.length := by simp at ck; omega
    have hk3 : k < x.args.length := by omega
    refine ze<|zb<|zi<|zb<|z8 rfl<|z2 (zMi rfl)<|z2 (zAi rfl)<|z6<|zb<|y7 (fun j => false) (by kernel_rfl) rfl (zo (.rest _))<|zTk (i := 0) rfl (zc underlying33 rfl sizeOf23 (by decide) rfl rfl)<|zTk (i := 1) rfl (zLf isAgg23 rfl)<|zTk (i := 2) rfl (zMi rfl)<|zTk (i := 3) rfl (y6 (j := k) underlying23 sizeOf3 rfl rfl rfl (qf hk3))<|zTk (i := 4) rfl (zLi isAgg3 rfl)<|zTk (i := 5) rfl (zMf rfl)<|zTk (i := 6) rfl (zMi rfl)<|zTk (i := 7) rfl (y6 (j := k) underlying23 sizeOf3 rfl rfl rfl (qf hk2))<|zTk (i := 8) rfl (zLi isAgg3 rfl)<|zTk (i := 9) rfl (yl rfl rfl)<|zDn<|zy rfl (fun cn => ?_) (fun cn => ?_)
    ·have hne : ¬ x.args[k] = args[k] := by simpa using cn
     refine zb<|z8 rfl<|z2 (zAb rfl)<|z6<|zh<|zk (x := .bool _) rfl ?_
     exact jb (by rw [qr (p := x.args = args) (fun e => hne (by simp only [e])), Bool.and_false])
    ·have heq : x.args[k] = args[k] := by simpa using cn
     refine ze<|z8 rfl<|z2 (yb rfl rfl (by unfold I64; omega))<|z2 (zMi rfl)<|z6 ?_
     exact ⟨k + 1, zR3, zR1, zLe, ⟨hk2, by rw [qg hk3, qg hk2, hall, heq]⟩, by omega⟩
   ·have hkn : k = args.length := by simp at ck; omega
    have he : x.args = args := by rw [hkn, qk, ← h2, qk] at hall; exact hall
    refine y8<|zb<|z8 rfl<|z2 (zAb rfl)<|z6<|zh<|zk (x := .bool _) rfl ?_
    exact jb (by rw [qq h1, qq he]; rfl)
set_option maxHeartbeats 4000000 in
theorem refChecked_spec (f : PFunc) (hf : small f) (x : PInst) (hx : x.args.length ≤ 1000) (block : Nat) (at_ : Int) (hb : block < f.blocks.length) : AFun Tryz.prog E 78 [.agg (encF f), froB (tabR f), .agg (encInst x), .int .i64 block, .int .i64 at_] (.bool (chkX f x block at_)) := by
 have hn := hf.2.2.1
 refine zp func78 rfl (by decide) rfl<|zb<|z8 rfl<|yc (cs := _) rfl rfl rfl<|yc (cs := _) rfl rfl rfl<|z2 (zAb rfl)<|z6<|zb<|z8 rfl<|z2 (zAi rfl)<|z6<|zb<|zb<|z8 rfl<|z2 (zc underlying33 rfl sizeOf31 (by decide) rfl rfl)<|z2 (zLi isAgg31 rfl)<|z6 ?_
 by_cases hs : isSum x.op = true
 ·have hs3 : x.op = 2 ∨ x.op = 3 ∨ x.op = 4 := by simpa [isSum] using hs
  rw [chkX, hs, Bool.true_and]
  refine yk (γ := Int) [1, 3, 4, 5, 7] (fun op => [(11, .int .i64 op)]) (fun op => []) (fun op => op = x.op + 19) ?_ (fun _ _ h => h) ?_
  ·refine zi<|zb<|z8 rfl<|z2 (y3 rfl rfl)<|z2 (zAb rfl)<|z6<|zr rfl (fun c2 => ?_) (fun c2 => ?_)
   ·refine z8 rfl<|z2 (zAi rfl)<|z6 ?_
    exact ⟨_, zR5, zR1, zLe, by omega⟩
   ·refine zb<|z8 rfl<|z2 (y3 rfl rfl)<|z2 (zAb rfl)<|z6<|zr rfl (fun c3 => ?_) (fun c3 => ?_)
    ·refine z8 rfl<|z2 (zAi rfl)<|z6 ?_
     exact ⟨_, zR5, zR1, zLe, by omega⟩
    ·refine zb<|z8 rfl<|z2 (y3 rfl rfl)<|z2 (zAb rfl)<|z6<|zr rfl (fun c4 => ?_) (fun c4 => ?_)
     ·refine z8 rfl<|z2 (zAi rfl)<|z6 ?_
      exact ⟨_, zR5, zR1, zLe, by omega⟩
     ·exfalso; omega
  ·rintro op hop
   subst hop
   refine zb<|zb<|z8 rfl<|z2 (zc underlying26 rfl sizeOf24 (by decide) rfl rfl)<|z2 (zLf isAgg24 rfl)<|z2 (y5 underlying24 rfl)<|z2 (zMi rfl)<|z6<|zi<|ya (γ := Nat) [1, 3, 4, 7, 11, 25, 26] (fun i => [(27, .int .i64 i)]) (fun i => []) (fun i => i ≤ f.blocks.length ∧ (List.range i).any (chkI f (x.op + 19) x.args block at_) = false) (fun i => f.blocks.length - i) 0 zR1 zLe (⟨qi _, rfl⟩) ?_
   rintro i ⟨hi, hiall⟩
   refine zb<|z8 rfl<|z2 (ye rfl rfl)<|z6<|zb<|zr rfl (fun ci => ?_) (fun ci => ?_)
   ·have hi2 : i < f.blocks.length := by simp at ci; omega
    obtain ⟨b, hbi⟩ : ∃ b, f.blocks[i] = b := ⟨_, rfl⟩
    have hget : f.blocks[i]? = some b := by rw [qf hi2, hbi]
    obtain ⟨hb0, hb1, hb2, hb3, hb4⟩ := hf.2.2.2.2 b (hbi ▸ qj hi2)
    refine ze<|zb<|zi<|zb<|z8 rfl<|z2 (zMi rfl)<|z2 (y6 (j := i) underlying24 sizeOf66 rfl rfl rfl hget)<|z2 (zn isAgg66 sizeOf66 rfl rfl)<|y9 (cs := [.str ⟨#[]⟩, .raw (.slice none 0 0), .raw (.slice none 0 0), .int .i64 0, .int .i64 0, .int .i64 0, .int .i64 0]) zeroValue66 rfl rfl<|fun i13 => z2 (zAi rfl)<|y4 sizeOf66 rfl rfl rfl rfl rfl rfl .head rfl<|zf (yh (t := 13) rfl .head)<|z6<|zb<|z8 rfl<|z2 (zc underlying66 rfl sizeOf60 (by decide) rfl rfl)<|z2 (zLf isAgg60 rfl)<|z2 (y5 underlying60 rfl)<|z2 (zMi rfl)<|z6<|zi<|ya (γ := Nat) [1, 3, 4, 7, 11, 12, 25, 26, 27, 33, 34] (fun k => [(35, .int .i64 k)]) (fun k => []) (fun k => k ≤ b.insts.length ∧ (b.insts.zipIdx.take k).any (chkQ f (x.op + 19) x.args i block at_) = false) (fun k => b.insts.length - k) 0 zR1 zLe (⟨qi _, rfl⟩) ?_
    rintro k ⟨hk, hkall⟩
    refine zb<|z8 rfl<|z2 (ye rfl rfl)<|z6<|zb<|zr rfl (fun ck => ?_) (fun ck => ?_)
    ·have hk2 : k < b.insts.length := by simp at ck; omega
     obtain ⟨z, hz⟩ : ∃ z, b.insts[k] = z := ⟨_, rfl⟩
     have hzl := hb4 z (hz ▸ qj hk2)
     have hzi : k < b.insts.zipIdx.length := by simp; exact hk2
     have hze : b.insts.zipIdx[k] = (z, k) := by simp [hz]
     have hah : ∀ r, aheadB f ((i : Int), (k : Int)) block at_ = r → chkQ f (x.op + 19) x.args i block at_ b.insts.zipIdx[k] = (decide (z.op = x.op + 19) && decide (z.args = x.args) && r) := fun r h => by rw [hze]; unfold chkQ; rw [h]
     have hab : aheadB f ((i : Int), (k : Int)) block at_ = if (i : Int) = (block : Int) then decide ((k : Int) < at_) else domB (EndsOf f) f.blocks.length i block := by unfold aheadB; rw [if_neg (by dsimp only; omega)]
     refine ze<|zb<|zi<|zb<|z8 rfl<|z2 (zMi rfl)<|z2 (y6 (j := k) underlying60 sizeOf33 rfl rfl rfl (by rw [qf hk2, hz]))<|z2 (zn isAgg33 sizeOf33 rfl rfl)<|y9 (cs := [.int .i64 0, .int .i64 0, .raw (.slice none 0 0), .int .i64 0]) zeroValue33 rfl rfl<|fun i15 => z2 (zAi rfl)<|y4 sizeOf33 rfl rfl rfl rfl rfl rfl .head rfl<|zf (yh (t := 15) rfl .head)<|z6<|zb<|yk (γ := Bool) [1, 3, 4, 7, 11, 12, 25, 26, 27, 33, 34, 35] (fun u => [(68, .bool u)]) (fun u => []) (fun u => u = chkQ f (x.op + 19) x.args i block at_ b.insts.zipIdx[k]) ?_ (fun _ _ h => h) ?_
     ·refine z8 rfl<|z2 (zn isAgg33 sizeOf33 rfl rfl)<|z2 (zMi rfl)<|z2 (zc underlying33 rfl sizeOf23 (by decide) rfl rfl)<|z2 (zLf isAgg23 rfl)<|zg (refIs_spec z (x.op + 19) x.args (by omega) (by omega)) rfl<|z2 (zMb rfl)<|zm (s := 45) rfl (fun c2 => ?_) (fun c2 => ?_)
      ·refine za rfl rfl c2<|z2 (zMi rfl)<|za rfl rfl c2<|z2 (zMi rfl)<|za rfl rfl c2<|z2 (y3 rfl rfl)<|za rfl rfl c2<|z2 (zMb rfl)<|zm (s := 49) rfl (fun c3 => ?_) (fun c3 => ?_)
       ·refine za rfl rfl c3<|z2 (zMi rfl)<|za rfl rfl c3<|z2 (zMi rfl)<|za rfl rfl c3<|z2 (ye rfl rfl)<|za rfl rfl c2<|z2 (zPt rfl c3 rfl)<|za rfl rfl c2<|z2 (zMb rfl)<|zm (s := 54) rfl (fun c4 => ?_) (fun c4 => ?_)
        ·refine z7 rfl rfl c4<|z7 rfl rfl c4<|z7 rfl rfl c4<|z7 rfl rfl c4<|zd rfl rfl<|zd rfl rfl<|zd rfl rfl<|zd rfl rfl<|zd rfl rfl<|zd rfl rfl<|zd rfl rfl<|z7 rfl rfl c4<|za rfl rfl c2<|z2 (zPt rfl c4 rfl)<|z2 (zPt rfl c2 rfl)<|z6 ?_
         exact ⟨_, zR12, zR1, zLe, by rw [hah _ hab]; by_cases h9 : (i : Int) = (block : Int) <;> simp_all⟩
        ·refine za rfl rfl c4<|z2 (zMi rfl)<|za rfl rfl c4<|z2 (zMi rfl)<|za rfl rfl c4<|z2 (yl rfl rfl)<|za rfl rfl c4<|z2 (zMb rfl)<|zm (s := 58) rfl (fun c5 => ?_) (fun c5 => ?_)
         ·refine za rfl rfl c5<|z2 (zMf rfl)<|za rfl rfl c5<|z2 (zMi rfl)<|za rfl rfl c5<|z2 (y6 (j := i) underlying82 sizeOf111 rfl rfl rfl (tabR_get hi2))<|za rfl rfl c5<|z2 (zLf isAgg111 rfl)<|za rfl rfl c5<|z2 (zMi rfl)<|za rfl rfl c5<|z2 (y6 (j := block) underlying111 sizeOf4 rfl rfl rfl (rowR_get hb))<|za rfl rfl c5<|z2 (q6 (c := .bool _) isAgg4 rfl)<|za rfl rfl c4<|z2 (zPt rfl c5 rfl)<|za rfl rfl c2<|z2 (zPf rfl c4 rfl)<|z2 (zPt rfl c2 rfl)<|z6 ?_
          exact ⟨_, zR12, zR1, zLe, by rw [hah _ hab]; by_cases h9 : (i : Int) = (block : Int) <;> simp_all⟩
         ·refine z7 rfl rfl c5<|z7 rfl rfl c5<|z7 rfl rfl c5<|z7 rfl rfl c5<|z7 rfl rfl c5<|z7 rfl rfl c5<|z7 rfl rfl c5<|za rfl rfl c4<|z2 (zPf rfl c5 rfl)<|za rfl rfl c2<|z2 (zPf rfl c4 rfl)<|z2 (zPt rfl c2 rfl)<|z6 ?_
          exact ⟨_, zR12, zR1, zLe, by rw [hah _ hab]; by_cases h9 : (i : Int) = (block : Int) <;> simp_all⟩
       ·refine z7 rfl rfl c3<|z7 rfl rfl c3<|z7 rfl rfl c3<|za rfl rfl c2<|z2 (zPf rfl c3 rfl)<|za rfl rfl c2<|z2 (zMb rfl)<|za rfl rfl rfl<|z2 (zMi rfl)<|za rfl rfl rfl<|z2 (zMi rfl)<|za rfl rfl rfl<|z2 (yl rfl rfl)<|za rfl rfl rfl<|z2 (zMb rfl)<|zm (s := 58) rfl (fun c6 => ?_) (fun c6 => ?_)
        ·refine za rfl rfl c6<|z2 (zMf rfl)<|za rfl rfl c6<|z2 (zMi rfl)<|za rfl rfl c6<|z2 (y6 (j := i) underlying82 sizeOf111 rfl rfl rfl (tabR_get hi2))<|za rfl rfl c6<|z2 (zLf isAgg111 rfl)<|za rfl rfl c6<|z2 (zMi rfl)<|za rfl rfl c6<|z2 (y6 (j := block) underlying111 sizeOf4 rfl rfl rfl (rowR_get hb))<|za rfl rfl c6<|z2 (q6 (c := .bool _) isAgg4 rfl)<|za rfl rfl rfl<|z2 (zPt rfl c6 rfl)<|za rfl rfl c2<|z2 (zPf rfl rfl rfl)<|z2 (zPt rfl c2 rfl)<|z6 ?_
         exact ⟨_, zR12, zR1, zLe, by rw [hah _ hab]; by_cases h9 : (i : Int) = (block : Int) <;> simp_all⟩
        ·refine z7 rfl rfl c6<|z7 rfl rfl c6<|z7 rfl rfl c6<|z7 rfl rfl c6<|z7 rfl rfl c6<|z7 rfl rfl c6<|z7 rfl rfl c6<|za rfl rfl rfl<|z2 (zPf rfl c6 rfl)<|za rfl rfl c2<|z2 (zPf rfl rfl rfl)<|z2 (zPt rfl c2 rfl)<|z6 ?_
         exact ⟨_, zR12, zR1, zLe, by rw [hah _ hab]; by_cases h9 : (i : Int) = (block : Int) <;> simp_all⟩
      ·refine z7 rfl rfl c2<|z7 rfl rfl c2<|z7 rfl rfl c2<|z7 rfl rfl c2<|zd rfl rfl<|zd rfl rfl<|zd rfl rfl<|z7 rfl rfl c2<|z7 rfl rfl c2<|zd rfl rfl<|zd rfl rfl<|zd rfl rfl<|zd rfl rfl<|zd rfl rfl<|zd rfl rfl<|zd rfl rfl<|zd rfl rfl<|zd rfl rfl<|zd rfl rfl<|zd rfl rfl<|zd rfl rfl<|z7 rfl rfl c2<|z2 (zPf rfl c2 rfl)<|z6 ?_
       exact ⟨_, zR12, zR1, zLe, by rw [hah _ hab]; by_cases h9 : (i : Int) = (block : Int) <;> simp_all⟩
     ·rintro u hu
      subst hu
      refine zy rfl (fun cq => ?_) (fun cq => ?_)
      ·refine zb<|z8 rfl<|z2 (zAb rfl)<|z6<|zh<|zk (x := .bool _) rfl ?_
       exact jb (range_any_hit hi2 (by rw [chkI_at hget]; exact any_hit hzi cq)).symm
      ·refine ze<|z8 rfl<|z2 (yb rfl rfl (by unfold I64; omega))<|z2 (zMi rfl)<|z6 ?_
       exact ⟨k + 1, zR11, zR1, zLe, ⟨hk2, any_take hzi hkall (by simpa using cq)⟩, by omega⟩
    ·have hkn : k = b.insts.length := by simp at ck; omega
     rw [hkn, show b.insts.length = b.insts.zipIdx.length by simp, qk] at hkall
     refine y8<|z8 rfl<|z2 (yb rfl rfl (by unfold I64; omega))<|z2 (zMi rfl)<|z6 ?_
     exact ⟨i + 1, zR7, zR1, zLe, ⟨hi2, range_any_succ hiall (by rw [chkI_at hget]; exact hkall)⟩, by omega⟩
   ·have hin : i = f.blocks.length := by simp at ci; omega
    subst hin
    refine y8<|zb<|z8 rfl<|z2 (zAb rfl)<|z6<|zh<|zk (x := .bool _) rfl ?_
    exact jb hiall.symm
 ·have hs3 : ¬ (x.op = 2 ∨ x.op = 3 ∨ x.op = 4) := by simpa [isSum] using hs
  refine zi<|zb<|z8 rfl<|z2 (y3 rfl rfl)<|z2 (zAb rfl)<|z6<|zr rfl (fun c2 => ?_) (fun c2 => ?_)
  ·exfalso; omega
  ·refine zb<|z8 rfl<|z2 (y3 rfl rfl)<|z2 (zAb rfl)<|z6<|zr rfl (fun c3 => ?_) (fun c3 => ?_)
   ·exfalso; omega
   ·refine zb<|z8 rfl<|z2 (y3 rfl rfl)<|z2 (zAb rfl)<|z6<|zr rfl (fun c4 => ?_) (fun c4 => ?_)
    ·exfalso; omega
    ·refine zb<|z8 rfl<|z2 (zAb rfl)<|z6<|zh<|zk (x := .bool _) rfl ?_
     exact jb (by rw [chkX, Bool.eq_false_iff.2 hs]; rfl)
end Go.Proofs.YtjnpcfpecilejaaGreatDoor
namespace Go.Proofs.YtjnpcfpecilejaaGreatDoor
open Go.Proofs.Tryz
open Go.Proofs
theorem pl261 : Places Tryz.prog 261 #[(0, 2), (2, 1)] [.int .i64 0, .int .i64 0, .bool false] := ⟨_, _, underlying261, zeroValue261, fun w => by kernel_rfl, rfl⟩
theorem pl280 : PlacesA Tryz.prog 280 1 [.int .i64 0, .int .i64 0] := ⟨_, _, _, underlying280, zeroValue280, sizeOf2, rfl⟩
variable {E : World}
set_option maxRecDepth 20000
theorem aMul {x y : Int} (hx : is64 x) (hy : is64 y) : AFun Tryz.prog E 237 [.int .i64 x, .int .i64 y] (.tup [.int .i64 (IntKind.i64.wrap (x * y)), .bool (decide (fit3 2 x y))]) := by
 rw [← mulB]
 refine zp func237 rfl (by decide) rfl<|zb<|z8 rfl<|z2 (zAi rfl)<|z2 (zAb rfl)<|z6<|zb<|z8 rfl<|z2 (zMi rfl)<|zg (aAbs hx) rfl<|z2 (zMi rfl)<|zg (aAbs hy) rfl<|zg (mul64_spec _ _ (abs_lt hx) (abs_lt hy)) rfl<|z2 (zq (v := .tup _) rfl)<|z2 (yj (v := .int _ _) rfl rfl)<|z2 (yj (v := .int _ _) rfl rfl)<|z2 (zAi rfl)<|z2 (zAi rfl)<|z6<|zb<|z8 rfl<|z2 (zAi rfl)<|z6<|zb<|zb<|z8 rfl<|z2 (zMi rfl)<|z2 (ye rfl rfl)<|z2 (zMi rfl)<|z2 (ye rfl rfl)<|z2 (Gv.neqB underlying4 rfl rfl)<|z6<|yk (γ := Int) [0, 1, 6, 7] (fun m => [(8, .int .u64 m)]) (fun m => []) (fun m => m = if (!(decide (x < 0) == decide (y < 0))) = true then 9223372036854775808 else 9223372036854775807) ?_ (fun _ _ h => h) ?_
 ·refine zy rfl (fun c1 => ?_) (fun c1 => ?_)
  ·refine z8 rfl<|z2 (zMi rfl)<|z2 (Gv.addW rfl rfl)<|z2 (zAi rfl)<|z6 ?_
   exact ⟨_, zR4, zR1, zLe, by simp_all <;> first | rfl | decide⟩
  ·refine ze ?_
   exact ⟨_, zR4, zR1, zLe, by simp_all <;> first | rfl | decide⟩
 ·rintro m hm
  subst hm
  refine zb<|z8 rfl<|z2 (zMi rfl)<|z2 (zMi rfl)<|z2 (Gv.mulW rfl rfl)<|z2 (zMi rfl)<|z2 (y3 rfl rfl)<|z2 (zMb rfl)<|zm (s := 29) rfl (fun c2 => ?_) (fun c2 => ?_)
  ·refine za rfl rfl c2<|z2 (zMi rfl)<|za rfl rfl c2<|z2 (zMi rfl)<|za rfl rfl c2<|z2 (Gv.leq rfl rfl)<|z2 (zPt rfl c2 rfl)<|z2 (zAi rfl)<|z2 (zAb rfl)<|z6<|zh<|q5 (x := .int _ _) (y := .bool _) rfl rfl ?_
   simp_all
  ·refine z7 rfl rfl c2<|z7 rfl rfl c2<|z7 rfl rfl c2<|z2 (zPf rfl c2 rfl)<|z2 (zAi rfl)<|z2 (zAb rfl)<|z6<|zh<|q5 (x := .int _ _) (y := .bool _) rfl rfl ?_
   simp_all
theorem hull_add (i : Nat) (h : Rng × Bool) (n : Int) (fits : Bool) (e : Int) : ACall Tryz.prog E 234 [.po i 0, .int .i64 n, .bool fits, .int .i64 e] [(i, .cells 261 (encH h))] fun r O => r = .tup [] ∧ O = [(i, .cells 261 (encH (hAdd h n fits e)))] := by
 refine zp func234 rfl (by decide) rfl<|zb<|zb<|z8 rfl<|z2 (zMb rfl)<|z2 (yg rfl)<|z6<|yk (γ := Int × Bool) [0] (fun g => [(1, .int .i64 g.1)]) (fun g => [(i, .cells 261 (encH (h.1, g.2)))]) (fun g => g.1 = (if fits then n else e) ∧ g.2 = (h.2 || !fits)) ?_ (fun _ _ h => h) ?_
 ·refine zy rfl (fun c => ?_) (fun c => ?_)
  ·refine z8 rfl<|z2 (zq (v := .po _ _) rfl)<|z2 (zMi rfl)<|z2 (yf rfl)<|z2 (zu underlying261 rfl sizeOf4 (by decide) rfl rfl)<|AOps.storeC (l := [_]) (new := [_, _, _]) sizeOf4 rfl rfl rfl rfl rfl rfl .head rfl rfl<|z2 (zAi rfl)<|z6 ?_
   exact ⟨(e, true), zR1, zR1, zLe, by simp_all⟩
  ·refine ze ?_
   exact ⟨(n, h.2), zR1, zR1, zLe, by simp_all⟩
 ·rintro ⟨m, w⟩ ⟨h1, h2⟩
  dsimp only at h1 h2
  subst h1 h2
  refine y7 (fun j => Nat.beq j 10) (by kernel_rfl) rfl (zo (.r (.rest _)))<|zTk (i := 0) rfl (zq (v := .po _ _) rfl)<|zTk (i := 1) rfl (zq (v := .po _ _) rfl)<|zTk (i := 2) rfl (yf rfl)<|zTk (i := 3) rfl (zu underlying261 rfl sizeOf74 (by decide) rfl rfl)<|zTk (i := 4) rfl (Gv.loadAC (l := [_, _]) isAgg74 sizeOf74 rfl ⟨_, .head⟩ rfl rfl)<|zTk (i := 5) rfl (zMi rfl)<|zOn (i := 6) rfl<|zg (iOf _) rfl<|z6<|zOn (i := 7) rfl<|zg (iJoin _ _) rfl<|z6<|AAny.takeK (i := 8) rfl (by kernel_rfl) (by kernel_rfl) (by kernel_rfl) (by kernel_rfl) (yf rfl)<|zTk (i := 9) rfl (zu underlying261 rfl sizeOf74 (by decide) rfl rfl)<|yx<|q7 (i := 10) rfl (by kernel_rfl) (by kernel_rfl)<|AOps.storeC (l := [_, _]) (new := [_, _, _]) sizeOf74 rfl rfl rfl rfl rfl rfl .head rfl rfl<|z6<|q3 (by kernel_rfl)<|ym ?_
  exact ⟨rfl, rfl⟩
set_option maxHeartbeats 4000000 in
theorem iCorners (op : Int) (k : Nat) (hk : k ≤ 2) (hop : op = 2 + (k : Int)) {a b : Rng} (ha : ok64 a) (hb : ok64 b) : AFun Tryz.prog E 218 [.int .i64 op, .agg (encZ a), .agg (encZ b)] (.agg (encH (cornP k a b))) := by
 obtain ⟨st, hst⟩ : ∃ st, hSt (op3 k) (fun x y => decide (fit3 k x y)) (near3 k) (noR, false) a b = st := ⟨_, rfl⟩
 have hstep : ∀ (i j : Nat), j < 2 → st (2 * i + (j + 1)) = hAdd (st (2 * i + j)) (op3 k (selR a i) (selR b j)) (decide (fit3 k (selR a i) (selR b j))) (near3 k (selR a i) (selR b j)) := fun i j hj => by rw [← hst]; exact hSt_step i hj
 have h4 : st 4 = cornP k a b := by rw [← hst]; rfl
 have h0 : st 0 = (noR, false) := by rw [← hst]; rfl
 refine zp func218 rfl (by decide) rfl<|zb<|z8 rfl<|yc (cs := _) rfl rfl rfl<|yc (cs := _) rfl rfl rfl<|y9 (cs := [.int .i64 0, .int .i64 0, .bool false]) zeroValue261 rfl rfl<|fun i6 => z6<|zb<|z8 rfl<|zg (iNone) rfl<|z2 (y1 (cps := [(0, [_, _])]) (rs := [_, _, .bool false]) pl261 rfl rfl rfl)<|y9 (cs := [.int .i64 0, .int .i64 0, .bool false]) zeroValue261 rfl rfl<|fun i7 => y4 sizeOf261 rfl rfl rfl rfl rfl rfl .head rfl<|z6<|zb<|zb<|z8 rfl<|z2 (zc underlying74 rfl sizeOf2 (by decide) rfl rfl)<|z2 (zLi isAgg2 rfl)<|z2 (zc underlying74 rfl sizeOf2 (by decide) rfl rfl)<|z2 (zLi isAgg2 rfl)<|z2 (Gv.buildA (cps := [(0, [_]), (1, [_])]) (rs := [_, _]) pl280 rfl rfl rfl)<|z2 (zMi rfl)<|z6<|zi<|ya (γ := Nat) [0, 5, 6, 7, 24] (fun i => [(25, .int .i64 i)]) (fun i => [(i7, .cells 261 (encH (st (2 * i)))), (i6, .cells 261 [.int .i64 0, .int .i64 0, .bool false])]) (fun i => i ≤ 2) (fun i => 2 - i) 0 zR1 ⟨_, (.refl _), by rw [h0]; rfl⟩ ((by omega)) ?_
 rintro i hi
 refine zb<|z8 rfl<|z2 (ye rfl rfl)<|z6<|zb<|zr rfl (fun ci => ?_) (fun ci => ?_)
 ·have hi2 : i < 2 := by omega
  have hx := sel_ok ha i
  refine ze<|zb<|zi<|zb<|z8 rfl<|z2 (Gv.index1 (n := 2) (j := i) (cs := [.int .i64 a.1, .int .i64 a.2]) (v := .int .i64 (selR a i)) underlying280 isAgg2 sizeOf2 rfl rfl rfl hi2 (sel_get hi2))<|z2 (zAi rfl)<|z6<|zb<|z8 rfl<|z2 (zc underlying74 rfl sizeOf2 (by decide) rfl rfl)<|z2 (zLi isAgg2 rfl)<|z2 (zc underlying74 rfl sizeOf2 (by decide) rfl rfl)<|z2 (zLi isAgg2 rfl)<|z2 (Gv.buildA (cps := [(0, [_]), (1, [_])]) (rs := [_, _]) pl280 rfl rfl rfl)<|z2 (zMi rfl)<|z6<|zi<|ya (γ := Nat) [0, 5, 6, 7, 9, 24, 25, 32] (fun j => [(33, .int .i64 j)]) (fun j => [(i7, .cells 261 (encH (st (2 * i + j)))), (i6, .cells 261 [.int .i64 0, .int .i64 0, .bool false])]) (fun j => j ≤ 2) (fun j => 2 - j) 0 zR1 zLe ((by omega)) ?_
  rintro j hj
  refine zb<|z8 rfl<|z2 (ye rfl rfl)<|z6<|zb<|zr rfl (fun cj => ?_) (fun cj => ?_)
  ·have hj2 : j < 2 := by omega
   have hy := sel_ok hb j
   have hs := hstep i j hj2
   refine ze<|zb<|zi<|zb<|z8 rfl<|z2 (Gv.index1 (n := 2) (j := j) (cs := [.int .i64 b.1, .int .i64 b.2]) (v := .int .i64 (selR b j)) underlying280 isAgg2 sizeOf2 rfl rfl rfl hj2 (sel_get hj2))<|z2 (zAi rfl)<|z6<|zb<|z8 rfl<|z2 (zMi rfl)<|z6<|zi<|zb<|z8 rfl<|z2 (y3 rfl rfl)<|z2 (zAb rfl)<|z6<|zr rfl (fun c2 => ?_) (fun c2 => ?_)
   ·have hk0 : k = 0 := by omega
    subst hk0
    refine zb<|z8 rfl<|z2 (zMi rfl)<|z2 (zMi rfl)<|zg (aAdd hx hy) rfl<|z2 (zq (v := .tup _) rfl)<|z2 (yj (v := .int _ _) rfl rfl)<|z2 (yj (v := .bool _) rfl rfl)<|z2 (zAi rfl)<|z2 (zAb rfl)<|z6<|z8 rfl<|z2 (zMi rfl)<|z2 (zMb rfl)<|z2 (zMi rfl)<|z2 (ye rfl rfl)<|zg (iNear _) rfl<|zt rfl (zo (.l (.r (.rest _)))) (hull_add i7 _ _ _ _) ?_
    rintro r50 O50 ⟨rfl, rfl⟩
    refine z6<|z8 rfl<|z2 (yb rfl rfl (by unfold I64; omega))<|z2 (zMi rfl)<|z6 ?_
    exact ⟨j + 1, zR8, zR1, ⟨_, (.refl _), by rw [hs, hAdd_fit add_fit (near_0 _ (selR b j))]; rfl⟩, hj2, by omega⟩
   ·refine zb<|z8 rfl<|z2 (y3 rfl rfl)<|z2 (zAb rfl)<|z6<|zr rfl (fun c3 => ?_) (fun c3 => ?_)
    ·have hk0 : k = 1 := by omega
     subst hk0
     refine zb<|z8 rfl<|z2 (zMi rfl)<|z2 (zMi rfl)<|zg (aSub hx hy) rfl<|z2 (zq (v := .tup _) rfl)<|z2 (yj (v := .int _ _) rfl rfl)<|z2 (yj (v := .bool _) rfl rfl)<|z2 (zAi rfl)<|z2 (zAb rfl)<|z6<|z8 rfl<|z2 (zMi rfl)<|z2 (zMb rfl)<|z2 (zMi rfl)<|z2 (ye rfl rfl)<|zg (iNear _) rfl<|zt rfl (zo (.l (.r (.rest _)))) (hull_add i7 _ _ _ _) ?_
     rintro r64 O64 ⟨rfl, rfl⟩
     refine z6<|z8 rfl<|z2 (yb rfl rfl (by unfold I64; omega))<|z2 (zMi rfl)<|z6 ?_
     exact ⟨j + 1, zR8, zR1, ⟨_, (.refl _), by rw [hs, hAdd_fit sub_fit (near_1 _ (selR b j))]; rfl⟩, hj2, by omega⟩
    ·refine zb<|z8 rfl<|z2 (y3 rfl rfl)<|z2 (zAb rfl)<|z6<|zr rfl (fun c4 => ?_) (fun c4 => ?_)
     ·have hk0 : k = 2 := by omega
      subst hk0
      refine zb<|z8 rfl<|z2 (zMi rfl)<|z2 (zMi rfl)<|zg (aMul hx hy) rfl<|z2 (zq (v := .tup _) rfl)<|z2 (yj (v := .int _ _) rfl rfl)<|z2 (yj (v := .bool _) rfl rfl)<|z2 (zAi rfl)<|z2 (zAb rfl)<|z6<|z8 rfl<|z2 (zMi rfl)<|z2 (zMb rfl)<|z2 (zMi rfl)<|z2 (ye rfl rfl)<|z2 (zMi rfl)<|z2 (ye rfl rfl)<|z2 (Gv.neqB underlying4 rfl rfl)<|zg (iNear _) rfl<|zt rfl (zo (.l (.r (.rest _)))) (hull_add i7 _ _ _ _) ?_
      rintro r81 O81 ⟨rfl, rfl⟩
      refine z6<|z8 rfl<|z2 (yb rfl rfl (by unfold I64; omega))<|z2 (zMi rfl)<|z6 ?_
      exact ⟨j + 1, zR8, zR1, ⟨_, (.refl _), by rw [hs, hAdd_fit mul_fit3 (near_2 _ (selR b j))]; rfl⟩, hj2, by omega⟩
     ·exfalso; omega
  ·have hj2 : j = 2 := by omega
   subst hj2
   refine y8<|z8 rfl<|z2 (yb rfl rfl (by unfold I64; omega))<|z2 (zMi rfl)<|z6 ?_
   exact ⟨i + 1, zR5, zR1, ⟨_, (.refl _), by rw [show 2 * (i + 1) = 2 * i + 2 by omega]⟩, hi2, by omega⟩
 ·have hi2 : i = 2 := by omega
  subst hi2
  refine y8<|zb<|z8 rfl<|z2 (Gv.loadWC isAgg261 sizeOf261 rfl ⟨_, .head⟩ rfl)<|y4 sizeOf261 rfl rfl rfl rfl rfl rfl (.tail .head) rfl<|z6<|zh<|yz rfl ⟨_, (.tail .head)⟩ isAgg261 sizeOf261 rfl ?_
  rw [← h4]; try rfl
end Go.Proofs.YtjnpcfpecilejaaGreatDoor
namespace Go.Proofs.YtjnpcfpecilejaaGreatDoor
open Go.Proofs.Tryz
open Go.Proofs
variable {E : World}
set_option maxRecDepth 20000
theorem iFits (op : Int) (k : Nat) (hk : k ≤ 2) (hop : op = 2 + (k : Int)) {a b : Rng} (ha : ok64 a) (hb : ok64 b) : AFun Tryz.prog E 200 [.int .i64 op, .agg (encZ a), .agg (encZ b)] (.bool (decide (a.2 < a.1 ∨ b.2 < b.1 ∨ cornF k a b))) := by
 have hcp := cornP_eq k a b
 refine zp func200 rfl (by decide) rfl<|zb<|z8 rfl<|yc (cs := _) rfl rfl rfl<|yc (cs := _) rfl rfl rfl<|z2 (zAb rfl)<|z6<|zb<|zb<|yk (γ := Bool) [0, 4, 5] (fun u => [(12, .bool u)]) (fun u => []) (fun u => u = false) ?_ (fun _ _ h => h) ?_
 ·refine z8 rfl<|z2 (zMi rfl)<|z2 (qb rfl rfl)<|z2 (zMb rfl)<|zm (s := 9) rfl (fun c => ?_) (fun c => ?_)
  ·exfalso; simp at c; omega
  ·refine z7 rfl rfl c<|z7 rfl rfl c<|z2 (zPf rfl c rfl)<|z6 ?_
   exact ⟨_, zR3, zR1, zLe, rfl⟩
 ·rintro u hu
  subst hu
  refine yi rfl rfl<|ze<|zb<|z8 rfl<|z2 (zMi rfl)<|zg (iSums _) rfl<|z2 (zMb rfl)<|zm (s := 18) rfl (fun c1 => ?_) (fun c1 => ?_)
  ·refine za rfl rfl c1<|z2 (zn isAgg74 sizeOf74 rfl rfl)<|za rfl rfl c1<|zg (iEmpty _) rfl<|za rfl rfl c1<|z2 (zMb rfl)<|zm (s := 21) rfl (fun c2 => ?_) (fun c2 => ?_)
   ·refine z7 rfl rfl c2<|z7 rfl rfl c2<|za rfl rfl c1<|z2 (zPt rfl c2 rfl)<|za rfl rfl c1<|z2 (zMb rfl)<|z7 rfl rfl rfl<|z7 rfl rfl rfl<|z7 rfl rfl rfl<|z7 rfl rfl rfl<|z7 rfl rfl rfl<|z7 rfl rfl rfl<|za rfl rfl c1<|z2 (zPt rfl rfl rfl)<|z2 (zPt rfl c1 rfl)<|z2 (zAb rfl)<|z6<|zh<|zk (x := .bool _) rfl ?_
    exact jb (by simp_all)
   ·refine za rfl rfl c2<|z2 (zn isAgg74 sizeOf74 rfl rfl)<|za rfl rfl c2<|zg (iEmpty _) rfl<|za rfl rfl c1<|z2 (zPf rfl c2 rfl)<|za rfl rfl c1<|z2 (zMb rfl)<|zm (s := 25) rfl (fun c3 => ?_) (fun c3 => ?_)
    ·refine z7 rfl rfl c3<|z7 rfl rfl c3<|z7 rfl rfl c3<|z7 rfl rfl c3<|z7 rfl rfl c3<|z7 rfl rfl c3<|za rfl rfl c1<|z2 (zPt rfl c3 rfl)<|z2 (zPt rfl c1 rfl)<|z2 (zAb rfl)<|z6<|zh<|zk (x := .bool _) rfl ?_
     exact jb (by simp_all)
    ·refine za rfl rfl c3<|z2 (zMi rfl)<|za rfl rfl c3<|z2 (zn isAgg74 sizeOf74 rfl rfl)<|za rfl rfl c3<|z2 (zn isAgg74 sizeOf74 rfl rfl)<|za rfl rfl c3<|zg (iCorners op k hk hop ha hb) rfl<|za rfl rfl c3<|z2 (Gv.field1 (v := .bool _) underlying261 rfl isAgg4 rfl rfl)<|za rfl rfl c3<|z2 (yg rfl)<|za rfl rfl c1<|z2 (zPf rfl c3 rfl)<|z2 (zPt rfl c1 rfl)<|z2 (zAb rfl)<|z6<|zh<|zk (x := .bool _) rfl ?_
     exact jb (by have h2 : ¬ a.2 < a.1 := (by simpa using c2); have h3 : ¬ b.2 < b.1 := (by simpa using c3); simp [h2, h3, hcp])
  ·exfalso; simp at c1; omega
end Go.Proofs.YtjnpcfpecilejaaGreatDoor
namespace Go.Proofs.YtjnpcfpecilejaaGreatDoor
open Go.Proofs.Tryz
open Go.Proofs Go.Lib Go.Shelf Go.RowKit
variable {E : World}
set_option maxRecDepth 20000
theorem ra_at {rs : List Rng} {i : Nat} (h : i < rs.length) : rs[i]? = some (ra rs i) := by unfold ra; rw [qf h]; rfl
def okRs (rs : List Rng) : Prop := ∀ r ∈ rs, ok64 r ∧ r.1 ≤ r.2
theorem okRs.at {rs : List Rng} (h : okRs rs) {i : Nat} (hi : i < rs.length) : ok64 (ra rs i) ∧ (ra rs i).1 ≤ (ra rs i).2 := by
 have := ra_at hi
 exact h _ (List.mem_of_getElem? this)
end Go.Proofs.YtjnpcfpecilejaaGreatDoor
namespace Go.Proofs.YtjnpcfpecilejaaGreatDoor
open Go.Proofs.Tryz
def madePh (b : PBlock) : List (Int × Bool) := b.phis.map fun p => (p.dst, true)
def madeIn (xs : List PInst) : List (Int × Bool) := (xs.filter fun x => decide (0 ≤ x.dst)).map fun x => (x.dst, false)
def madeTo (f : PFunc) (k : Nat) : List (Int × Bool) := (f.blocks.take k).flatMap fun b => madePh b ++ madeIn b.insts
theorem madeTo_succ {f : PFunc} {k : Nat} (h : k < f.blocks.length) : madeTo f (k + 1) = madeTo f k ++ (madePh f.blocks[k] ++ madeIn f.blocks[k].insts) := by
 unfold madeTo; rw [qg h, List.flatMap_append]; simp
end Go.Proofs.YtjnpcfpecilejaaGreatDoor
namespace Go.Proofs.YtjnpcfpecilejaaGreatDoor
open Go.Proofs.Tryz
open Go.Proofs Go.Lib Go.Shelf Go.RowKit
theorem ps47_1 : PlacesS Tryz.prog 47 75 1 2 [.int .i64 0, .int .i64 0] := ⟨_, underlying47, sizeOf75, zeroValue75, by decide, by decide, by kernel_rfl⟩
variable {E : World}
set_option maxRecDepth 20000
theorem ShapedP.ty {f : PFunc} (h : ShapedP f) {v : Nat} (hv : v < f.vars.length) : 0 ≤ tyV f v ∧ tyV f v ≤ 2 := by
 have h1 := h.2.2.1 v hv
 unfold tyV
 rw [show (v : Int).toNat = v from rfl, qf hv]
 exact ⟨h1.2.1, h1.2.2.1⟩
theorem small.made {f : PFunc} (hf : small f) : ∀ {k : Nat}, k ≤ f.blocks.length → (madeTo f k).length ≤ k * 2000
 | 0, _ => by simp [madeTo]
 | k + 1, hk => by
  have h1 := small.made hf (k := k) (by omega)
  obtain ⟨hb0, hb1, hb2, hb3, hb4⟩ := hf.2.2.2.2 _ (qj (show k < f.blocks.length by omega))
  rw [madeTo_succ (by omega), ql, ql]
  unfold madePh madeIn
  rw [qm, qm]
  have := List.length_filter_le (fun x : PInst => decide (0 ≤ x.dst)) (f.blocks[k]'(by omega)).insts
  omega
theorem lv_get {l : List Rng} {a : Int} (h : a.toNat < l.length) : l[a.toNat]? = some (lv l a) := by unfold lv; rw [qf h]; rfl
theorem hasV_rng {f : PFunc} {v : Int} (h : hasV f v = true) : 0 ≤ v ∧ v < f.vars.length := by simpa [hasV] using h
theorem ty_get {f : PFunc} (hS : ShapedP f) {a : Int} (h : hasV f a = true) : ∃ x, f.vars[a.toNat]? = some x ∧ x.ty = tyV f a ∧ 0 ≤ x.ty ∧ x.ty ≤ 2 := by
 obtain ⟨h0, h1⟩ := hasV_rng h
 have hl : a.toNat < f.vars.length := by omega
 have h2 := hS.2.2.1 _ hl
 refine ⟨f.vars[a.toNat], qf hl, ?_, h2.2.1, h2.2.2.1⟩
 unfold tyV; rw [qf hl]; rfl
theorem args_take {f : PFunc} {l : List Rng} {x : PInst} {m : Nat} (h : m < x.args.length) : (argsR f l x).take (m + 1) = (argsR f l x).take m ++ [ofR f l x.args[m]] := by
 unfold argsR
 rw [qg (by rw [qm]; exact h), List.getElem_map]
theorem Left.d1 {x : Nat × AObj} {O : OL} : Left (x :: O) O := ⟨_, .drop (.refl _), rfl⟩
theorem Left.d2 {x y : Nat × AObj} {O : OL} : Left (x :: y :: O) O := ⟨_, .drop (.drop (.refl _)), rfl⟩
theorem ACall.same {P : Program} {E : World} {f : FuncId} {ars : List AV} {O : OL} {x : AV} (h : ACall P E f ars O fun y O' => y = x ∧ Left O' O) : ACall P E f ars O fun y O' => y = x ∧ O' = O :=
 (ACall.exact (γ := Unit) (x := fun _ => x) (M := fun _ => O) (p := fun _ => True) (h.mono fun _ _ h => ⟨(), h.1, h.2, trivial⟩)).mono fun _ _ ⟨_, h1, h2, _⟩ => ⟨h1, h2⟩
end Go.Proofs.YtjnpcfpecilejaaGreatDoor
namespace Go.Proofs.YtjnpcfpecilejaaGreatDoor
open Go.Proofs.Tryz
open Go.Proofs Go.Lib Go.Shelf Go.RowKit
variable {E : World}
set_option maxRecDepth 20000
def c3 (rs : List Rng) : List AV := encZ (ra rs 0) ++ encZ (ra rs 1) ++ encZ (ra rs 2)
end Go.Proofs.YtjnpcfpecilejaaGreatDoor
namespace Go.Proofs.YtjnpcfpecilejaaGreatDoor
open Go.Proofs.Tryz
open Go.Proofs Go.Lib Go.Shelf Go.RowKit
variable {E : World}
set_option maxRecDepth 20000
structure RuleF (f : PFunc) : Prop where
 small : small f
 shaped : ShapedP f
 once : OnceP f
 bool : ∀ b ∈ f.blocks, ∀ x ∈ b.insts, x.op = 10 ∨ x.op = 11 → ∀ v ∈ x.args, tyV f v = 1
end Go.Proofs.YtjnpcfpecilejaaGreatDoor
namespace Go.Proofs.YtjnpcfpecilejaaGreatDoor
open Go.Proofs.Tryz
def isChk (q : Int) : Prop := 21 ≤ q ∧ q ≤ 23
instance (q : Int) : Decidable (isChk q) := by unfold isChk; infer_instance
def Done (f : PFunc) (i k : Nat) (v : Int) : Prop := ∃ (i' k' : Nat) (b : PBlock) (z : PInst), f.blocks[i']? = some b ∧ b.insts[k']? = some z ∧ z.dst = v ∧ chkX f z i' k' = true ∧ (i' < i ∨ i' = i ∧ k' < k)
theorem Done.step {f : PFunc} {i k : Nat} {b : PBlock} {z : PInst} (h1 : f.blocks[i]? = some b) (h2 : b.insts[k]? = some z) (v : Int) : Done f i (k + 1) v ↔ Done f i k v ∨ (v = z.dst ∧ chkX f z i k = true) := by
 constructor
 ·rintro ⟨i', k', b', z', g1, g2, g3, g4, g5⟩
  by_cases e : i' = i ∧ k' = k
  ·obtain ⟨rfl, rfl⟩ := e
   rw [h1] at g1; cases g1
   rw [h2] at g2; cases g2
   exact .inr ⟨g3.symm, g4⟩
  ·exact .inl ⟨i', k', b', z', g1, g2, g3, g4, by omega⟩
 ·rintro (⟨i', k', b', z', g1, g2, g3, g4, g5⟩ | ⟨rfl, h⟩)
  ·exact ⟨i', k', b', z', g1, g2, g3, g4, by omega⟩
  ·exact ⟨i, k, b, z, h1, h2, rfl, h, .inr ⟨rfl, by omega⟩⟩
theorem Done.next {f : PFunc} {i : Nat} {b : PBlock} (h1 : f.blocks[i]? = some b) (v : Int) : Done f (i + 1) 0 v ↔ Done f i b.insts.length v := by
 constructor
 ·rintro ⟨i', k', b', z', g1, g2, g3, g4, g5⟩
  refine ⟨i', k', b', z', g1, g2, g3, g4, ?_⟩
  by_cases e : i' = i
  ·subst e
   rw [h1] at g1; cases g1
   exact .inr ⟨rfl, (List.getElem?_eq_some_iff.1 g2).1⟩
  ·exact .inl (by omega)
 ·rintro ⟨i', k', b', z', g1, g2, g3, g4, g5⟩
  exact ⟨i', k', b', z', g1, g2, g3, g4, .inl (by omega)⟩
theorem Done.zero (f : PFunc) (v : Int) : ¬ Done f 0 0 v := by
 rintro ⟨i', k', b', z', g1, g2, g3, g4, g5⟩; omega
theorem Done.all {f : PFunc} (ho : OnceP f) {v : Nat} (hv : v < f.vars.length) : Done f f.blocks.length 0 v ↔ chkV f v = true := by
 constructor
 ·rintro ⟨i', k', b', z', g1, g2, g3, g4, g5⟩
  have hm : ((i' : Int), (k' : Int)) ∈ makings f v := mem_makings.2 ⟨i', b', g1, mem_mkBlk.2 (.inr ⟨k', z', g2, g3, rfl⟩)⟩
  have := maker_eq (ho v hv).1 hm
  rw [chkV_at g1 g2 this]; exact g4
 ·intro h
  by_cases h0 : 0 ≤ (makerT f v).1
  ·obtain ⟨i, b, h1, ⟨p, h2, h3, h4⟩ | ⟨k, x, h2, h3, h4⟩⟩ := maker_cases h0
   ·unfold chkV instAt at h
    rw [h4, if_neg (by dsimp only; omega)] at h
    cases h
   ·rw [chkV_at h1 h2 h4] at h
    exact ⟨i, k, b, x, h1, h2, h3, h, .inl (List.getElem?_eq_some_iff.1 h1).1⟩
  ·unfold chkV instAt at h
   rw [if_neg (fun hh => h0 hh.1)] at h
   cases h
end Go.Proofs.YtjnpcfpecilejaaGreatDoor
