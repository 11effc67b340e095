/- What an operation on ranges comes to, by the program. Of int64s. -/
import Derived.Test.YtjnpcfpecilejaaGreatDoorZe
import Derived.Test.YtjnpcfpecilejaaGreatDoorZo
import Derived.Test.YtjnpcfpecilejaaGreatDoorZd
import Derived.Test.YtjnpcfpecilejaaGreatDoorZg
set_option linter.unusedVariables false
set_option linter.unusedSimpArgs false
set_option linter.unusedSectionVars false
namespace Go.Proofs.YtjnpcfpecilejaaGreatDoor
open Go.Proofs.Tryz
open Go.Proofs Go.Lib Go.Shelf Go.RowKit
theorem ps82_1 : PlacesS Tryz.prog 82 111 1 1 [.raw (.slice none 0 0)] := ⟨_, underlying82, sizeOf111, zeroValue111, by decide, by decide, by kernel_rfl⟩
variable {E : World}
set_option maxRecDepth 20000
def outC (rows : List (List Bool)) : List AV := (rows.map fun r => [AV.fro 1 (r.map encB)]).flatten
theorem outC_push (rows : List (List Bool)) (r : List Bool) : outC rows ++ [AV.fro 1 (r.map encB)] = outC (rows ++ [r]) := by unfold outC; simp
theorem outC_len (rows : List (List Bool)) : (outC rows).length = rows.length := by unfold outC; induction rows with
 | nil => rfl
 | cons r rows ih => simp only [List.map_cons, List.flatten_cons, List.length_append, ih, List.length_cons, List.length_nil]; omega
def froB (rows : List (List Bool)) : AV := .fro 1 (rows.map fun r => [AV.fro 1 (r.map encB)])
set_option maxHeartbeats 4000000 in
theorem refTable_spec (f : PFunc) (hE : EndsOk f) (hn : f.blocks.length ≤ 1000) : AFun Tryz.prog E 42 [.agg (encF f)] (froB (tabR f)) := by
 have hG := hE.grph
 refine zy func42 rfl (by decide) rfl<|za<|z7 rfl<|yc (cs := _) rfl rfl rfl<|z2 (zd (v := .raw _) rfl)<|z6<|za<|z7 rfl<|z2 (zo isAgg26 sizeOf26 rfl rfl)<|zh (reached_spec f hE hn (-1)) rfl<|z2 (zd (v := .fro _ _) rfl)<|z6<|za<|z7 rfl<|z2 (zd (v := .raw _) rfl)<|z6<|za<|za<|z7 rfl<|z2 (zg underlying26 rfl sizeOf24 (by decide) rfl rfl)<|z2 (zf (c := .fro _ _) isAgg24 rfl)<|z2 (yd underlying24 rfl)<|z2 (zc (v := .int _ _) rfl)<|z6<|adopt_wp (t := 4) (k := 1) (T := 111) rfl<|fun i4 => zq<|yh (γ := Nat × Nat) [1, 3, 13] (fun g => [(14, .int .i64 g.1), (4, .own g.2 g.1)]) (fun g => [(g.2, .grow 1 111 (outC ((tabR f).take g.1)))]) (fun g => g.1 ≤ f.blocks.length) (fun g => f.blocks.length - g.1) (0, i4) ⟨rfl, rfl, trivial⟩ ⟨_, (.refl _), rfl⟩ (Nat.zero_le _) ?_
 rintro ⟨k, io⟩ hk
 try dsimp only at *
 refine za<|z7 rfl<|z2 (yj rfl rfl)<|z6<|za<|zt rfl (fun ck => ?_) (fun ck => ?_)
 ·have hk2 : k < f.blocks.length := by simp at ck; omega
  have hgk := reach_gb (EndsOf f) hk2 (-1)
  refine zk<|za<|zq<|za<|z7 rfl<|z2 (zc (v := .int _ _) rfl)<|z2 (zd (v := .int _ _) rfl)<|z6<|za<|z7 rfl<|z2 (zg underlying26 rfl sizeOf24 (by decide) rfl rfl)<|z2 (zf (c := .fro _ _) isAgg24 rfl)<|z2 (yd underlying24 rfl)<|AOps.makeB (m := f.blocks.length) underlying111 Tryz.type4 rfl rfl rfl rfl rfl (by simp) (by simp) (by show (1 : Int) * _ ≤ _; omega) (by omega)<|fun i20 => z2 (zd (v := .own _ _) rfl)<|z6<|za<|za<|z7 rfl<|z2 (zc (v := .fro _ _) rfl)<|z2 (zc (v := .int _ _) rfl)<|z2 (y7 (j := k) underlying111 sizeOf4 rfl rfl rfl hgk)<|z2 (zf (c := .bool _) isAgg4 rfl)<|z6<|yq (γ := Nat) [1, 3, 4, 13, 14] (fun q => [(6, .own q f.blocks.length)]) (fun q => [(q, .grow 1 4 (cB (rowR f k))), (io, .grow 1 111 (outC ((tabR f).take k)))]) (fun q => True) ?_ (fun _ _ h => h) ?_
  ·refine y8 rfl (fun cr => ?_) (fun cr => ?_)
   ·have hra : gb (reachT (EndsOf f) f.blocks.length (-1)) (k : Int) = true := cr
    refine za<|z7 rfl<|z2 (zo isAgg26 sizeOf26 rfl rfl)<|z2 (zc (v := .int _ _) rfl)<|zh (reached_spec f hE hn (k : Int)) rfl<|z2 (zd (v := .fro _ _) rfl)<|z6<|za<|z7 rfl<|z2 (zc (v := .own _ _) rfl)<|z2 (Gv.lenO underlying111 rfl)<|z2 (zc (v := .int _ _) rfl)<|z6<|zq<|yh (γ := Nat) [1, 3, 4, 5, 6, 7, 13, 14, 29] (fun j => [(30, .int .i64 j)]) (fun j => [(i20, .grow 1 4 (cB (rowTo f k j))), (io, .grow 1 111 (outC ((tabR f).take k)))]) (fun j => j ≤ f.blocks.length) (fun j => f.blocks.length - j) 0 ⟨rfl, trivial⟩ ⟨_, (.refl _), by rw [← rowTo_zero]⟩ (Nat.zero_le _) ?_
    rintro j hj
    refine za<|z7 rfl<|z2 (yj rfl rfl)<|z6<|za<|zt rfl (fun cj => ?_) (fun cj => ?_)
    ·have hj2 : j < f.blocks.length := by simp at cj; omega
     have hgj := reach_gb (EndsOf f) hj2 (-1)
     have hgl := reach_gb (EndsOf f) hj2 (k : Int)
     have hcell := dom_cell hG hk2 hj2 hra
     refine zk<|za<|zq<|za<|z7 rfl<|z2 (zc (v := .int _ _) rfl)<|z2 (zd (v := .int _ _) rfl)<|z6<|z7 rfl<|z2 (zc (v := .own _ _) rfl)<|z2 (zc (v := .int _ _) rfl)<|z2 (zc (v := .fro _ _) rfl)<|z2 (zc (v := .int _ _) rfl)<|z2 (y7 (j := j) underlying111 sizeOf4 rfl rfl rfl hgj)<|z2 (zf (c := .bool _) isAgg4 rfl)<|z2 (zc (v := .bool _) rfl)<|zz (s := 39) rfl (fun c1 => ?_) (fun c1 => ?_)
     ·have d1 : gb (reachT (EndsOf f) f.blocks.length (-1)) (j : Int) = true := c1
      refine zb rfl rfl c1<|z2 (zc (v := .int _ _) rfl)<|zb rfl rfl c1<|z2 (zc (v := .int _ _) rfl)<|zb rfl rfl c1<|z2 (y6 rfl rfl)<|zb rfl rfl c1<|z2 (zc (v := .bool _) rfl)<|zz (s := 43) rfl (fun c2 => ?_) (fun c2 => ?_)
      ·refine z8 rfl rfl c2<|z8 rfl rfl c2<|z8 rfl rfl c2<|z8 rfl rfl c2<|z8 rfl rfl c2<|zb rfl rfl c1<|z2 (zu (v := .bool _) rfl c2 rfl)<|z2 (zu (v := .bool _) rfl c1 rfl)<|z2 (q9 (j := j) underlying111 sizeOf4 rfl rfl rfl ⟨_, .head⟩ (by rw [cB_len, rowTo_len]) hj2)<|AOps.storeB (j := j) sizeOf4 rfl rfl .head (by rw [rowTo_len]; exact hj2)<|z6<|z7 rfl<|z2 (yi rfl rfl (by unfold I64; omega))<|z2 (zc (v := .int _ _) rfl)<|z6 ?_
       exact ⟨j + 1, ⟨rfl, rfl, rfl, rfl, rfl, rfl, rfl, rfl, rfl, trivial⟩, ⟨rfl, trivial⟩, ⟨_, (.refl _), by rw [← rowTo_succ, ← hcell, d1, show decide ((k : Int) = (j : Int)) = true from c2]; rfl⟩, hj2, by omega⟩
      ·refine zb rfl rfl c2<|z2 (zc (v := .fro _ _) rfl)<|zb rfl rfl c2<|z2 (zc (v := .int _ _) rfl)<|zb rfl rfl c2<|z2 (y7 (j := j) underlying111 sizeOf4 rfl rfl rfl hgl)<|zb rfl rfl c2<|z2 (zf (c := .bool _) isAgg4 rfl)<|zb rfl rfl c2<|z2 (yt rfl)<|zb rfl rfl c1<|z2 (zw (v := .bool _) rfl c2 rfl)<|z2 (zu (v := .bool _) rfl c1 rfl)<|z2 (q9 (j := j) underlying111 sizeOf4 rfl rfl rfl ⟨_, .head⟩ (by rw [cB_len, rowTo_len]) hj2)<|AOps.storeB (j := j) sizeOf4 rfl rfl .head (by rw [rowTo_len]; exact hj2)<|z6<|z7 rfl<|z2 (yi rfl rfl (by unfold I64; omega))<|z2 (zc (v := .int _ _) rfl)<|z6 ?_
       exact ⟨j + 1, ⟨rfl, rfl, rfl, rfl, rfl, rfl, rfl, rfl, rfl, trivial⟩, ⟨rfl, trivial⟩, ⟨_, (.refl _), by rw [← rowTo_succ, ← hcell, d1, show decide ((k : Int) = (j : Int)) = false from c2]; rfl⟩, hj2, by omega⟩
     ·have d1 : gb (reachT (EndsOf f) f.blocks.length (-1)) (j : Int) = false := c1
      refine z8 rfl rfl c1<|z8 rfl rfl c1<|z8 rfl rfl c1<|z8 rfl rfl c1<|zm rfl rfl<|zm rfl rfl<|zm rfl rfl<|zm rfl rfl<|zm rfl rfl<|z8 rfl rfl c1<|z2 (zw (v := .bool _) rfl c1 rfl)<|z2 (q9 (j := j) underlying111 sizeOf4 rfl rfl rfl ⟨_, .head⟩ (by rw [cB_len, rowTo_len]) hj2)<|AOps.storeB (j := j) sizeOf4 rfl rfl .head (by rw [rowTo_len]; exact hj2)<|z6<|z7 rfl<|z2 (yi rfl rfl (by unfold I64; omega))<|z2 (zc (v := .int _ _) rfl)<|z6 ?_
      exact ⟨j + 1, ⟨rfl, rfl, rfl, rfl, rfl, rfl, rfl, rfl, rfl, trivial⟩, ⟨rfl, trivial⟩, ⟨_, (.refl _), by rw [← rowTo_succ, ← hcell, d1]; rfl⟩, hj2, by omega⟩
    ·have hjn : j = f.blocks.length := by simp at cj; omega
     refine yg ?_
     exact ⟨i20, ⟨rfl, rfl, rfl, rfl, rfl, trivial⟩, ⟨rfl, trivial⟩, ⟨_, (.refl _), by rw [hjn, rowTo_all]⟩, trivial⟩
   ·have hra : gb (reachT (EndsOf f) f.blocks.length (-1)) (k : Int) = false := cr
    refine zk ?_
    exact ⟨i20, ⟨rfl, rfl, rfl, rfl, rfl, trivial⟩, ⟨rfl, trivial⟩, ⟨_, (.refl _), by rw [← row_none hG hk2 hra, ← rowTo_zero]⟩, trivial⟩
  ·rintro q _
   refine yw (GStep.knowB (t := 6) rfl .head (rowR_len _ _))<|z7 rfl<|z2 (zc (v := .own _ _) rfl)<|z2 (zc (v := .fro _ _) rfl)<|yf (rows := [[_]]) ps82_1 rfl rfl rfl rfl rfl<|q8 (k := 1) underlying82 Tryz.type111 rfl rfl rfl rfl rfl (fun _ => .head) (by rw [outC_len, List.length_take, tabR_len]; omega) (by decide) rfl (by show (_ + 1) * 24 ≤ _; omega) (by show _ + 1 ≤ _; omega)<|fun i56 => z2 (zd (v := .own _ _) rfl)<|z6<|z7 rfl<|z2 (yi rfl rfl (by unfold I64; omega))<|z2 (zc (v := .int _ _) rfl)<|z6 ?_
   exact ⟨(k + 1, i56), ⟨rfl, rfl, rfl, trivial⟩, ⟨rfl, rfl, trivial⟩, ⟨_, (.refl _), by rw [tabR_take hk2, ← outC_push]; rfl⟩, hk2, by dsimp only; omega⟩
 ·have hkn : k = f.blocks.length := by simp at ck; omega
  subst hkn
  rw [show f.blocks.length = (tabR f).length from (tabR_len f).symm, List.take_length, tabR_len]
  refine yg<|za<|z7 rfl<|z2 (zc (v := .own _ _) rfl)<|z2 (zd (v := .own _ _) rfl)<|z6<|zj ?_
  repeat (first | refine aseqQ_ret ?_ | refine ablockQ_ret ?_)
  refine GStep.fin (GStep.know (t := 2) (rows := (tabR f).map fun r => [AV.fro 1 (r.map encB)]) rfl .head (by (intro r hr; obtain ⟨x, _, rfl⟩ := List.mem_map.1 hr; rfl)) (by decide) (by (rw [List.length_map]; exact tabR_len f)))<|zx (x := .fro _ _) rfl ?_
  rfl
theorem refIs_spec (x : PInst) (op : Int) (args : List Int) (hx : x.args.length ≤ 100000) (ha : args.length ≤ 100000) : AFun Tryz.prog E 19 [.agg (encInst x), .int .i64 op, .fro 1 (args.map encI)] (.bool (decide (x.op = op) && decide (x.args = args))) := by
 refine zy func19 rfl (by decide) rfl<|za<|z7 rfl<|yc (cs := _) rfl rfl rfl<|z2 (zd (v := .bool _) rfl)<|z6<|za<|za<|yq (γ := Bool) [2, 3] (fun u => [(19, .bool u)]) (fun u => []) (fun u => u = !(decide (x.op = op) && decide (x.args.length = args.length))) ?_ (fun _ _ h => h) ?_
 ·refine z7 rfl<|z2 (zg underlying33 rfl sizeOf31 (by decide) rfl rfl)<|z2 (zf (c := .int _ _) isAgg31 rfl)<|z2 (zc (v := .int _ _) rfl)<|z2 (yx rfl rfl)<|z2 (zc (v := .bool _) rfl)<|zz (s := 12) rfl (fun c1 => ?_) (fun c1 => ?_)
  ·refine z8 rfl rfl c1<|z8 rfl rfl c1<|z8 rfl rfl c1<|z8 rfl rfl c1<|z8 rfl rfl c1<|z8 rfl rfl c1<|z2 (zu (v := .bool _) rfl c1 rfl)<|z6 ?_
   exact ⟨_, ⟨rfl, rfl, trivial⟩, ⟨rfl, trivial⟩, ⟨_, (.refl _), rfl⟩, by simp_all <;> omega⟩
  ·refine zb rfl rfl c1<|z2 (zg underlying33 rfl sizeOf23 (by decide) rfl rfl)<|zb rfl rfl c1<|z2 (zf (c := .fro _ _) isAgg23 rfl)<|zb rfl rfl c1<|z2 (yd underlying23 rfl)<|zb rfl rfl c1<|z2 (zc (v := .fro _ _) rfl)<|zb rfl rfl c1<|z2 (yd underlying23 rfl)<|zb rfl rfl c1<|z2 (yx rfl rfl)<|z2 (zw (v := .bool _) rfl c1 rfl)<|z6 ?_
   exact ⟨_, ⟨rfl, rfl, trivial⟩, ⟨rfl, trivial⟩, ⟨_, (.refl _), rfl⟩, by simp_all <;> omega⟩
 ·rintro u hu
  subst hu
  refine y8 rfl (fun c0 => ?_) (fun c0 => ?_)
  ·have h0 : (decide (x.op = op) && decide (x.args.length = args.length)) = false := by rwa [Bool.not_eq_true'] at c0
   refine za<|z7 rfl<|z2 (zd (v := .bool _) rfl)<|z6<|zj<|zx (x := .bool _) rfl ?_
   exact jb (by
    rcases Bool.and_eq_false_iff.1 h0 with h | h
    ·rw [h]; rfl
    ·rw [decide_eq_false (p := x.args = args) (fun e => absurd (congrArg List.length e) (of_decide_eq_false h)), Bool.and_false])
  ·have h0 : (decide (x.op = op) && decide (x.args.length = args.length)) = true := by simpa using c0
   have h1 : x.op = op := by rw [Bool.and_eq_true, decide_eq_true_eq, decide_eq_true_eq] at h0; exact h0.1
   have h2 : x.args.length = args.length := by rw [Bool.and_eq_true, decide_eq_true_eq, decide_eq_true_eq] at h0; exact h0.2
   refine zk<|za<|za<|z7 rfl<|z2 (zc (v := .fro _ _) rfl)<|z2 (yd underlying23 rfl)<|z2 (zc (v := .int _ _) rfl)<|z6<|zq<|yh (γ := Nat) [2, 3, 21] (fun k => [(22, .int .i64 k)]) (fun k => []) (fun k => k ≤ args.length ∧ x.args.take k = args.take k) (fun k => args.length - k) 0 ⟨rfl, trivial⟩ ⟨_, (.refl _), rfl⟩ (⟨Nat.zero_le _, rfl⟩) ?_
   rintro k ⟨hk, hall⟩
   refine za<|z7 rfl<|z2 (yj rfl rfl)<|z6<|za<|zt rfl (fun ck => ?_) (fun ck => ?_)
   ·have hk2 : k < args.length := by simp at ck; omega
    have hk3 : k < x.args.length := by omega
    refine zk<|za<|zq<|za<|z7 rfl<|z2 (zc (v := .int _ _) rfl)<|z2 (zd (v := .int _ _) rfl)<|z6<|za<|yb (fun j => false) (by kernel_rfl) rfl (y4 (.rest _))<|ze (i := 0) rfl (by kernel_rfl) (zg underlying33 rfl sizeOf23 (by decide) rfl rfl)<|ze (i := 1) rfl (by kernel_rfl) (zf (c := .fro _ _) isAgg23 rfl)<|ze (i := 2) rfl (by kernel_rfl) (zc (v := .int _ _) rfl)<|ze (i := 3) rfl (by kernel_rfl) (y7 (j := k) underlying23 sizeOf3 rfl rfl rfl (List.getElem?_eq_getElem hk3)) ?_
    refine ze (i := 4) rfl (by kernel_rfl) (zf (c := .int _ _) isAgg3 rfl)<|ze (i := 5) rfl (by kernel_rfl) (zc (v := .fro _ _) rfl)<|ze (i := 6) rfl (by kernel_rfl) (zc (v := .int _ _) rfl)<|ze (i := 7) rfl (by kernel_rfl) (y7 (j := k) underlying23 sizeOf3 rfl rfl rfl (List.getElem?_eq_getElem hk2)) ?_
    refine ze (i := 8) rfl (by kernel_rfl) (zf (c := .int _ _) isAgg3 rfl)<|ze (i := 9) rfl (by kernel_rfl) (yx rfl rfl)<|ya (by kernel_rfl)<|y8 rfl (fun cn => ?_) (fun cn => ?_)
    ·have hne : ¬ x.args[k] = args[k] := by simpa using cn
     refine za<|z7 rfl<|z2 (zd (v := .bool _) rfl)<|z6<|zj<|zx (x := .bool _) rfl ?_
     exact jb (by rw [decide_eq_false (p := x.args = args) (fun e => hne (by simp only [e])), Bool.and_false])
    ·have heq : x.args[k] = args[k] := by simpa using cn
     refine zk<|z7 rfl<|z2 (yi rfl rfl (by unfold I64; omega))<|z2 (zc (v := .int _ _) rfl)<|z6 ?_
     exact ⟨k + 1, ⟨rfl, rfl, rfl, trivial⟩, ⟨rfl, trivial⟩, ⟨_, (.refl _), rfl⟩, ⟨hk2, by rw [List.take_succ_eq_append_getElem hk3, List.take_succ_eq_append_getElem hk2, hall, heq]⟩, by omega⟩
   ·have hkn : k = args.length := by simp at ck; omega
    have he : x.args = args := by rw [hkn, List.take_length, ← h2, List.take_length] at hall; exact hall
    refine yg<|za<|z7 rfl<|z2 (zd (v := .bool _) rfl)<|z6<|zj<|zx (x := .bool _) rfl ?_
    exact jb (by rw [decide_eq_true h1, decide_eq_true he]; rfl)
set_option maxHeartbeats 4000000 in
theorem refChecked_spec (f : PFunc) (hf : small f) (x : PInst) (hx : x.args.length ≤ 1000) (block : Nat) (at_ : Int) (hb : block < f.blocks.length) : AFun Tryz.prog E 78 [.agg (encF f), froB (tabR f), .agg (encInst x), .int .i64 block, .int .i64 at_] (.bool (chkX f x block at_)) := by
 have hn := hf.2.2.1
 refine zy func78 rfl (by decide) rfl<|za<|z7 rfl<|yc (cs := _) rfl rfl rfl<|yc (cs := _) rfl rfl rfl<|z2 (zd (v := .bool _) rfl)<|z6<|za<|z7 rfl<|z2 (zd (v := .int _ _) rfl)<|z6<|za<|za<|z7 rfl<|z2 (zg underlying33 rfl sizeOf31 (by decide) rfl rfl)<|z2 (zf (c := .int _ _) isAgg31 rfl)<|z6 ?_
 by_cases hs : isSum x.op = true
 ·have hs3 : x.op = 2 ∨ x.op = 3 ∨ x.op = 4 := by simpa [isSum] using hs
  rw [chkX, hs, Bool.true_and]
  refine yq (γ := Int) [1, 3, 4, 5, 7] (fun op => [(11, .int .i64 op)]) (fun op => []) (fun op => op = x.op + 19) ?_ (fun _ _ h => h) ?_
  ·refine zq<|za<|z7 rfl<|z2 (y6 rfl rfl)<|z2 (zd (v := .bool _) rfl)<|z6<|zt rfl (fun c2 => ?_) (fun c2 => ?_)
   ·refine z7 rfl<|z2 (zd (v := .int _ _) rfl)<|z6 ?_
    exact ⟨_, ⟨rfl, rfl, rfl, rfl, rfl, trivial⟩, ⟨rfl, trivial⟩, ⟨_, (.refl _), rfl⟩, by omega⟩
   ·refine za<|z7 rfl<|z2 (y6 rfl rfl)<|z2 (zd (v := .bool _) rfl)<|z6<|zt rfl (fun c3 => ?_) (fun c3 => ?_)
    ·refine z7 rfl<|z2 (zd (v := .int _ _) rfl)<|z6 ?_
     exact ⟨_, ⟨rfl, rfl, rfl, rfl, rfl, trivial⟩, ⟨rfl, trivial⟩, ⟨_, (.refl _), rfl⟩, by omega⟩
    ·refine za<|z7 rfl<|z2 (y6 rfl rfl)<|z2 (zd (v := .bool _) rfl)<|z6<|zt rfl (fun c4 => ?_) (fun c4 => ?_)
     ·refine z7 rfl<|z2 (zd (v := .int _ _) rfl)<|z6 ?_
      exact ⟨_, ⟨rfl, rfl, rfl, rfl, rfl, trivial⟩, ⟨rfl, trivial⟩, ⟨_, (.refl _), rfl⟩, by omega⟩
     ·exfalso; omega
  ·rintro op hop
   subst hop
   refine za<|za<|z7 rfl<|z2 (zg underlying26 rfl sizeOf24 (by decide) rfl rfl)<|z2 (zf (c := .fro _ _) isAgg24 rfl)<|z2 (yd underlying24 rfl)<|z2 (zc (v := .int _ _) rfl)<|z6<|zq<|yh (γ := Nat) [1, 3, 4, 7, 11, 25, 26] (fun i => [(27, .int .i64 i)]) (fun i => []) (fun i => i ≤ f.blocks.length ∧ (List.range i).any (chkI f (x.op + 19) x.args block at_) = false) (fun i => f.blocks.length - i) 0 ⟨rfl, trivial⟩ ⟨_, (.refl _), rfl⟩ (⟨Nat.zero_le _, rfl⟩) ?_
   rintro i ⟨hi, hiall⟩
   refine za<|z7 rfl<|z2 (yj rfl rfl)<|z6<|za<|zt rfl (fun ci => ?_) (fun ci => ?_)
   ·have hi2 : i < f.blocks.length := by simp at ci; omega
    obtain ⟨b, hbi⟩ : ∃ b, f.blocks[i] = b := ⟨_, rfl⟩
    have hget : f.blocks[i]? = some b := by rw [List.getElem?_eq_getElem hi2, hbi]
    obtain ⟨hb0, hb1, hb2, hb3, hb4⟩ := hf.2.2.2.2 b (hbi ▸ List.getElem_mem hi2)
    refine zk<|za<|zq<|za<|z7 rfl<|z2 (zc (v := .int _ _) rfl)<|z2 (y7 (j := i) underlying24 sizeOf66 rfl rfl rfl hget)<|z2 (zo isAgg66 sizeOf66 rfl rfl)<|y1 (cs := [.str ⟨#[]⟩, .raw (.slice none 0 0), .raw (.slice none 0 0), .int .i64 0, .int .i64 0, .int .i64 0, .int .i64 0]) zeroValue66 rfl rfl<|fun i13 => z2 (zd (v := .int _ _) rfl)<|zi sizeOf66 rfl rfl rfl rfl rfl rfl .head rfl<|zn (yp (t := 13) rfl .head)<|z6<|za<|z7 rfl<|z2 (zg underlying66 rfl sizeOf60 (by decide) rfl rfl)<|z2 (zf (c := .fro _ _) isAgg60 rfl)<|z2 (yd underlying60 rfl)<|z2 (zc (v := .int _ _) rfl)<|z6<|zq<|yh (γ := Nat) [1, 3, 4, 7, 11, 12, 25, 26, 27, 33, 34] (fun k => [(35, .int .i64 k)]) (fun k => []) (fun k => k ≤ b.insts.length ∧ (b.insts.zipIdx.take k).any (chkQ f (x.op + 19) x.args i block at_) = false) (fun k => b.insts.length - k) 0 ⟨rfl, trivial⟩ ⟨_, (.refl _), rfl⟩ (⟨Nat.zero_le _, rfl⟩) ?_
    rintro k ⟨hk, hkall⟩
    refine za<|z7 rfl<|z2 (yj rfl rfl)<|z6<|za<|zt rfl (fun ck => ?_) (fun ck => ?_)
    ·have hk2 : k < b.insts.length := by simp at ck; omega
     obtain ⟨z, hz⟩ : ∃ z, b.insts[k] = z := ⟨_, rfl⟩
     have hzl := hb4 z (hz ▸ List.getElem_mem hk2)
     have hzi : k < b.insts.zipIdx.length := by simp; exact hk2
     have hze : b.insts.zipIdx[k] = (z, k) := by simp [hz]
     have hah : ∀ r, aheadB f ((i : Int), (k : Int)) block at_ = r → chkQ f (x.op + 19) x.args i block at_ b.insts.zipIdx[k] = (decide (z.op = x.op + 19) && decide (z.args = x.args) && r) := fun r h => by rw [hze]; unfold chkQ; rw [h]
     have hab : aheadB f ((i : Int), (k : Int)) block at_ = if (i : Int) = (block : Int) then decide ((k : Int) < at_) else domB (EndsOf f) f.blocks.length i block := by unfold aheadB; rw [if_neg (by dsimp only; omega)]
     refine zk<|za<|zq<|za<|z7 rfl<|z2 (zc (v := .int _ _) rfl)<|z2 (y7 (j := k) underlying60 sizeOf33 rfl rfl rfl (by rw [List.getElem?_eq_getElem hk2, hz])) ?_
     refine z2 (zo isAgg33 sizeOf33 rfl rfl)<|y1 (cs := [.int .i64 0, .int .i64 0, .raw (.slice none 0 0), .int .i64 0]) zeroValue33 rfl rfl<|fun i15 => z2 (zd (v := .int _ _) rfl)<|zi sizeOf33 rfl rfl rfl rfl rfl rfl .head rfl<|zn (yp (t := 15) rfl .head)<|z6<|za<|yq (γ := Bool) [1, 3, 4, 7, 11, 12, 25, 26, 27, 33, 34, 35] (fun u => [(68, .bool u)]) (fun u => []) (fun u => u = chkQ f (x.op + 19) x.args i block at_ b.insts.zipIdx[k]) ?_ (fun _ _ h => h) ?_
     ·refine z7 rfl<|z2 (zo isAgg33 sizeOf33 rfl rfl)<|z2 (zc (v := .int _ _) rfl)<|z2 (zg underlying33 rfl sizeOf23 (by decide) rfl rfl)<|z2 (zf (c := .fro _ _) isAgg23 rfl)<|zh (refIs_spec z (x.op + 19) x.args (by omega) (by omega)) rfl<|z2 (zc (v := .bool _) rfl)<|zz (s := 45) rfl (fun c2 => ?_) (fun c2 => ?_)
      ·refine zb rfl rfl c2<|z2 (zc (v := .int _ _) rfl)<|zb rfl rfl c2<|z2 (zc (v := .int _ _) rfl)<|zb rfl rfl c2<|z2 (y6 rfl rfl)<|zb rfl rfl c2<|z2 (zc (v := .bool _) rfl)<|zz (s := 49) rfl (fun c3 => ?_) (fun c3 => ?_)
       ·refine zb rfl rfl c3<|z2 (zc (v := .int _ _) rfl)<|zb rfl rfl c3<|z2 (zc (v := .int _ _) rfl)<|zb rfl rfl c3<|z2 (yj rfl rfl)<|zb rfl rfl c2<|z2 (zu (v := .bool _) rfl c3 rfl)<|zb rfl rfl c2<|z2 (zc (v := .bool _) rfl)<|zz (s := 54) rfl (fun c4 => ?_) (fun c4 => ?_)
        ·refine z8 rfl rfl c4<|z8 rfl rfl c4<|z8 rfl rfl c4<|z8 rfl rfl c4<|zm rfl rfl<|zm rfl rfl<|zm rfl rfl<|zm rfl rfl<|zm rfl rfl<|zm rfl rfl<|zm rfl rfl<|z8 rfl rfl c4<|zb rfl rfl c2<|z2 (zu (v := .bool _) rfl c4 rfl)<|z2 (zu (v := .bool _) rfl c2 rfl)<|z6 ?_
         exact ⟨_, ⟨rfl, rfl, rfl, rfl, rfl, rfl, rfl, rfl, rfl, rfl, rfl, rfl, trivial⟩, ⟨rfl, trivial⟩, ⟨_, (.refl _), rfl⟩, by rw [hah _ hab]; by_cases h9 : (i : Int) = (block : Int) <;> simp_all⟩
        ·refine zb rfl rfl c4<|z2 (zc (v := .int _ _) rfl)<|zb rfl rfl c4<|z2 (zc (v := .int _ _) rfl)<|zb rfl rfl c4<|z2 (yx rfl rfl)<|zb rfl rfl c4<|z2 (zc (v := .bool _) rfl)<|zz (s := 58) rfl (fun c5 => ?_) (fun c5 => ?_)
         ·refine zb rfl rfl c5<|z2 (zc (v := .fro _ _) rfl)<|zb rfl rfl c5<|z2 (zc (v := .int _ _) rfl)<|zb rfl rfl c5<|z2 (y7 (j := i) underlying82 sizeOf111 rfl rfl rfl (tabR_get hi2))<|zb rfl rfl c5<|z2 (zf (c := .fro _ _) isAgg111 rfl)<|zb rfl rfl c5<|z2 (zc (v := .int _ _) rfl)<|zb rfl rfl c5<|z2 (y7 (j := block) underlying111 sizeOf4 rfl rfl rfl (rowR_get hb))<|zb rfl rfl c5<|z2 (zf (c := .bool _) isAgg4 rfl)<|zb rfl rfl c4<|z2 (zu (v := .bool _) rfl c5 rfl)<|zb rfl rfl c2<|z2 (zw (v := .bool _) rfl c4 rfl)<|z2 (zu (v := .bool _) rfl c2 rfl)<|z6 ?_
          exact ⟨_, ⟨rfl, rfl, rfl, rfl, rfl, rfl, rfl, rfl, rfl, rfl, rfl, rfl, trivial⟩, ⟨rfl, trivial⟩, ⟨_, (.refl _), rfl⟩, by rw [hah _ hab]; by_cases h9 : (i : Int) = (block : Int) <;> simp_all⟩
         ·refine z8 rfl rfl c5<|z8 rfl rfl c5<|z8 rfl rfl c5<|z8 rfl rfl c5<|z8 rfl rfl c5<|z8 rfl rfl c5<|z8 rfl rfl c5<|zb rfl rfl c4<|z2 (zw (v := .bool _) rfl c5 rfl)<|zb rfl rfl c2<|z2 (zw (v := .bool _) rfl c4 rfl)<|z2 (zu (v := .bool _) rfl c2 rfl)<|z6 ?_
          exact ⟨_, ⟨rfl, rfl, rfl, rfl, rfl, rfl, rfl, rfl, rfl, rfl, rfl, rfl, trivial⟩, ⟨rfl, trivial⟩, ⟨_, (.refl _), rfl⟩, by rw [hah _ hab]; by_cases h9 : (i : Int) = (block : Int) <;> simp_all⟩
       ·refine z8 rfl rfl c3<|z8 rfl rfl c3<|z8 rfl rfl c3<|zb rfl rfl c2<|z2 (zw (v := .bool _) rfl c3 rfl)<|zb rfl rfl c2<|z2 (zc (v := .bool _) rfl)<|zb rfl rfl rfl<|z2 (zc (v := .int _ _) rfl)<|zb rfl rfl rfl<|z2 (zc (v := .int _ _) rfl)<|zb rfl rfl rfl<|z2 (yx rfl rfl)<|zb rfl rfl rfl<|z2 (zc (v := .bool _) rfl)<|zz (s := 58) rfl (fun c6 => ?_) (fun c6 => ?_)
        ·refine zb rfl rfl c6<|z2 (zc (v := .fro _ _) rfl)<|zb rfl rfl c6<|z2 (zc (v := .int _ _) rfl)<|zb rfl rfl c6<|z2 (y7 (j := i) underlying82 sizeOf111 rfl rfl rfl (tabR_get hi2))<|zb rfl rfl c6<|z2 (zf (c := .fro _ _) isAgg111 rfl)<|zb rfl rfl c6<|z2 (zc (v := .int _ _) rfl)<|zb rfl rfl c6<|z2 (y7 (j := block) underlying111 sizeOf4 rfl rfl rfl (rowR_get hb))<|zb rfl rfl c6<|z2 (zf (c := .bool _) isAgg4 rfl)<|zb rfl rfl rfl<|z2 (zu (v := .bool _) rfl c6 rfl)<|zb rfl rfl c2<|z2 (zw (v := .bool _) rfl rfl rfl)<|z2 (zu (v := .bool _) rfl c2 rfl)<|z6 ?_
         exact ⟨_, ⟨rfl, rfl, rfl, rfl, rfl, rfl, rfl, rfl, rfl, rfl, rfl, rfl, trivial⟩, ⟨rfl, trivial⟩, ⟨_, (.refl _), rfl⟩, by rw [hah _ hab]; by_cases h9 : (i : Int) = (block : Int) <;> simp_all⟩
        ·refine z8 rfl rfl c6<|z8 rfl rfl c6<|z8 rfl rfl c6<|z8 rfl rfl c6<|z8 rfl rfl c6<|z8 rfl rfl c6<|z8 rfl rfl c6<|zb rfl rfl rfl<|z2 (zw (v := .bool _) rfl c6 rfl)<|zb rfl rfl c2<|z2 (zw (v := .bool _) rfl rfl rfl)<|z2 (zu (v := .bool _) rfl c2 rfl)<|z6 ?_
         exact ⟨_, ⟨rfl, rfl, rfl, rfl, rfl, rfl, rfl, rfl, rfl, rfl, rfl, rfl, trivial⟩, ⟨rfl, trivial⟩, ⟨_, (.refl _), rfl⟩, by rw [hah _ hab]; by_cases h9 : (i : Int) = (block : Int) <;> simp_all⟩
      ·refine z8 rfl rfl c2<|z8 rfl rfl c2<|z8 rfl rfl c2<|z8 rfl rfl c2<|zm rfl rfl<|zm rfl rfl<|zm rfl rfl<|z8 rfl rfl c2<|z8 rfl rfl c2<|zm rfl rfl<|zm rfl rfl<|zm rfl rfl<|zm rfl rfl<|zm rfl rfl<|zm rfl rfl<|zm rfl rfl<|zm rfl rfl<|zm rfl rfl<|zm rfl rfl<|zm rfl rfl<|zm rfl rfl<|z8 rfl rfl c2<|z2 (zw (v := .bool _) rfl c2 rfl)<|z6 ?_
       exact ⟨_, ⟨rfl, rfl, rfl, rfl, rfl, rfl, rfl, rfl, rfl, rfl, rfl, rfl, trivial⟩, ⟨rfl, trivial⟩, ⟨_, (.refl _), rfl⟩, by rw [hah _ hab]; by_cases h9 : (i : Int) = (block : Int) <;> simp_all⟩
     ·rintro u hu
      subst hu
      refine y8 rfl (fun cq => ?_) (fun cq => ?_)
      ·refine za<|z7 rfl<|z2 (zd (v := .bool _) rfl)<|z6<|zj<|zx (x := .bool _) rfl ?_
       exact jb (range_any_hit hi2 (by rw [chkI_at hget]; exact any_hit hzi cq)).symm
      ·refine zk<|z7 rfl<|z2 (yi rfl rfl (by unfold I64; omega))<|z2 (zc (v := .int _ _) rfl)<|z6 ?_
       exact ⟨k + 1, ⟨rfl, rfl, rfl, rfl, rfl, rfl, rfl, rfl, rfl, rfl, rfl, trivial⟩, ⟨rfl, trivial⟩, ⟨_, (.refl _), rfl⟩, ⟨hk2, any_take hzi hkall (by simpa using cq)⟩, by omega⟩
    ·have hkn : k = b.insts.length := by simp at ck; omega
     rw [hkn, show b.insts.length = b.insts.zipIdx.length by simp, List.take_length] at hkall
     refine yg<|z7 rfl<|z2 (yi rfl rfl (by unfold I64; omega))<|z2 (zc (v := .int _ _) rfl)<|z6 ?_
     exact ⟨i + 1, ⟨rfl, rfl, rfl, rfl, rfl, rfl, rfl, trivial⟩, ⟨rfl, trivial⟩, ⟨_, (.refl _), rfl⟩, ⟨hi2, range_any_succ hiall (by rw [chkI_at hget]; exact hkall)⟩, by omega⟩
   ·have hin : i = f.blocks.length := by simp at ci; omega
    subst hin
    refine yg<|za<|z7 rfl<|z2 (zd (v := .bool _) rfl)<|z6<|zj<|zx (x := .bool _) rfl ?_
    exact jb hiall.symm
 ·have hs3 : ¬ (x.op = 2 ∨ x.op = 3 ∨ x.op = 4) := by simpa [isSum] using hs
  refine zq<|za<|z7 rfl<|z2 (y6 rfl rfl)<|z2 (zd (v := .bool _) rfl)<|z6<|zt rfl (fun c2 => ?_) (fun c2 => ?_)
  ·exfalso; omega
  ·refine za<|z7 rfl<|z2 (y6 rfl rfl)<|z2 (zd (v := .bool _) rfl)<|z6<|zt rfl (fun c3 => ?_) (fun c3 => ?_)
   ·exfalso; omega
   ·refine za<|z7 rfl<|z2 (y6 rfl rfl)<|z2 (zd (v := .bool _) rfl)<|z6<|zt rfl (fun c4 => ?_) (fun c4 => ?_)
    ·exfalso; omega
    ·refine za<|z7 rfl<|z2 (zd (v := .bool _) rfl)<|z6<|zj<|zx (x := .bool _) rfl ?_
     exact jb (by rw [chkX, Bool.eq_false_iff.2 hs]; rfl)
end Go.Proofs.YtjnpcfpecilejaaGreatDoor
namespace Go.Proofs.YtjnpcfpecilejaaGreatDoor
open Go.Proofs.Tryz
open Go.Proofs
theorem pl261 : Places Tryz.prog 261 #[(0, 2), (2, 1)] [.int .i64 0, .int .i64 0, .bool false] := ⟨_, _, underlying261, zeroValue261, fun w => by kernel_rfl, rfl⟩
theorem pl280 : PlacesA Tryz.prog 280 1 [.int .i64 0, .int .i64 0] := ⟨_, _, _, underlying280, zeroValue280, sizeOf2, rfl⟩
theorem pl283 : PlacesA Tryz.prog 283 2 [.int .i64 0, .int .i64 0, .int .i64 0, .int .i64 0] := ⟨_, _, _, underlying283, zeroValue283, sizeOf74, rfl⟩
variable {E : World}
set_option maxRecDepth 20000
theorem aMul {x y : Int} (hx : is64 x) (hy : is64 y) : AFun Tryz.prog E 237 [.int .i64 x, .int .i64 y] (.tup [.int .i64 (IntKind.i64.wrap (x * y)), .bool (decide (fit3 2 x y))]) := by
 rw [← mulB]
 refine zy func237 rfl (by decide) rfl<|za<|z7 rfl<|z2 (zd (v := .int _ _) rfl)<|z2 (zd (v := .bool _) rfl)<|z6<|za<|z7 rfl<|z2 (zc (v := .int _ _) rfl)<|zh (aAbs hx) rfl<|z2 (zc (v := .int _ _) rfl)<|zh (aAbs hy) rfl<|zh (mul64_spec _ _ (abs_lt hx) (abs_lt hy)) rfl<|z2 (zc (v := .tup _) rfl)<|z2 (yr (v := .int _ _) rfl rfl)<|z2 (yr (v := .int _ _) rfl rfl)<|z2 (zd (v := .int _ _) rfl)<|z2 (zd (v := .int _ _) rfl)<|z6<|za<|z7 rfl<|z2 (zd (v := .int _ _) rfl)<|z6<|za<|za<|z7 rfl<|z2 (zc (v := .int _ _) rfl)<|z2 (yj rfl rfl)<|z2 (zc (v := .int _ _) rfl)<|z2 (yj rfl rfl)<|z2 (Gv.neqB underlying4 rfl rfl)<|z6<|yq (γ := Int) [0, 1, 6, 7] (fun m => [(8, .int .u64 m)]) (fun m => []) (fun m => m = if (!(decide (x < 0) == decide (y < 0))) = true then 9223372036854775808 else 9223372036854775807) ?_ (fun _ _ h => h) ?_
 ·refine y8 rfl (fun c1 => ?_) (fun c1 => ?_)
  ·refine z7 rfl<|z2 (zc (v := .int _ _) rfl)<|z2 (Gv.addW rfl rfl)<|z2 (zd (v := .int _ _) rfl)<|z6 ?_
   exact ⟨_, ⟨rfl, rfl, rfl, rfl, trivial⟩, ⟨rfl, trivial⟩, ⟨_, (.refl _), rfl⟩, by simp_all <;> first | rfl | decide⟩
  ·refine zk ?_
   exact ⟨_, ⟨rfl, rfl, rfl, rfl, trivial⟩, ⟨rfl, trivial⟩, ⟨_, (.refl _), rfl⟩, by simp_all <;> first | rfl | decide⟩
 ·rintro m hm
  subst hm
  refine za<|z7 rfl<|z2 (zc (v := .int _ _) rfl)<|z2 (zc (v := .int _ _) rfl)<|z2 (Gv.mulW rfl rfl)<|z2 (zc (v := .int _ _) rfl)<|z2 (y6 rfl rfl)<|z2 (zc (v := .bool _) rfl)<|zz (s := 29) rfl (fun c2 => ?_) (fun c2 => ?_)
  ·refine zb rfl rfl c2<|z2 (zc (v := .int _ _) rfl)<|zb rfl rfl c2<|z2 (zc (v := .int _ _) rfl)<|zb rfl rfl c2<|z2 (Gv.leq rfl rfl)<|z2 (zu (v := .bool _) rfl c2 rfl)<|z2 (zd (v := .int _ _) rfl)<|z2 (zd (v := .bool _) rfl)<|z6<|zj<|qk (x := .int _ _) (y := .bool _) rfl rfl ?_
   simp_all
  ·refine z8 rfl rfl c2<|z8 rfl rfl c2<|z8 rfl rfl c2<|z2 (zw (v := .bool _) rfl c2 rfl)<|z2 (zd (v := .int _ _) rfl)<|z2 (zd (v := .bool _) rfl)<|z6<|zj<|qk (x := .int _ _) (y := .bool _) rfl rfl ?_
   simp_all
theorem hull_add (i : Nat) (h : Rng × Bool) (n : Int) (fits : Bool) (e : Int) : ACall Tryz.prog E 234 [.po i 0, .int .i64 n, .bool fits, .int .i64 e] [(i, .cells 261 (encH h))] fun r O => r = .tup [] ∧ O = [(i, .cells 261 (encH (hAdd h n fits e)))] := by
 refine zy func234 rfl (by decide) rfl<|za<|za<|z7 rfl<|z2 (zc (v := .bool _) rfl)<|z2 (yt rfl)<|z6<|yq (γ := Int × Bool) [0] (fun g => [(1, .int .i64 g.1)]) (fun g => [(i, .cells 261 (encH (h.1, g.2)))]) (fun g => g.1 = (if fits then n else e) ∧ g.2 = (h.2 || !fits)) ?_ (fun _ _ h => h) ?_
 ·refine y8 rfl (fun c => ?_) (fun c => ?_)
  ·refine z7 rfl<|z2 (zc (v := .po _ _) rfl)<|z2 (zc (v := .int _ _) rfl)<|z2 (q3 rfl)<|z2 (y3 underlying261 rfl sizeOf4 (by decide) rfl rfl)<|qa (l := [_]) (new := [_, _, _]) sizeOf4 rfl rfl rfl rfl rfl rfl .head rfl rfl<|z2 (zd (v := .int _ _) rfl)<|z6 ?_
   exact ⟨(e, true), ⟨rfl, trivial⟩, ⟨rfl, trivial⟩, ⟨_, (.refl _), rfl⟩, by simp_all⟩
  ·refine zk ?_
   exact ⟨(n, h.2), ⟨rfl, trivial⟩, ⟨rfl, trivial⟩, ⟨_, (.refl _), rfl⟩, by simp_all⟩
 ·rintro ⟨m, w⟩ ⟨h1, h2⟩
  dsimp only at h1 h2
  subst h1 h2
  refine yb (fun j => Nat.beq j 10) (by kernel_rfl) rfl (y4 (.r (.rest _)))<|ze (i := 0) rfl (by kernel_rfl) (zc (v := .po _ _) rfl)<|ze (i := 1) rfl (by kernel_rfl) (zc (v := .po _ _) rfl)<|ze (i := 2) rfl (by kernel_rfl) (q3 rfl)<|ze (i := 3) rfl (by kernel_rfl) (y3 underlying261 rfl sizeOf74 (by decide) rfl rfl)<|ze (i := 4) rfl (by kernel_rfl) (yu (l := [_, _]) isAgg74 sizeOf74 rfl ⟨_, .head⟩ rfl rfl)<|ze (i := 5) rfl (by kernel_rfl) (zc (v := .int _ _) rfl)<|zp (i := 6) rfl (by kernel_rfl)<|zh (iOf _) rfl<|z6<|zp (i := 7) rfl (by kernel_rfl)<|zh (iJoin _ _) rfl<|z6<|AAny.takeK (i := 8) rfl (by kernel_rfl) (by kernel_rfl) (by kernel_rfl) (by kernel_rfl) (q3 rfl)<|ze (i := 9) rfl (by kernel_rfl) (y3 underlying261 rfl sizeOf74 (by decide) rfl rfl)<|yy<|q5 (i := 10) rfl (by kernel_rfl) (by kernel_rfl)<|qa (l := [_, _]) (new := [_, _, _]) sizeOf74 rfl rfl rfl rfl rfl rfl .head rfl rfl<|z6<|q0 (by kernel_rfl)<|afin.t0 ?_
  exact ⟨rfl, rfl⟩
set_option maxHeartbeats 4000000 in
theorem iCorners (op : Int) (k : Nat) (hk : k ≤ 2) (hop : op = 2 + (k : Int)) {a b : Rng} (ha : ok64 a) (hb : ok64 b) : AFun Tryz.prog E 218 [.int .i64 op, .agg (encZ a), .agg (encZ b)] (.agg (encH (cornP k a b))) := by
 obtain ⟨st, hst⟩ : ∃ st, hSt (op3 k) (fun x y => decide (fit3 k x y)) (near3 k) (noR, false) a b = st := ⟨_, rfl⟩
 have hstep : ∀ (i j : Nat), j < 2 → st (2 * i + (j + 1)) = hAdd (st (2 * i + j)) (op3 k (selR a i) (selR b j)) (decide (fit3 k (selR a i) (selR b j))) (near3 k (selR a i) (selR b j)) := fun i j hj => by rw [← hst]; exact hSt_step i hj
 have h4 : st 4 = cornP k a b := by rw [← hst]; rfl
 have h0 : st 0 = (noR, false) := by rw [← hst]; rfl
 refine zy func218 rfl (by decide) rfl<|za<|z7 rfl<|yc (cs := _) rfl rfl rfl<|yc (cs := _) rfl rfl rfl<|y1 (cs := [.int .i64 0, .int .i64 0, .bool false]) zeroValue261 rfl rfl<|fun i6 => z6<|za<|z7 rfl<|zh (iNone) rfl<|z2 (y9 (cps := [(0, [_, _])]) (rs := [_, _, .bool false]) pl261 rfl rfl rfl)<|y1 (cs := [.int .i64 0, .int .i64 0, .bool false]) zeroValue261 rfl rfl<|fun i7 => zi sizeOf261 rfl rfl rfl rfl rfl rfl .head rfl<|z6<|za<|za<|z7 rfl<|z2 (zg underlying74 rfl sizeOf2 (by decide) rfl rfl)<|z2 (zf (c := .int _ _) isAgg2 rfl)<|z2 (zg underlying74 rfl sizeOf2 (by decide) rfl rfl)<|z2 (zf (c := .int _ _) isAgg2 rfl)<|z2 (Gv.buildA (cps := [(0, [_]), (1, [_])]) (rs := [_, _]) pl280 rfl rfl rfl)<|z2 (zc (v := .int _ _) rfl)<|z6<|zq<|yh (γ := Nat) [0, 5, 6, 7, 24] (fun i => [(25, .int .i64 i)]) (fun i => [(i7, .cells 261 (encH (st (2 * i)))), (i6, .cells 261 [.int .i64 0, .int .i64 0, .bool false])]) (fun i => i ≤ 2) (fun i => 2 - i) 0 ⟨rfl, trivial⟩ ⟨_, (.refl _), by rw [h0]; rfl⟩ ((by omega)) ?_
 rintro i hi
 refine za<|z7 rfl<|z2 (yj rfl rfl)<|z6<|za<|zt rfl (fun ci => ?_) (fun ci => ?_)
 ·have hi2 : i < 2 := by omega
  have hx := sel_ok ha i
  refine zk<|za<|zq<|za<|z7 rfl<|z2 (Gv.index1 (n := 2) (j := i) (cs := [.int .i64 a.1, .int .i64 a.2]) (v := .int .i64 (selR a i)) underlying280 isAgg2 sizeOf2 rfl rfl rfl hi2 (sel_get hi2))<|z2 (zd (v := .int _ _) rfl)<|z6<|za<|z7 rfl<|z2 (zg underlying74 rfl sizeOf2 (by decide) rfl rfl)<|z2 (zf (c := .int _ _) isAgg2 rfl)<|z2 (zg underlying74 rfl sizeOf2 (by decide) rfl rfl)<|z2 (zf (c := .int _ _) isAgg2 rfl)<|z2 (Gv.buildA (cps := [(0, [_]), (1, [_])]) (rs := [_, _]) pl280 rfl rfl rfl)<|z2 (zc (v := .int _ _) rfl)<|z6<|zq<|yh (γ := Nat) [0, 5, 6, 7, 9, 24, 25, 32] (fun j => [(33, .int .i64 j)]) (fun j => [(i7, .cells 261 (encH (st (2 * i + j)))), (i6, .cells 261 [.int .i64 0, .int .i64 0, .bool false])]) (fun j => j ≤ 2) (fun j => 2 - j) 0 ⟨rfl, trivial⟩ ⟨_, (.refl _), rfl⟩ ((by omega)) ?_
  rintro j hj
  refine za<|z7 rfl<|z2 (yj rfl rfl)<|z6<|za<|zt rfl (fun cj => ?_) (fun cj => ?_)
  ·have hj2 : j < 2 := by omega
   have hy := sel_ok hb j
   have hs := hstep i j hj2
   refine zk<|za<|zq<|za<|z7 rfl<|z2 (Gv.index1 (n := 2) (j := j) (cs := [.int .i64 b.1, .int .i64 b.2]) (v := .int .i64 (selR b j)) underlying280 isAgg2 sizeOf2 rfl rfl rfl hj2 (sel_get hj2))<|z2 (zd (v := .int _ _) rfl)<|z6<|za<|z7 rfl<|z2 (zc (v := .int _ _) rfl)<|z6<|zq<|za<|z7 rfl<|z2 (y6 rfl rfl)<|z2 (zd (v := .bool _) rfl)<|z6<|zt rfl (fun c2 => ?_) (fun c2 => ?_)
   ·have hk0 : k = 0 := by omega
    subst hk0
    refine za<|z7 rfl<|z2 (zc (v := .int _ _) rfl)<|z2 (zc (v := .int _ _) rfl)<|zh (aAdd hx hy) rfl<|z2 (zc (v := .tup _) rfl)<|z2 (yr (v := .int _ _) rfl rfl)<|z2 (yr (v := .bool _) rfl rfl)<|z2 (zd (v := .int _ _) rfl)<|z2 (zd (v := .bool _) rfl)<|z6<|z7 rfl<|z2 (zc (v := .int _ _) rfl)<|z2 (zc (v := .bool _) rfl)<|z2 (zc (v := .int _ _) rfl)<|z2 (yj rfl rfl)<|zh (iNear _) rfl<|yk rfl (y4 (.l (.r (.rest _)))) (hull_add i7 _ _ _ _) ?_
    rintro r50 O50 ⟨rfl, rfl⟩
    refine z6<|z7 rfl<|z2 (yi rfl rfl (by unfold I64; omega))<|z2 (zc (v := .int _ _) rfl)<|z6 ?_
    exact ⟨j + 1, ⟨rfl, rfl, rfl, rfl, rfl, rfl, rfl, rfl, trivial⟩, ⟨rfl, trivial⟩, ⟨_, (.refl _), by rw [hs, hAdd_fit add_fit (near_0 _ (selR b j))]; rfl⟩, hj2, by omega⟩
   ·refine za<|z7 rfl<|z2 (y6 rfl rfl)<|z2 (zd (v := .bool _) rfl)<|z6<|zt rfl (fun c3 => ?_) (fun c3 => ?_)
    ·have hk0 : k = 1 := by omega
     subst hk0
     refine za<|z7 rfl<|z2 (zc (v := .int _ _) rfl)<|z2 (zc (v := .int _ _) rfl)<|zh (aSub hx hy) rfl<|z2 (zc (v := .tup _) rfl)<|z2 (yr (v := .int _ _) rfl rfl)<|z2 (yr (v := .bool _) rfl rfl)<|z2 (zd (v := .int _ _) rfl)<|z2 (zd (v := .bool _) rfl)<|z6<|z7 rfl<|z2 (zc (v := .int _ _) rfl)<|z2 (zc (v := .bool _) rfl)<|z2 (zc (v := .int _ _) rfl)<|z2 (yj rfl rfl)<|zh (iNear _) rfl<|yk rfl (y4 (.l (.r (.rest _)))) (hull_add i7 _ _ _ _) ?_
     rintro r64 O64 ⟨rfl, rfl⟩
     refine z6<|z7 rfl<|z2 (yi rfl rfl (by unfold I64; omega))<|z2 (zc (v := .int _ _) rfl)<|z6 ?_
     exact ⟨j + 1, ⟨rfl, rfl, rfl, rfl, rfl, rfl, rfl, rfl, trivial⟩, ⟨rfl, trivial⟩, ⟨_, (.refl _), by rw [hs, hAdd_fit sub_fit (near_1 _ (selR b j))]; rfl⟩, hj2, by omega⟩
    ·refine za<|z7 rfl<|z2 (y6 rfl rfl)<|z2 (zd (v := .bool _) rfl)<|z6<|zt rfl (fun c4 => ?_) (fun c4 => ?_)
     ·have hk0 : k = 2 := by omega
      subst hk0
      refine za<|z7 rfl<|z2 (zc (v := .int _ _) rfl)<|z2 (zc (v := .int _ _) rfl)<|zh (aMul hx hy) rfl<|z2 (zc (v := .tup _) rfl)<|z2 (yr (v := .int _ _) rfl rfl)<|z2 (yr (v := .bool _) rfl rfl)<|z2 (zd (v := .int _ _) rfl)<|z2 (zd (v := .bool _) rfl)<|z6<|z7 rfl<|z2 (zc (v := .int _ _) rfl)<|z2 (zc (v := .bool _) rfl)<|z2 (zc (v := .int _ _) rfl)<|z2 (yj rfl rfl)<|z2 (zc (v := .int _ _) rfl)<|z2 (yj rfl rfl)<|z2 (Gv.neqB underlying4 rfl rfl)<|zh (iNear _) rfl<|yk rfl (y4 (.l (.r (.rest _)))) (hull_add i7 _ _ _ _) ?_
      rintro r81 O81 ⟨rfl, rfl⟩
      refine z6<|z7 rfl<|z2 (yi rfl rfl (by unfold I64; omega))<|z2 (zc (v := .int _ _) rfl)<|z6 ?_
      exact ⟨j + 1, ⟨rfl, rfl, rfl, rfl, rfl, rfl, rfl, rfl, trivial⟩, ⟨rfl, trivial⟩, ⟨_, (.refl _), by rw [hs, hAdd_fit mul_fit3 (near_2 _ (selR b j))]; rfl⟩, hj2, by omega⟩
     ·exfalso; omega
  ·have hj2 : j = 2 := by omega
   subst hj2
   refine yg<|z7 rfl<|z2 (yi rfl rfl (by unfold I64; omega))<|z2 (zc (v := .int _ _) rfl)<|z6 ?_
   exact ⟨i + 1, ⟨rfl, rfl, rfl, rfl, rfl, trivial⟩, ⟨rfl, trivial⟩, ⟨_, (.refl _), by rw [show 2 * (i + 1) = 2 * i + 2 by omega]⟩, hi2, by omega⟩
 ·have hi2 : i = 2 := by omega
  subst hi2
  refine yg<|za<|z7 rfl<|z2 (qb isAgg261 sizeOf261 rfl ⟨_, .head⟩ rfl)<|zi sizeOf261 rfl rfl rfl rfl rfl rfl (.tail .head) rfl<|z6<|zj<|yl rfl ⟨_, (.tail .head)⟩ isAgg261 sizeOf261 rfl ?_
  rw [← h4]; try rfl
theorem iQuot {a b : Rng} (ha : ok64 a) : AFun Tryz.prog E 219 [.agg (encZ a), .agg (encZ b)] (.agg (encZ (quotP a b))) := by
 have h0 : quoT a b 0 = (noR, false) := rfl
 refine zy func219 rfl (by decide) rfl<|za<|z7 rfl<|yc (cs := _) rfl rfl rfl<|yc (cs := _) rfl rfl rfl<|y1 (cs := [.int .i64 0, .int .i64 0]) zeroValue74 rfl rfl<|fun i4 => z6<|za<|z7 rfl<|zh (iNone) rfl<|z2 (y9 (cps := [(0, [_, _])]) (rs := [_, _, .bool false]) pl261 rfl rfl rfl)<|y1 (cs := [.int .i64 0, .int .i64 0, .bool false]) zeroValue261 rfl rfl<|fun i5 => zi sizeOf261 rfl rfl rfl rfl rfl rfl .head rfl<|z6<|za<|za<|yb (fun j => false) (by kernel_rfl) rfl (y4 (.rest _))<|ze (i := 0) rfl (by kernel_rfl) (zo isAgg74 sizeOf74 rfl rfl)<|ze (i := 1) rfl (by kernel_rfl) (y9 (cps := [(0, [_]), (1, [_])]) (rs := [_, _]) pl74 rfl rfl rfl)<|ze (i := 3) rfl (by kernel_rfl) (zo isAgg74 sizeOf74 rfl rfl)<|ze (i := 4) rfl (by kernel_rfl) (y9 (cps := [(0, [_]), (1, [_])]) (rs := [_, _]) pl74 rfl rfl rfl)<|ze (i := 7) rfl (by kernel_rfl) (zc (v := .int _ _) rfl)<|zp (i := 2) rfl (by kernel_rfl)<|zh (iMeet b (m64, -1)) rfl<|z6<|zp (i := 5) rfl (by kernel_rfl)<|zh (iMeet b (1, M64)) rfl<|z6<|ze (i := 6) rfl (by kernel_rfl) (Gv.buildA (cps := [(0, [_, _]), (1, [_, _])]) (rs := [_, _, _, _]) pl283 rfl rfl rfl)<|ya (by kernel_rfl)<|zq<|yh (γ := Nat) [2, 4, 5, 22] (fun q => [(23, .int .i64 q)]) (fun q => [(i5, .cells 261 (encH (quoT a b q))), (i4, .cells 74 [.int .i64 0, .int .i64 0])]) (fun q => q ≤ 2) (fun q => 2 - q) 0 ⟨rfl, trivial⟩ ⟨_, (.refl _), rfl⟩ ((by omega)) ?_
 rintro q hq
 refine za<|z7 rfl<|z2 (yj rfl rfl)<|z6<|za<|zt rfl (fun cq => ?_) (fun cq => ?_)
 ·have hq2 : q < 2 := by omega
  have hqs : quoT a b (q + 1) = quoH a (partR b q) (quoT a b q) := rfl
  obtain ⟨p, hp⟩ : ∃ p, partR b q = p := ⟨_, rfl⟩
  have hpg := part_get (b := b) hq2
  rw [hp] at hqs hpg
  refine zk<|za<|zq<|za<|z7 rfl<|z2 (Gv.indexA (n := 2) (j := q) (k := 2) (cs := encZ (rMeet b (m64, -1)) ++ encZ (rMeet b (1, M64))) (l := encZ p) underlying283 isAgg74 sizeOf74 rfl rfl rfl hq2 hpg)<|y1 (cs := [.int .i64 0, .int .i64 0]) zeroValue74 rfl rfl<|fun i7 => zi sizeOf74 rfl rfl rfl rfl rfl rfl .head rfl<|z6<|yw (yp (t := 7) rfl .head)<|za<|za<|z7 rfl<|z2 (zo isAgg74 sizeOf74 rfl rfl)<|zh (iEmpty _) rfl<|z6<|zt rfl (fun ce => ?_) (fun ce => ?_)
  ·refine yg<|z7 rfl<|z2 (yi rfl rfl (by unfold I64; omega))<|z2 (zc (v := .int _ _) rfl)<|z6 ?_
   exact ⟨q + 1, ⟨rfl, rfl, rfl, rfl, trivial⟩, ⟨rfl, trivial⟩, ⟨_, (.refl _), by rw [hqs, quoH, if_pos ce]⟩, hq2, by omega⟩
  ·obtain ⟨st, hst⟩ : ∃ st, hSt Int.tdiv fitD (fun _ _ => M64) (quoT a b q) a p = st := ⟨_, rfl⟩
   have hstep : ∀ (i j : Nat), j < 2 → st (2 * i + (j + 1)) = hAdd (st (2 * i + j)) ((selR a i).tdiv (selR p j)) (fitD (selR a i) (selR p j)) M64 := fun i j hj => by rw [← hst]; exact hSt_step i hj
   have h4 : st 4 = quoT a b (q + 1) := by rw [hqs, quoH, if_neg ce, ← hst]; rfl
   have hs0 : st 0 = quoT a b q := by rw [← hst]; rfl
   refine zk<|za<|z7 rfl<|z2 (zg underlying74 rfl sizeOf2 (by decide) rfl rfl)<|z2 (zf (c := .int _ _) isAgg2 rfl)<|z2 (zg underlying74 rfl sizeOf2 (by decide) rfl rfl)<|z2 (zf (c := .int _ _) isAgg2 rfl)<|z2 (Gv.buildA (cps := [(0, [_]), (1, [_])]) (rs := [_, _]) pl280 rfl rfl rfl)<|z2 (zc (v := .int _ _) rfl)<|z6<|zq<|yh (γ := Nat) [2, 4, 5, 7, 22, 23, 32] (fun i => [(33, .int .i64 i)]) (fun i => [(i5, .cells 261 (encH (st (2 * i)))), (i4, .cells 74 [.int .i64 0, .int .i64 0])]) (fun i => i ≤ 2) (fun i => 2 - i) 0 ⟨rfl, trivial⟩ ⟨_, (.refl _), by rw [hs0]⟩ ((by omega)) ?_
   rintro i hi
   refine za<|z7 rfl<|z2 (yj rfl rfl)<|z6<|za<|zt rfl (fun ci => ?_) (fun ci => ?_)
   ·have hi2 : i < 2 := by omega
    have hx := sel_ok ha i
    refine zk<|za<|zq<|za<|z7 rfl<|z2 (Gv.index1 (n := 2) (j := i) (cs := [.int .i64 a.1, .int .i64 a.2]) (v := .int .i64 (selR a i)) underlying280 isAgg2 sizeOf2 rfl rfl rfl hi2 (sel_get hi2))<|z2 (zd (v := .int _ _) rfl)<|z6<|za<|z7 rfl<|z2 (zg underlying74 rfl sizeOf2 (by decide) rfl rfl)<|z2 (zf (c := .int _ _) isAgg2 rfl)<|z2 (zg underlying74 rfl sizeOf2 (by decide) rfl rfl)<|z2 (zf (c := .int _ _) isAgg2 rfl)<|z2 (Gv.buildA (cps := [(0, [_]), (1, [_])]) (rs := [_, _]) pl280 rfl rfl rfl)<|z2 (zc (v := .int _ _) rfl)<|z6<|zq<|yh (γ := Nat) [2, 4, 5, 7, 9, 22, 23, 32, 33, 40] (fun j => [(41, .int .i64 j)]) (fun j => [(i5, .cells 261 (encH (st (2 * i + j)))), (i4, .cells 74 [.int .i64 0, .int .i64 0])]) (fun j => j ≤ 2) (fun j => 2 - j) 0 ⟨rfl, trivial⟩ ⟨_, (.refl _), rfl⟩ ((by omega)) ?_
    rintro j hj
    refine za<|z7 rfl<|z2 (yj rfl rfl)<|z6<|za<|zt rfl (fun cj => ?_) (fun cj => ?_)
    ·have hj2 : j < 2 := by omega
     have hs := hstep i j hj2
     have hy : selR p j ≠ 0 := by have := part_nz (b := b) (q := q) (j := j) (by rw [hp]; exact ce); rwa [hp] at this
     refine zk<|za<|zq<|za<|z7 rfl<|z2 (Gv.index1 (n := 2) (j := j) (cs := [.int .i64 p.1, .int .i64 p.2]) (v := .int .i64 (selR p j)) underlying280 isAgg2 sizeOf2 rfl rfl rfl hj2 (sel_get hj2))<|z2 (zd (v := .int _ _) rfl)<|z6<|za<|z7 rfl<|z2 (zc (v := .int _ _) rfl)<|z2 (zc (v := .int _ _) rfl)<|zh (aDiv hy) rfl<|z2 (zc (v := .tup _) rfl)<|z2 (yr (v := .int _ _) rfl rfl)<|z2 (yr (v := .bool _) rfl rfl)<|z2 (zd (v := .int _ _) rfl)<|z2 (zd (v := .bool _) rfl)<|z6<|z7 rfl<|z2 (zc (v := .int _ _) rfl)<|z2 (zc (v := .int _ _) rfl)<|z2 (yx rfl rfl)<|z2 (zc (v := .bool _) rfl)<|zz (s := 53) rfl (fun c1 => ?_) (fun c1 => ?_)
     ·have hf : fitD (selR a i) (selR p j) = true := by unfold fitD; simp_all [m64]
      refine z8 rfl rfl c1<|z8 rfl rfl c1<|z2 (zu (v := .bool _) rfl c1 rfl)<|yk rfl (y4 (.l (.r (.rest _)))) (hull_add i5 _ _ _ _) ?_
      rintro r57 O57 ⟨rfl, rfl⟩
      refine z6<|z7 rfl<|z2 (yi rfl rfl (by unfold I64; omega))<|z2 (zc (v := .int _ _) rfl)<|z6 ?_
      exact ⟨j + 1, ⟨rfl, rfl, rfl, rfl, rfl, rfl, rfl, rfl, rfl, rfl, trivial⟩, ⟨rfl, trivial⟩, ⟨_, (.refl _), by rw [hs, hf, hAdd_fit (fits := true) (fun _ => quo_fit hx hy hf) (show (9223372036854775807 : Int) = M64 from rfl)]; rfl⟩, hj2, by omega⟩
     ·have hf : fitD (selR a i) (selR p j) = !decide (selR p j = -1) := by unfold fitD; simp_all [m64]
      refine zb rfl rfl c1<|z2 (zc (v := .int _ _) rfl)<|zb rfl rfl c1<|z2 (yx rfl rfl)<|z2 (zw (v := .bool _) rfl c1 rfl)<|yk rfl (y4 (.l (.r (.rest _)))) (hull_add i5 _ _ _ _) ?_
      rintro r57 O57 ⟨rfl, rfl⟩
      refine z6<|z7 rfl<|z2 (yi rfl rfl (by unfold I64; omega))<|z2 (zc (v := .int _ _) rfl)<|z6 ?_
      exact ⟨j + 1, ⟨rfl, rfl, rfl, rfl, rfl, rfl, rfl, rfl, rfl, rfl, trivial⟩, ⟨rfl, trivial⟩, ⟨_, (.refl _), by rw [hs, hf, hAdd_fit (fits := !decide (selR p j = -1)) (fun h => quo_fit hx hy (by rw [hf]; exact h)) (show (9223372036854775807 : Int) = M64 from rfl)]; rfl⟩, hj2, by omega⟩
    ·have hj2 : j = 2 := by omega
     subst hj2
     refine yg<|z7 rfl<|z2 (yi rfl rfl (by unfold I64; omega))<|z2 (zc (v := .int _ _) rfl)<|z6 ?_
     exact ⟨i + 1, ⟨rfl, rfl, rfl, rfl, rfl, rfl, rfl, trivial⟩, ⟨rfl, trivial⟩, ⟨_, (.refl _), by rw [show 2 * (i + 1) = 2 * i + 2 by omega]⟩, hi2, by omega⟩
   ·have hi2 : i = 2 := by omega
    subst hi2
    refine yg<|z7 rfl<|z2 (yi rfl rfl (by unfold I64; omega))<|z2 (zc (v := .int _ _) rfl)<|z6 ?_
    exact ⟨q + 1, ⟨rfl, rfl, rfl, rfl, trivial⟩, ⟨rfl, trivial⟩, ⟨_, (.refl _), by rw [← h4]⟩, hq2, by omega⟩
 ·have hq2 : q = 2 := by omega
  subst hq2
  refine yg<|za<|za<|z7 rfl<|z2 (y3 underlying261 rfl sizeOf4 (by decide) rfl rfl)<|z2 (y5 (c := .bool _) isAgg4 rfl ⟨_, .head⟩ rfl)<|z6<|y8 rfl (fun cw => ?_) (fun cw => ?_)
  ·refine za<|z7 rfl<|zh (iAll) rfl<|zi sizeOf74 rfl rfl rfl rfl rfl rfl (.tail .head) rfl<|z6<|zj<|yl rfl ⟨_, (.tail .head)⟩ isAgg74 sizeOf74 rfl ?_
   rw [quoT_2, if_pos cw]; try rfl
  ·refine zk<|za<|z7 rfl<|z2 (y3 underlying261 rfl sizeOf74 (by decide) rfl rfl)<|z2 (yu (l := [_, _]) isAgg74 sizeOf74 rfl ⟨_, .head⟩ rfl rfl)<|zi sizeOf74 rfl rfl rfl rfl rfl rfl (.tail .head) rfl<|z6<|zj<|yl rfl ⟨_, (.tail .head)⟩ isAgg74 sizeOf74 rfl ?_
   rw [quoT_2, if_neg (by simpa using cw)]; try rfl
theorem iRests {a b : Rng} (ha : ok64 a) (hb : ok64 b) : AFun Tryz.prog E 220 [.agg (encZ a), .agg (encZ b)] (.agg (encZ (restP a b))) := by
 have ha1 := ha.1; have ha2 := ha.2; have hb1 := hb.1; have hb2 := hb.2
 unfold is64 at ha1 ha2 hb1 hb2
 refine zy func220 rfl (by decide) rfl<|za<|z7 rfl<|yc (cs := _) rfl rfl rfl<|yc (cs := _) rfl rfl rfl<|y1 (cs := [.int .i64 0, .int .i64 0]) zeroValue74 rfl rfl<|fun i4 => z6<|za<|za<|yb (fun j => false) (by kernel_rfl) rfl (y4 (.rest _))<|ze (i := 0) rfl (by kernel_rfl) (zo isAgg74 sizeOf74 rfl rfl)<|zp (i := 1) rfl (by kernel_rfl)<|zh (iOf _) rfl<|z6<|ze (i := 2) rfl (by kernel_rfl) (Gv.eqlP (xs := [.int _ _, .int _ _]) (ys := [.int _ _, .int _ _]) (by kernel_rfl) rfl rfl (fun w => eq_range _ _ _ _ w))<|ya (by kernel_rfl)<|zt rfl (fun c0 => ?_) (fun c0 => ?_)
 ·refine za<|z7 rfl<|zh (iNone) rfl<|zi sizeOf74 rfl rfl rfl rfl rfl rfl .head rfl<|z6<|zj<|yl rfl ⟨_, .head⟩ isAgg74 sizeOf74 rfl ?_
  rw [restP, if_pos (by obtain ⟨b1, b2⟩ := b; obtain ⟨h1, h2⟩ := c0; exact Prod.ext h1 h2)]; try rfl
 ·have c0 : ¬ b = (0, 0) := fun e => c0 (by rw [e]; exact ⟨rfl, rfl⟩)
  refine zk<|za<|z7 rfl<|z2 (zd (v := .int _ _) rfl)<|z6<|za<|za<|z7 rfl<|z2 (zg underlying74 rfl sizeOf2 (by decide) rfl rfl)<|z2 (zf (c := .int _ _) isAgg2 rfl)<|z2 (yj rfl rfl)<|z6<|yq (γ := Int) [2, 3, 4] (fun k => [(5, .int .i64 k)]) (fun k => [(i4, .cells 74 [.int .i64 0, .int .i64 0])]) (fun k => k = if b.1 < 0 then -(b.1 + 1) else 0) ?_ (fun _ _ h => h) ?_
  ·refine zt rfl (fun c1 => ?_) (fun c1 => ?_)
   ·refine z7 rfl<|z2 (zg underlying74 rfl sizeOf2 (by decide) rfl rfl)<|z2 (zf (c := .int _ _) isAgg2 rfl)<|z2 (yi rfl rfl (by unfold I64; omega))<|z2 (Gv.neg rfl)<|z2 (zd (v := .int _ _) rfl)<|z6 ?_
    exact ⟨IntKind.i64.wrap (0 - (b.1 + 1)), ⟨rfl, rfl, rfl, trivial⟩, ⟨rfl, trivial⟩, ⟨_, (.refl _), rfl⟩, by rw [if_pos c1, wrap_fit (by unfold is64; omega)]; omega⟩
   ·refine zk ?_
    exact ⟨0, ⟨rfl, rfl, rfl, trivial⟩, ⟨rfl, trivial⟩, ⟨_, (.refl _), rfl⟩, by rw [if_neg c1]⟩
  ·rintro k hk
   have hkr : 0 ≤ k ∧ k ≤ 9223372036854775807 := by rw [hk]; split <;> omega
   refine za<|za<|z7 rfl<|z2 (zg underlying74 rfl sizeOf2 (by decide) rfl rfl)<|z2 (zf (c := .int _ _) isAgg2 rfl)<|z2 (q7 rfl rfl)<|z6<|yq (γ := Int) [2, 4] (fun m => [(5, .int .i64 m)]) (fun m => [(i4, .cells 74 [.int .i64 0, .int .i64 0])]) (fun m => m = if 0 < b.2 then imax k (b.2 - 1) else k) ?_ (fun _ _ h => h) ?_
   ·refine zt rfl (fun c1 => ?_) (fun c1 => ?_)
    ·refine z7 rfl<|z2 (zc (v := .int _ _) rfl)<|z2 (zg underlying74 rfl sizeOf2 (by decide) rfl rfl)<|z2 (zf (c := .int _ _) isAgg2 rfl)<|z2 (Gv.sub rfl rfl (by unfold I64; omega))<|z2 (Gv.maxI rfl rfl)<|z2 (zd (v := .int _ _) rfl)<|z6 ?_
     exact ⟨imax k (b.2 - 1), ⟨rfl, rfl, trivial⟩, ⟨rfl, trivial⟩, ⟨_, (.refl _), rfl⟩, by rw [if_pos c1]⟩
    ·refine zk ?_
     exact ⟨k, ⟨rfl, rfl, trivial⟩, ⟨rfl, trivial⟩, ⟨_, (.refl _), rfl⟩, by rw [if_neg c1]⟩
   ·rintro m hm
    have hmr : 0 ≤ m ∧ m ≤ 9223372036854775807 := by rw [hm]; unfold imax; (repeat' split) <;> omega
    have hr : restP a b = (if a.1 < 0 then imax a.1 (-m) else 0, if 0 < a.2 then imin a.2 m else 0) := by subst hm hk; rw [restP, if_neg c0]
    rw [hr]
    refine za<|z7 rfl<|zh (iOf _) rfl<|y1 (cs := [.int .i64 0, .int .i64 0]) zeroValue74 rfl rfl<|fun i6 => zi sizeOf74 rfl rfl rfl rfl rfl rfl .head rfl<|z6<|za<|za<|z7 rfl<|z2 (zg underlying74 rfl sizeOf2 (by decide) rfl rfl)<|z2 (zf (c := .int _ _) isAgg2 rfl)<|z2 (yj rfl rfl)<|z6<|yq (γ := Int) [2, 4, 5, 6] (fun x => []) (fun x => [(i6, .cells 74 [.int .i64 x, .int .i64 0]), (i4, .cells 74 [.int .i64 0, .int .i64 0])]) (fun x => x = if a.1 < 0 then imax a.1 (-m) else 0) ?_ (fun _ _ h => h) ?_
    ·refine zt rfl (fun c1 => ?_) (fun c1 => ?_)
     ·refine z7 rfl<|z2 (zg underlying74 rfl sizeOf2 (by decide) rfl rfl)<|z2 (zf (c := .int _ _) isAgg2 rfl)<|z2 (zc (v := .int _ _) rfl)<|z2 (Gv.neg rfl)<|z2 (Gv.maxI rfl rfl)<|z2 (y3 underlying74 rfl sizeOf2 (by decide) rfl rfl)<|qa (l := [_]) (new := [_, _]) sizeOf2 rfl rfl rfl rfl rfl rfl .head rfl rfl<|z6 ?_
      exact ⟨imax a.1 (IntKind.i64.wrap (0 - m)), ⟨rfl, rfl, rfl, rfl, trivial⟩, trivial, ⟨_, (.refl _), rfl⟩, by rw [if_pos c1, wrap_fit (by unfold is64; omega), Int.zero_sub]⟩
     ·refine zk ?_
      exact ⟨0, ⟨rfl, rfl, rfl, rfl, trivial⟩, trivial, ⟨_, (.refl _), rfl⟩, by rw [if_neg c1]⟩
    ·rintro x hx
     refine za<|za<|z7 rfl<|z2 (zg underlying74 rfl sizeOf2 (by decide) rfl rfl)<|z2 (zf (c := .int _ _) isAgg2 rfl)<|z2 (q7 rfl rfl)<|z6<|zt rfl (fun c1 => ?_) (fun c1 => ?_)
     ·refine z7 rfl<|z2 (zg underlying74 rfl sizeOf2 (by decide) rfl rfl)<|z2 (zf (c := .int _ _) isAgg2 rfl)<|z2 (zc (v := .int _ _) rfl)<|z2 (Gv.minI rfl rfl)<|z2 (y3 underlying74 rfl sizeOf2 (by decide) rfl rfl)<|qa (l := [_]) (new := [_, _]) sizeOf2 rfl rfl rfl rfl rfl rfl .head rfl rfl<|z6<|za<|z7 rfl<|z2 (qb isAgg74 sizeOf74 rfl ⟨_, .head⟩ rfl)<|zi sizeOf74 rfl rfl rfl rfl rfl rfl (.tail .head) rfl<|z6<|zj<|yl rfl ⟨_, (.tail .head)⟩ isAgg74 sizeOf74 rfl ?_
      rw [← hx, if_pos c1]; try rfl
     ·refine zk<|za<|z7 rfl<|z2 (qb isAgg74 sizeOf74 rfl ⟨_, .head⟩ rfl)<|zi sizeOf74 rfl rfl rfl rfl rfl rfl (.tail .head) rfl<|z6<|zj<|yl rfl ⟨_, (.tail .head)⟩ isAgg74 sizeOf74 rfl ?_
      rw [← hx, if_neg c1]; try rfl
def applyP (op : Int) (a b : Rng) : Rng :=
 if a.2 < a.1 ∨ b.2 < b.1 then noR else if op = 2 then sumP 0 a b false else if op = 3 then sumP 1 a b false else if op = 4 then sumP 2 a b false else if op = 5 then quotP a b else if op = 6 then restP a b else allR
def clipP (op : Int) (a b : Rng) : Rng :=
 if a.2 < a.1 ∨ b.2 < b.1 then noR else if op = 2 then sumP 0 a b true else if op = 3 then sumP 1 a b true else if op = 4 then sumP 2 a b true else if op = 5 then quotP a b else if op = 6 then restP a b else allR
theorem sum_op {op : Int} (h : op = 2 ∨ op = 3 ∨ op = 4) : ∃ k : Nat, k ≤ 2 ∧ op = 2 + (k : Int) := ⟨(op - 2).toNat, by omega, by omega⟩
theorem apply_sum {op : Int} {k : Nat} (hk : k ≤ 2) (h : op = 2 + (k : Int)) {a b : Rng} (hn : ¬ (a.2 < a.1 ∨ b.2 < b.1)) : applyP op a b = sumP k a b false ∧ clipP op a b = sumP k a b true := by
 unfold applyP clipP
 rw [if_neg hn, if_neg hn]
 rcases (by omega : k = 0 ∨ k = 1 ∨ k = 2) with rfl | rfl | rfl <;> subst h <;> exact ⟨rfl, rfl⟩
theorem apply_clip {op : Int} {a b : Rng} (hc : (a.2 < a.1 ∨ b.2 < b.1) ∨ ¬ (op = 2 ∨ op = 3 ∨ op = 4)) : applyP op a b = clipP op a b := by
 unfold applyP clipP
 by_cases h : a.2 < a.1 ∨ b.2 < b.1
 ·rw [if_pos h, if_pos h]
 ·have hs : ¬ (op = 2 ∨ op = 3 ∨ op = 4) := hc.resolve_left h
  rw [not_or, not_or] at hs
  obtain ⟨h2, h3, h4⟩ := hs
  rw [if_neg h, if_neg h]
  simp only [h2, h3, h4, if_false]
theorem iApply (op : Int) {a b : Rng} (ha : ok64 a) (hb : ok64 b) : AFun Tryz.prog E 178 [.int .i64 op, .agg (encZ a), .agg (encZ b)] (.agg (encZ (applyP op a b))) := by
 refine zy func178 rfl (by decide) rfl<|za<|z7 rfl<|yc (cs := _) rfl rfl rfl<|yc (cs := _) rfl rfl rfl<|y1 (cs := [.int .i64 0, .int .i64 0]) zeroValue74 rfl rfl<|fun i6 => z6<|za<|zq<|za<|yq (γ := Bool) [0, 4, 5, 6] (fun u => [(8, .bool u)]) (fun u => [(i6, .cells 74 [.int .i64 0, .int .i64 0])]) (fun u => u = decide (a.2 < a.1 ∨ b.2 < b.1)) ?_ (fun _ _ h => h) ?_
 ·refine z7 rfl<|z2 (zo isAgg74 sizeOf74 rfl rfl)<|zh (iEmpty _) rfl<|z2 (zc (v := .bool _) rfl)<|zz (s := 11) rfl (fun c3 => ?_) (fun c3 => ?_)
  ·refine z8 rfl rfl c3<|z8 rfl rfl c3<|z2 (zu (v := .bool _) rfl c3 rfl)<|z2 (zd (v := .bool _) rfl)<|z6 ?_
   exact ⟨_, ⟨rfl, rfl, rfl, rfl, trivial⟩, ⟨rfl, trivial⟩, ⟨_, (.refl _), rfl⟩, by simp_all <;> omega⟩
  ·refine zb rfl rfl c3<|z2 (zo isAgg74 sizeOf74 rfl rfl)<|zb rfl rfl c3<|zh (iEmpty _) rfl<|z2 (zw (v := .bool _) rfl c3 rfl)<|z2 (zd (v := .bool _) rfl)<|z6 ?_
   exact ⟨_, ⟨rfl, rfl, rfl, rfl, trivial⟩, ⟨rfl, trivial⟩, ⟨_, (.refl _), rfl⟩, by simp_all <;> omega⟩
 ·rintro u hu
  subst hu
  refine zt rfl (fun cn => ?_) (fun cn => ?_)
  ·refine za<|z7 rfl<|zh (iNone) rfl<|zi sizeOf74 rfl rfl rfl rfl rfl rfl .head rfl<|z6<|zj<|yl rfl ⟨_, .head⟩ isAgg74 sizeOf74 rfl ?_
   rw [applyP, if_pos cn]; try rfl
  ·refine za<|z7 rfl<|z2 (zc (v := .int _ _) rfl)<|zh (iSums _) rfl<|z2 (zd (v := .bool _) rfl)<|z6<|y8 rfl (fun cs => ?_) (fun cs => ?_)
   ·have hs : op = 2 ∨ op = 3 ∨ op = 4 := by simpa using cs
    obtain ⟨k, hk, hop⟩ := sum_op hs
    rw [(apply_sum hk hop cn).1]
    refine za<|z7 rfl<|z2 (zc (v := .int _ _) rfl)<|z2 (zo isAgg74 sizeOf74 rfl rfl)<|z2 (zo isAgg74 sizeOf74 rfl rfl)<|zh (iCorners op k hk hop ha hb) rfl<|y1 (cs := [.int .i64 0, .int .i64 0, .bool false]) zeroValue261 rfl rfl<|fun i7 => zi sizeOf261 rfl rfl rfl rfl rfl rfl .head rfl<|z6<|za<|z7 rfl<|z2 (y3 underlying261 rfl sizeOf4 (by decide) rfl rfl)<|z2 (y5 (c := .bool _) isAgg4 rfl ⟨_, .head⟩ rfl)<|z2 (yt rfl)<|z6<|y8 rfl (fun cw => ?_) (fun cw => ?_)
    ·refine za<|z7 rfl<|z2 (y3 underlying261 rfl sizeOf74 (by decide) rfl rfl)<|z2 (yu (l := [_, _]) isAgg74 sizeOf74 rfl ⟨_, .head⟩ rfl rfl)<|zi sizeOf74 rfl rfl rfl rfl rfl rfl (.tail .head) rfl<|z6<|zj<|yl rfl ⟨_, (.tail .head)⟩ isAgg74 sizeOf74 rfl ?_
     rw [sumP, if_neg (by decide), if_neg (by simpa using cw)]; try rfl
    ·refine zk<|za<|z7 rfl<|zh (iAll) rfl<|zi sizeOf74 rfl rfl rfl rfl rfl rfl (.tail .head) rfl<|z6<|zj<|yl rfl ⟨_, (.tail .head)⟩ isAgg74 sizeOf74 rfl ?_
     rw [sumP, if_neg (by decide), if_pos (by simpa using cw)]; try rfl
   ·have hs : ¬ (op = 2 ∨ op = 3 ∨ op = 4) := by simpa using cs
    rw [applyP, if_neg cn, if_neg (by omega), if_neg (by omega), if_neg (by omega)]
    refine za<|z7 rfl<|z2 (zc (v := .int _ _) rfl)<|z2 (y6 rfl rfl)<|z2 (zd (v := .bool _) rfl)<|z6<|zt rfl (fun c5 => ?_) (fun c5 => ?_)
    ·refine za<|z7 rfl<|z2 (zo isAgg74 sizeOf74 rfl rfl)<|z2 (zo isAgg74 sizeOf74 rfl rfl)<|zh (iQuot ha) rfl<|zi sizeOf74 rfl rfl rfl rfl rfl rfl .head rfl<|z6<|zj<|yl rfl ⟨_, .head⟩ isAgg74 sizeOf74 rfl ?_
     rw [if_pos c5]; try rfl
    ·rw [if_neg c5]
     refine za<|z7 rfl<|z2 (zc (v := .int _ _) rfl)<|z2 (y6 rfl rfl)<|z2 (zd (v := .bool _) rfl)<|z6<|zt rfl (fun c6 => ?_) (fun c6 => ?_)
     ·refine za<|z7 rfl<|z2 (zo isAgg74 sizeOf74 rfl rfl)<|z2 (zo isAgg74 sizeOf74 rfl rfl)<|zh (iRests ha hb) rfl<|zi sizeOf74 rfl rfl rfl rfl rfl rfl .head rfl<|z6<|zj<|yl rfl ⟨_, .head⟩ isAgg74 sizeOf74 rfl ?_
      rw [if_pos c6]; try rfl
     ·refine zk<|za<|z7 rfl<|zh (iAll) rfl<|zi sizeOf74 rfl rfl rfl rfl rfl rfl .head rfl<|z6<|zj<|yl rfl ⟨_, .head⟩ isAgg74 sizeOf74 rfl ?_
      rw [if_neg c6]; try rfl
theorem iClip (op : Int) {a b : Rng} (ha : ok64 a) (hb : ok64 b) : AFun Tryz.prog E 216 [.int .i64 op, .agg (encZ a), .agg (encZ b)] (.agg (encZ (clipP op a b))) := by
 refine zy func216 rfl (by decide) rfl<|za<|z7 rfl<|yc (cs := _) rfl rfl rfl<|yc (cs := _) rfl rfl rfl<|y1 (cs := [.int .i64 0, .int .i64 0]) zeroValue74 rfl rfl<|fun i6 => z6<|za<|za<|yq (γ := Bool) [0, 4, 5, 6] (fun u => [(17, .bool u)]) (fun u => [(i6, .cells 74 [.int .i64 0, .int .i64 0])]) (fun u => u = decide ((a.2 < a.1 ∨ b.2 < b.1) ∨ ¬ (op = 2 ∨ op = 3 ∨ op = 4))) ?_ (fun _ _ h => h) ?_
 ·refine z7 rfl<|z2 (zo isAgg74 sizeOf74 rfl rfl)<|zh (iEmpty _) rfl<|z2 (zc (v := .bool _) rfl)<|zz (s := 9) rfl (fun c4 => ?_) (fun c4 => ?_)
  ·refine z8 rfl rfl c4<|z8 rfl rfl c4<|z2 (zu (v := .bool _) rfl c4 rfl)<|z2 (zc (v := .bool _) rfl)<|z8 rfl rfl rfl<|z8 rfl rfl rfl<|z8 rfl rfl rfl<|z2 (zu (v := .bool _) rfl rfl rfl)<|z6 ?_
   exact ⟨_, ⟨rfl, rfl, rfl, rfl, trivial⟩, ⟨rfl, trivial⟩, ⟨_, (.refl _), rfl⟩, by simp_all <;> omega⟩
  ·refine zb rfl rfl c4<|z2 (zo isAgg74 sizeOf74 rfl rfl)<|zb rfl rfl c4<|zh (iEmpty _) rfl<|z2 (zw (v := .bool _) rfl c4 rfl)<|z2 (zc (v := .bool _) rfl)<|zz (s := 13) rfl (fun c5 => ?_) (fun c5 => ?_)
   ·refine z8 rfl rfl c5<|z8 rfl rfl c5<|z8 rfl rfl c5<|z2 (zu (v := .bool _) rfl c5 rfl)<|z6 ?_
    exact ⟨_, ⟨rfl, rfl, rfl, rfl, trivial⟩, ⟨rfl, trivial⟩, ⟨_, (.refl _), rfl⟩, by simp_all <;> omega⟩
   ·refine zb rfl rfl c5<|z2 (zc (v := .int _ _) rfl)<|zb rfl rfl c5<|zh (iSums _) rfl<|zb rfl rfl c5<|z2 (yt rfl)<|z2 (zw (v := .bool _) rfl c5 rfl)<|z6 ?_
    exact ⟨_, ⟨rfl, rfl, rfl, rfl, trivial⟩, ⟨rfl, trivial⟩, ⟨_, (.refl _), rfl⟩, by simp_all <;> omega⟩
 ·rintro u hu
  subst hu
  refine zt rfl (fun cn => ?_) (fun cn => ?_)
  ·refine za<|z7 rfl<|z2 (zc (v := .int _ _) rfl)<|z2 (zo isAgg74 sizeOf74 rfl rfl)<|z2 (zo isAgg74 sizeOf74 rfl rfl)<|zh (iApply op ha hb) rfl<|zi sizeOf74 rfl rfl rfl rfl rfl rfl .head rfl<|z6<|zj<|yl rfl ⟨_, .head⟩ isAgg74 sizeOf74 rfl ?_
   rw [apply_clip cn]; try rfl
  ·obtain ⟨k, hk, hop⟩ := sum_op (Classical.byContradiction fun h => cn (.inr h))
   have hn : ¬ (a.2 < a.1 ∨ b.2 < b.1) := fun h => cn (.inl h)
   rw [(apply_sum hk hop hn).2]
   refine zk<|za<|z7 rfl<|z2 (zc (v := .int _ _) rfl)<|z2 (zo isAgg74 sizeOf74 rfl rfl)<|z2 (zo isAgg74 sizeOf74 rfl rfl)<|zh (iCorners op k hk hop ha hb) rfl<|z2 (Gv.fieldA (l := [_, _]) underlying261 rfl isAgg74 sizeOf74 rfl rfl)<|zi sizeOf74 rfl rfl rfl rfl rfl rfl .head rfl<|z6<|zj<|yl rfl ⟨_, .head⟩ isAgg74 sizeOf74 rfl ?_
   rw [sumP, if_pos rfl]; try rfl
end Go.Proofs.YtjnpcfpecilejaaGreatDoor
