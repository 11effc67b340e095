/- What is asked of the program itself, of the law RangesFixed, fact for fact. No conditions. -/
import Derived.Test.YtjnpcfpecilejaaGreatDoorZr
import Derived.Test.YtjnpcfpecilejaaGreatDoorZg
import Derived.Test.YtjnpcfpecilejaaGreatDoorZc
import Derived.Test.YtjnpcfpecilejaaGreatDoorZd
import Derived.Lib.LaidRTab
import Derived.Test.YtjnpcfpecilejaaGreatDoorRows
import Derived.Test.YtjnpcfpecilejaaGreatDoorChecked
import Derived.ProofKit
import Derived.JoinedOf
set_option linter.unusedVariables false
set_option linter.unusedSimpArgs false
set_option linter.unusedSectionVars false
namespace Go.Proofs.YtjnpcfpecilejaaGreatDoor
open Go.Proofs.Tryz
open Go.Proofs Go.Lib Go.Shelf Go.RowKit
variable {E : World}
set_option maxRecDepth 20000
theorem madeV_iff {f : PFunc} (hF : RuleF f) (k : Nat) : (k : Int) ∈ madeV f ↔ 0 ≤ (makerT f k).1 := by
 constructor
 ·intro h
  obtain ⟨q, hq, e⟩ := List.mem_map.1 h
  have := (made_of hF q hq).2.2.1
  rwa [e] at this
 ·intro h
  obtain ⟨i, b, h1, ⟨p, h2, h3, _⟩ | ⟨j, x, h2, h3, _⟩⟩ := maker_cases h
  ·exact List.mem_map.2 ⟨_, made_phi (List.mem_of_getElem? h1) h2, h3⟩
  ·exact List.mem_map.2 ⟨_, made_inst (List.mem_of_getElem? h1) (List.mem_of_getElem? h2) (by omega), h3⟩
theorem lv_all {l : List Rng} {n : Nat} (h : okL64 n l) : ∀ r ∈ l, ok64 r := fun r hr => by
 obtain ⟨k, hk, rfl⟩ := List.mem_iff_getElem.1 hr
 have := h.2 k (by omega)
 unfold lv at this
 rwa [show ((k : Int).toNat) = k from rfl, List.getElem?_eq_getElem hk] at this
theorem rangesFixed_law (f : PFunc) (hw : wFunc f) (hN : ∀ b ∈ f.blocks, ∀ x ∈ b.insts, is64 x.num) (hL : Letters E) : AFun Tryz.prog E 9 [.agg (encF f)] (.bool true) := by
 have hlv := lives22_spec (E := E) hL
 refine zx func9 rfl (by decide) rfl<|za<|z7 rfl<|yk (cs := _) rfl rfl rfl<|z2 (zd (v := .bool _) rfl)<|z6<|za<|za<|z7 rfl<|zh (hlv) rfl<|z2 (yx rfl)<|z2 (zc (v := .bool _) rfl)<|zb rfl rfl rfl<|z2 (zr isAgg26 sizeOf26 rfl rfl)<|zb rfl rfl rfl<|zh (lawSingle_spec f hw hL) rfl<|zb rfl rfl rfl<|z2 (yx rfl)<|z2 (zt (v := .bool _) rfl rfl rfl)<|z6<|y9 rfl (fun cs => ?_) (fun cs => ?_)
 ·refine za<|z7 rfl<|zh (hlv) rfl<|z2 (zd (v := .bool _) rfl)<|z6<|zo<|zw (x := .bool _) rfl ?_
  rfl
 ·have hS : lawSing f = true := by cases h : lawSing f; rw [h] at cs; simp at cs; rfl
  have hfew : fewB f = true := by cases h : fewB f; unfold lawSing at hS; rw [h] at hS; simp at hS; rfl
  have hsm := ((fewB_iff f).1 hfew).small
  have hs : (typedB f && singB f) = true := by unfold lawSing at hS; rw [hfew] at hS; exact hS
  have hvn := hsm.1
  have hF := ruleF_of hsm hs
  have hR := made_rules (ruleF_ok hF hN) (made_of hF)
  obtain ⟨K, hK⟩ := stops_ex hR
  have hof := vOf_ok (E := E) f hsm hL hs hR K hK
  obtain ⟨hol, hpo⟩ := endF_post hR hK
  have hke : ∀ k : Nat, k < f.vars.length → ¬ 0 ≤ (makerT f k).1 → lv (endF f K) k = firstR f k := fun k hk hm => by
   rw [endF_keep hR (by omega) (fun h => hm ((madeV_iff hF k).1 h)) K, firstL_lv (by omega), if_pos (by omega)]
   unfold first0R; rw [if_pos (by omega)]
  obtain ⟨l, hle⟩ : ∃ l, endF f K = l := ⟨_, rfl⟩
  rw [hle] at hof hol hpo hke
  have hall := lv_all hol
  have hll := hol.1
  refine zp<|za<|z7 rfl<|z2 (zr isAgg26 sizeOf26 rfl rfl)<|zh (hof) rfl<|z2 (zc (v := .tup _) rfl)<|z2 (yp (v := .fro _ _) rfl rfl)<|z2 (yp (v := .int _ _) rfl rfl)<|z2 (zd (v := .fro _ _) rfl)<|z2 (zd (v := .int _ _) rfl)<|z6<|za<|za<|z7 rfl<|z2 (zc (v := .int _ _) rfl)<|z2 (yz rfl rfl)<|z6<|q0 rfl rfl<|zp<|za<|za<|z7 rfl<|z2 (zg underlying26 rfl sizeOf22 (by decide) rfl rfl)<|z2 (zf (c := .fro _ _) isAgg22 rfl)<|z2 (yb underlying22 rfl)<|z2 (zc (v := .int _ _) rfl)<|z6<|zq<|yj (γ := Nat) [1, 3, 25] (fun k => [(26, .int .i64 k)]) (fun k => []) (fun k => k ≤ f.vars.length) (fun k => f.vars.length - k) 0 ⟨rfl, trivial⟩ ⟨_, (.refl _), rfl⟩ (Nat.zero_le _) ?_
  rintro k hk
  refine za<|z7 rfl<|z2 (yn rfl rfl)<|z6<|za<|zy rfl (fun ck => ?_) (fun ck => ?_)
  ·have hk2 : k < f.vars.length := by simp at ck; omega
   have hget : l[k]? = some (lv l k) := lv_get (l := l) (a := (k : Int)) (by omega)
   have hg2 : (l.map encZ)[k]? = some (encZ (lv l k)) := by rw [List.getElem?_map, hget]; rfl
   have hvf := vFirst_spec (E := E) f hsm hL (k : Int)
   have hfp : firstP f (k : Int) = firstR f (k : Int) := by unfold firstP; rw [if_pos ⟨(and3 hs).1, by omega, by omega⟩]
   rw [hfp] at hvf
   have hru := vRule_spec (E := E) f hsm hL l hall (by omega) (k : Int)
   have hrb : ruleB f l k = decide (0 ≤ (makerT f k).1) := by unfold ruleB; rw [hs, Bool.true_and]; exact decide_eq_decide.2 ⟨fun h => h.2.2.2, fun h => ⟨hll, by omega, by omega, h⟩⟩
   obtain ⟨rp, hrp⟩ : ∃ rp, ruleP f l k = rp := ⟨_, rfl⟩
   rw [hrp, hrb] at hru
   have hyes : 0 ≤ (makerT f k).1 → rSub rp (lv l k) := fun h => by
    have := hpo k ((madeV_iff hF k).2 h)
    rw [← hrp, ruleP, hrb, if_pos (decide_eq_true h)]; exact this
   have hno := hke k hk2
   refine zp<|za<|zq<|za<|z7 rfl<|z2 (zc (v := .int _ _) rfl)<|z2 (zd (v := .int _ _) rfl)<|z6<|za<|z7 rfl<|z2 (zr isAgg26 sizeOf26 rfl rfl)<|z2 (zc (v := .fro _ _) rfl)<|z2 (zc (v := .int _ _) rfl)<|zh (hru) rfl<|z2 (zc (v := .tup _) rfl)<|z2 (yp (v := .agg _) rfl rfl)<|z2 (yp (v := .bool _) rfl rfl)<|zz (cs := [.int .i64 0, .int .i64 0]) zeroValue74 rfl rfl<|fun i6 => zj sizeOf74 rfl rfl rfl rfl rfl rfl .head rfl<|z2 (zd (v := .bool _) rfl)<|z6<|za ?_
   by_cases hm : 0 ≤ (makerT f k).1
   ·have hsub := hyes hm
    rw [decide_eq_true hm]
    refine yt (γ := Bool) [1, 3, 25, 26] (fun u => [(77, .bool u)]) (fun u => []) (fun u => u = false) ?_ (fun _ _ h => h) ?_
    ·refine yg (fun j => false) (by kernel_rfl) rfl (y4 (.r (.rest _)))<|ze (i := 0) rfl (by kernel_rfl) (zc (v := .bool _) rfl)<|ze (i := 1) rfl (by kernel_rfl) (zc (v := .bool _) rfl)<|qe (s := 37) rfl (fun c1 => ?_) (fun c1 => ?_)
     ·refine y7 (i := 2) rfl rfl rfl c1 (by kernel_rfl) (y5 underlying74 rfl sizeOf2 (by decide) rfl rfl)<|y7 (i := 3) rfl rfl rfl c1 (by kernel_rfl) (y8 (c := .int _ _) isAgg2 rfl ⟨_, .head⟩ rfl)<|y7 (i := 4) rfl rfl rfl c1 (by kernel_rfl) (y5 underlying74 rfl sizeOf2 (by decide) rfl rfl)<|y7 (i := 5) rfl rfl rfl c1 (by kernel_rfl) (y8 (c := .int _ _) isAgg2 rfl ⟨_, .head⟩ rfl)<|y7 (i := 6) rfl rfl rfl c1 (by kernel_rfl) (Gv.leq rfl rfl)<|ze (i := 7) rfl (by kernel_rfl) (zu (v := .bool _) rfl c1 rfl)<|ze (i := 8) rfl (by kernel_rfl) (zc (v := .bool _) rfl)<|qe (s := 44) rfl (fun c2 => ?_) (fun c2 => ?_)
      ·refine y7 (i := 9) rfl rfl rfl c2 (by kernel_rfl) (y5 underlying74 rfl sizeOf2 (by decide) rfl rfl)<|y7 (i := 10) rfl rfl rfl c2 (by kernel_rfl) (y8 (c := .int _ _) isAgg2 rfl ⟨_, .head⟩ rfl)<|y7 (i := 11) rfl rfl rfl c2 (by kernel_rfl) (zc (v := .fro _ _) rfl)<|y7 (i := 12) rfl rfl rfl c2 (by kernel_rfl) (zc (v := .int _ _) rfl)<|y7 (i := 13) rfl rfl rfl c2 (by kernel_rfl) (yd (j := k) underlying41 sizeOf74 rfl rfl rfl hget)<|y7 (i := 14) rfl rfl rfl c2 (by kernel_rfl) (zg underlying74 rfl sizeOf2 (by decide) rfl rfl)<|y7 (i := 15) rfl rfl rfl c2 (by kernel_rfl) (zf (c := .int _ _) isAgg2 rfl)<|y7 (i := 16) rfl rfl rfl c2 (by kernel_rfl) (yn rfl rfl)<|y7 (i := 17) rfl rfl rfl c2 (by kernel_rfl) (zc (v := .bool _) rfl)<|qe (s := 53) rfl (fun c3 => ?_) (fun c3 => ?_)
       ·refine y1 (i := 18) rfl rfl rfl c3 (by kernel_rfl)<|y1 (i := 19) rfl rfl rfl c3 (by kernel_rfl)<|y1 (i := 20) rfl rfl rfl c3 (by kernel_rfl)<|y1 (i := 21) rfl rfl rfl c3 (by kernel_rfl)<|y1 (i := 22) rfl rfl rfl c3 (by kernel_rfl)<|y1 (i := 23) rfl rfl rfl c3 (by kernel_rfl)<|y1 (i := 24) rfl rfl rfl c3 (by kernel_rfl)<|y1 (i := 25) rfl rfl rfl c3 (by kernel_rfl)<|y7 (i := 26) rfl rfl rfl c2 (by kernel_rfl) (zu (v := .bool _) rfl c3 rfl)<|ze (i := 27) rfl (by kernel_rfl) (zu (v := .bool _) rfl c2 rfl)<|ze (i := 28) rfl (by kernel_rfl) (zc (v := .bool _) rfl)<|y1 (i := 29) rfl rfl rfl rfl (by kernel_rfl)<|y1 (i := 30) rfl rfl rfl rfl (by kernel_rfl)<|y1 (i := 31) rfl rfl rfl rfl (by kernel_rfl)<|q3 (i := 32) rfl rfl rfl (by kernel_rfl) (by kernel_rfl) (by kernel_rfl) (by kernel_rfl) (by kernel_rfl) (by kernel_rfl)<|q3 (i := 33) rfl rfl rfl (by kernel_rfl) (by kernel_rfl) (by kernel_rfl) (by kernel_rfl) (by kernel_rfl) (by kernel_rfl)<|q3 (i := 34) rfl rfl rfl (by kernel_rfl) (by kernel_rfl) (by kernel_rfl) (by kernel_rfl) (by kernel_rfl) (by kernel_rfl)<|q3 (i := 35) rfl rfl rfl (by kernel_rfl) (by kernel_rfl) (by kernel_rfl) (by kernel_rfl) (by kernel_rfl) (by kernel_rfl)<|q3 (i := 36) rfl rfl rfl (by kernel_rfl) (by kernel_rfl) (by kernel_rfl) (by kernel_rfl) (by kernel_rfl) (by kernel_rfl)<|zm (i := 37) rfl (by kernel_rfl)<|zl rfl rfl<|z6<|zm (i := 38) rfl (by kernel_rfl)<|zl rfl rfl<|z6<|zm (i := 39) rfl (by kernel_rfl)<|zl rfl rfl<|z6<|y1 (i := 40) rfl rfl rfl rfl (by kernel_rfl)<|ze (i := 41) rfl (by kernel_rfl) (zu (v := .bool _) rfl rfl rfl)<|y6 (by kernel_rfl) ?_
        exact ⟨_, ⟨rfl, rfl, rfl, rfl, trivial⟩, ⟨rfl, trivial⟩, ⟨_, (.drop (.refl _)), rfl⟩, by unfold rSub at hsub; simp_all <;> omega⟩
       ·refine y7 (i := 18) rfl rfl rfl c3 (by kernel_rfl) (y5 underlying74 rfl sizeOf2 (by decide) rfl rfl)<|y7 (i := 19) rfl rfl rfl c3 (by kernel_rfl) (y8 (c := .int _ _) isAgg2 rfl ⟨_, .head⟩ rfl)<|y7 (i := 20) rfl rfl rfl c3 (by kernel_rfl) (zc (v := .fro _ _) rfl)<|y7 (i := 21) rfl rfl rfl c3 (by kernel_rfl) (zc (v := .int _ _) rfl)<|y7 (i := 22) rfl rfl rfl c3 (by kernel_rfl) (yd (j := k) underlying41 sizeOf74 rfl rfl rfl hget)<|y7 (i := 23) rfl rfl rfl c3 (by kernel_rfl) (zg underlying74 rfl sizeOf2 (by decide) rfl rfl)<|y7 (i := 24) rfl rfl rfl c3 (by kernel_rfl) (zf (c := .int _ _) isAgg2 rfl)<|y7 (i := 25) rfl rfl rfl c3 (by kernel_rfl) (q9 rfl rfl)<|y7 (i := 26) rfl rfl rfl c2 (by kernel_rfl) (zt (v := .bool _) rfl c3 rfl)<|ze (i := 27) rfl (by kernel_rfl) (zu (v := .bool _) rfl c2 rfl)<|ze (i := 28) rfl (by kernel_rfl) (zc (v := .bool _) rfl)<|qe (s := 64) rfl (fun c4 => ?_) (fun c4 => ?_)
        ·refine y1 (i := 29) rfl rfl rfl c4 (by kernel_rfl)<|y1 (i := 30) rfl rfl rfl c4 (by kernel_rfl)<|y1 (i := 31) rfl rfl rfl c4 (by kernel_rfl)<|q3 (i := 32) rfl rfl rfl (by kernel_rfl) (by kernel_rfl) (by kernel_rfl) (by kernel_rfl) (by kernel_rfl) (by kernel_rfl)<|q3 (i := 33) rfl rfl rfl (by kernel_rfl) (by kernel_rfl) (by kernel_rfl) (by kernel_rfl) (by kernel_rfl) (by kernel_rfl)<|q3 (i := 34) rfl rfl rfl (by kernel_rfl) (by kernel_rfl) (by kernel_rfl) (by kernel_rfl) (by kernel_rfl) (by kernel_rfl)<|q3 (i := 35) rfl rfl rfl (by kernel_rfl) (by kernel_rfl) (by kernel_rfl) (by kernel_rfl) (by kernel_rfl) (by kernel_rfl)<|q3 (i := 36) rfl rfl rfl (by kernel_rfl) (by kernel_rfl) (by kernel_rfl) (by kernel_rfl) (by kernel_rfl) (by kernel_rfl)<|zm (i := 37) rfl (by kernel_rfl)<|zl rfl rfl<|z6<|zm (i := 38) rfl (by kernel_rfl)<|zl rfl rfl<|z6<|zm (i := 39) rfl (by kernel_rfl)<|zl rfl rfl<|z6<|y1 (i := 40) rfl rfl rfl c4 (by kernel_rfl)<|ze (i := 41) rfl (by kernel_rfl) (zu (v := .bool _) rfl c4 rfl)<|y6 (by kernel_rfl) ?_
         exact ⟨_, ⟨rfl, rfl, rfl, rfl, trivial⟩, ⟨rfl, trivial⟩, ⟨_, (.drop (.refl _)), rfl⟩, by unfold rSub at hsub; simp_all <;> omega⟩
        ·refine y7 (i := 29) rfl rfl rfl c4 (by kernel_rfl) (zc (v := .bool _) rfl)<|y7 (i := 30) rfl rfl rfl c4 (by kernel_rfl) (yx rfl)<|y7 (i := 31) rfl rfl rfl c4 (by kernel_rfl) (zc (v := .bool _) rfl)<|qe (s := 67) rfl (fun c5 => ?_) (fun c5 => ?_)
         ·refine y7 (i := 32) rfl rfl rfl c5 (by kernel_rfl) (zc (v := .fro _ _) rfl)<|y7 (i := 33) rfl rfl rfl c5 (by kernel_rfl) (zc (v := .int _ _) rfl)<|y7 (i := 34) rfl rfl rfl c5 (by kernel_rfl) (yd (j := k) underlying41 sizeOf74 rfl rfl rfl hget)<|y7 (i := 35) rfl rfl rfl c5 (by kernel_rfl) (zr isAgg74 sizeOf74 rfl rfl)<|y7 (i := 36) rfl rfl rfl c5 (by kernel_rfl) (zr isAgg26 sizeOf26 rfl rfl)<|y7 (i := 37) rfl rfl rfl c5 (by kernel_rfl) (zc (v := .int _ _) rfl)<|zm (i := 38) rfl (by kernel_rfl)<|zb rfl rfl c5<|zh (hvf) rfl<|z6<|y7 (i := 39) rfl rfl rfl c5 (by kernel_rfl) (Gv.neqP (xs := [.int _ _, .int _ _]) (ys := [.int _ _, .int _ _]) (by kernel_rfl) rfl rfl (fun w => eq_range _ _ _ _ w))<|y7 (i := 40) rfl rfl rfl c4 (by kernel_rfl) (zu (v := .bool _) rfl c5 rfl)<|ze (i := 41) rfl (by kernel_rfl) (zt (v := .bool _) rfl c4 rfl)<|y6 (by kernel_rfl) ?_
          exact ⟨_, ⟨rfl, rfl, rfl, rfl, trivial⟩, ⟨rfl, trivial⟩, ⟨_, (.drop (.refl _)), rfl⟩, by unfold rSub at hsub; simp_all <;> omega⟩
         ·refine y1 (i := 32) rfl rfl rfl c5 (by kernel_rfl)<|y1 (i := 33) rfl rfl rfl c5 (by kernel_rfl)<|y1 (i := 34) rfl rfl rfl c5 (by kernel_rfl)<|y1 (i := 35) rfl rfl rfl c5 (by kernel_rfl)<|y1 (i := 36) rfl rfl rfl c5 (by kernel_rfl)<|y1 (i := 37) rfl rfl rfl c5 (by kernel_rfl)<|y1 (i := 38) rfl rfl rfl c5 (by kernel_rfl)<|y1 (i := 39) rfl rfl rfl c5 (by kernel_rfl)<|y7 (i := 40) rfl rfl rfl c4 (by kernel_rfl) (zt (v := .bool _) rfl c5 rfl)<|ze (i := 41) rfl (by kernel_rfl) (zt (v := .bool _) rfl c4 rfl)<|y6 (by kernel_rfl) ?_
          exact ⟨_, ⟨rfl, rfl, rfl, rfl, trivial⟩, ⟨rfl, trivial⟩, ⟨_, (.drop (.refl _)), rfl⟩, by unfold rSub at hsub; simp_all <;> omega⟩
      ·refine y1 (i := 9) rfl rfl rfl c2 (by kernel_rfl)<|y1 (i := 10) rfl rfl rfl c2 (by kernel_rfl)<|y1 (i := 11) rfl rfl rfl c2 (by kernel_rfl)<|y1 (i := 12) rfl rfl rfl c2 (by kernel_rfl)<|y1 (i := 13) rfl rfl rfl c2 (by kernel_rfl)<|y1 (i := 14) rfl rfl rfl c2 (by kernel_rfl)<|y1 (i := 15) rfl rfl rfl c2 (by kernel_rfl)<|y1 (i := 16) rfl rfl rfl c2 (by kernel_rfl)<|y1 (i := 17) rfl rfl rfl c2 (by kernel_rfl)<|q3 (i := 18) rfl rfl rfl (by kernel_rfl) (by kernel_rfl) (by kernel_rfl) (by kernel_rfl) (by kernel_rfl) (by kernel_rfl)<|q3 (i := 19) rfl rfl rfl (by kernel_rfl) (by kernel_rfl) (by kernel_rfl) (by kernel_rfl) (by kernel_rfl) (by kernel_rfl)<|q3 (i := 20) rfl rfl rfl (by kernel_rfl) (by kernel_rfl) (by kernel_rfl) (by kernel_rfl) (by kernel_rfl) (by kernel_rfl)<|zm (i := 21) rfl (by kernel_rfl)<|zl rfl rfl<|z6<|zm (i := 22) rfl (by kernel_rfl)<|zl rfl rfl<|z6<|zm (i := 23) rfl (by kernel_rfl)<|zl rfl rfl<|z6<|zm (i := 24) rfl (by kernel_rfl)<|zl rfl rfl<|z6<|zm (i := 25) rfl (by kernel_rfl)<|zl rfl rfl<|z6<|y1 (i := 26) rfl rfl rfl c2 (by kernel_rfl)<|ze (i := 27) rfl (by kernel_rfl) (zt (v := .bool _) rfl c2 rfl)<|ze (i := 28) rfl (by kernel_rfl) (zc (v := .bool _) rfl)<|y7 (i := 29) rfl rfl rfl rfl (by kernel_rfl) (zc (v := .bool _) rfl)<|y7 (i := 30) rfl rfl rfl rfl (by kernel_rfl) (yx rfl)<|y7 (i := 31) rfl rfl rfl rfl (by kernel_rfl) (zc (v := .bool _) rfl)<|qe (s := 67) rfl (fun c6 => ?_) (fun c6 => ?_)
       ·refine y7 (i := 32) rfl rfl rfl c6 (by kernel_rfl) (zc (v := .fro _ _) rfl)<|y7 (i := 33) rfl rfl rfl c6 (by kernel_rfl) (zc (v := .int _ _) rfl)<|y7 (i := 34) rfl rfl rfl c6 (by kernel_rfl) (yd (j := k) underlying41 sizeOf74 rfl rfl rfl hget)<|y7 (i := 35) rfl rfl rfl c6 (by kernel_rfl) (zr isAgg74 sizeOf74 rfl rfl)<|y7 (i := 36) rfl rfl rfl c6 (by kernel_rfl) (zr isAgg26 sizeOf26 rfl rfl)<|y7 (i := 37) rfl rfl rfl c6 (by kernel_rfl) (zc (v := .int _ _) rfl)<|zm (i := 38) rfl (by kernel_rfl)<|zb rfl rfl c6<|zh (hvf) rfl<|z6<|y7 (i := 39) rfl rfl rfl c6 (by kernel_rfl) (Gv.neqP (xs := [.int _ _, .int _ _]) (ys := [.int _ _, .int _ _]) (by kernel_rfl) rfl rfl (fun w => eq_range _ _ _ _ w))<|y7 (i := 40) rfl rfl rfl rfl (by kernel_rfl) (zu (v := .bool _) rfl c6 rfl)<|ze (i := 41) rfl (by kernel_rfl) (zt (v := .bool _) rfl rfl rfl)<|y6 (by kernel_rfl) ?_
        exact ⟨_, ⟨rfl, rfl, rfl, rfl, trivial⟩, ⟨rfl, trivial⟩, ⟨_, (.drop (.refl _)), rfl⟩, by unfold rSub at hsub; simp_all <;> omega⟩
       ·refine y1 (i := 32) rfl rfl rfl c6 (by kernel_rfl)<|y1 (i := 33) rfl rfl rfl c6 (by kernel_rfl)<|y1 (i := 34) rfl rfl rfl c6 (by kernel_rfl)<|y1 (i := 35) rfl rfl rfl c6 (by kernel_rfl)<|y1 (i := 36) rfl rfl rfl c6 (by kernel_rfl)<|y1 (i := 37) rfl rfl rfl c6 (by kernel_rfl)<|y1 (i := 38) rfl rfl rfl c6 (by kernel_rfl)<|y1 (i := 39) rfl rfl rfl c6 (by kernel_rfl)<|y7 (i := 40) rfl rfl rfl rfl (by kernel_rfl) (zt (v := .bool _) rfl c6 rfl)<|ze (i := 41) rfl (by kernel_rfl) (zt (v := .bool _) rfl rfl rfl)<|y6 (by kernel_rfl) ?_
        exact ⟨_, ⟨rfl, rfl, rfl, rfl, trivial⟩, ⟨rfl, trivial⟩, ⟨_, (.drop (.refl _)), rfl⟩, by unfold rSub at hsub; simp_all <;> omega⟩
     ·refine y1 (i := 2) rfl rfl rfl c1 (by kernel_rfl)<|y1 (i := 3) rfl rfl rfl c1 (by kernel_rfl)<|y1 (i := 4) rfl rfl rfl c1 (by kernel_rfl)<|y1 (i := 5) rfl rfl rfl c1 (by kernel_rfl)<|y1 (i := 6) rfl rfl rfl c1 (by kernel_rfl)<|ze (i := 7) rfl (by kernel_rfl) (zt (v := .bool _) rfl c1 rfl)<|ze (i := 8) rfl (by kernel_rfl) (zc (v := .bool _) rfl)<|y1 (i := 9) rfl rfl rfl rfl (by kernel_rfl)<|y1 (i := 10) rfl rfl rfl rfl (by kernel_rfl)<|y1 (i := 11) rfl rfl rfl rfl (by kernel_rfl)<|y1 (i := 12) rfl rfl rfl rfl (by kernel_rfl)<|y1 (i := 13) rfl rfl rfl rfl (by kernel_rfl)<|y1 (i := 14) rfl rfl rfl rfl (by kernel_rfl)<|y1 (i := 15) rfl rfl rfl rfl (by kernel_rfl)<|y1 (i := 16) rfl rfl rfl rfl (by kernel_rfl)<|y1 (i := 17) rfl rfl rfl rfl (by kernel_rfl)<|q3 (i := 18) rfl rfl rfl (by kernel_rfl) (by kernel_rfl) (by kernel_rfl) (by kernel_rfl) (by kernel_rfl) (by kernel_rfl)<|q3 (i := 19) rfl rfl rfl (by kernel_rfl) (by kernel_rfl) (by kernel_rfl) (by kernel_rfl) (by kernel_rfl) (by kernel_rfl)<|q3 (i := 20) rfl rfl rfl (by kernel_rfl) (by kernel_rfl) (by kernel_rfl) (by kernel_rfl) (by kernel_rfl) (by kernel_rfl)<|zm (i := 21) rfl (by kernel_rfl)<|zl rfl rfl<|z6<|zm (i := 22) rfl (by kernel_rfl)<|zl rfl rfl<|z6<|zm (i := 23) rfl (by kernel_rfl)<|zl rfl rfl<|z6<|zm (i := 24) rfl (by kernel_rfl)<|zl rfl rfl<|z6<|zm (i := 25) rfl (by kernel_rfl)<|zl rfl rfl<|z6<|y1 (i := 26) rfl rfl rfl rfl (by kernel_rfl)<|ze (i := 27) rfl (by kernel_rfl) (zt (v := .bool _) rfl rfl rfl)<|ze (i := 28) rfl (by kernel_rfl) (zc (v := .bool _) rfl)<|y7 (i := 29) rfl rfl rfl rfl (by kernel_rfl) (zc (v := .bool _) rfl)<|y7 (i := 30) rfl rfl rfl rfl (by kernel_rfl) (yx rfl)<|y7 (i := 31) rfl rfl rfl rfl (by kernel_rfl) (zc (v := .bool _) rfl)<|qe (s := 67) rfl (fun c7 => ?_) (fun c7 => ?_)
      ·refine y7 (i := 32) rfl rfl rfl c7 (by kernel_rfl) (zc (v := .fro _ _) rfl)<|y7 (i := 33) rfl rfl rfl c7 (by kernel_rfl) (zc (v := .int _ _) rfl)<|y7 (i := 34) rfl rfl rfl c7 (by kernel_rfl) (yd (j := k) underlying41 sizeOf74 rfl rfl rfl hget)<|y7 (i := 35) rfl rfl rfl c7 (by kernel_rfl) (zr isAgg74 sizeOf74 rfl rfl)<|y7 (i := 36) rfl rfl rfl c7 (by kernel_rfl) (zr isAgg26 sizeOf26 rfl rfl)<|y7 (i := 37) rfl rfl rfl c7 (by kernel_rfl) (zc (v := .int _ _) rfl)<|zm (i := 38) rfl (by kernel_rfl)<|zb rfl rfl c7<|zh (hvf) rfl<|z6<|y7 (i := 39) rfl rfl rfl c7 (by kernel_rfl) (Gv.neqP (xs := [.int _ _, .int _ _]) (ys := [.int _ _, .int _ _]) (by kernel_rfl) rfl rfl (fun w => eq_range _ _ _ _ w))<|y7 (i := 40) rfl rfl rfl rfl (by kernel_rfl) (zu (v := .bool _) rfl c7 rfl)<|ze (i := 41) rfl (by kernel_rfl) (zt (v := .bool _) rfl rfl rfl)<|y6 (by kernel_rfl) ?_
       exact ⟨_, ⟨rfl, rfl, rfl, rfl, trivial⟩, ⟨rfl, trivial⟩, ⟨_, (.drop (.refl _)), rfl⟩, by unfold rSub at hsub; simp_all <;> omega⟩
      ·refine y1 (i := 32) rfl rfl rfl c7 (by kernel_rfl)<|y1 (i := 33) rfl rfl rfl c7 (by kernel_rfl)<|y1 (i := 34) rfl rfl rfl c7 (by kernel_rfl)<|y1 (i := 35) rfl rfl rfl c7 (by kernel_rfl)<|y1 (i := 36) rfl rfl rfl c7 (by kernel_rfl)<|y1 (i := 37) rfl rfl rfl c7 (by kernel_rfl)<|y1 (i := 38) rfl rfl rfl c7 (by kernel_rfl)<|y1 (i := 39) rfl rfl rfl c7 (by kernel_rfl)<|y7 (i := 40) rfl rfl rfl rfl (by kernel_rfl) (zt (v := .bool _) rfl c7 rfl)<|ze (i := 41) rfl (by kernel_rfl) (zt (v := .bool _) rfl rfl rfl)<|y6 (by kernel_rfl) ?_
       exact ⟨_, ⟨rfl, rfl, rfl, rfl, trivial⟩, ⟨rfl, trivial⟩, ⟨_, (.drop (.refl _)), rfl⟩, by unfold rSub at hsub; simp_all <;> omega⟩
    ·rintro u hu
     subst hu
     refine q0 rfl rfl<|zp<|z7 rfl<|z2 (yl rfl rfl (by unfold I64; omega))<|z2 (zc (v := .int _ _) rfl)<|z6 ?_
     exact ⟨k + 1, ⟨rfl, rfl, rfl, trivial⟩, ⟨rfl, trivial⟩, ⟨_, (.refl _), rfl⟩, hk2, by omega⟩
   ·have hk0 := hno hm
    rw [decide_eq_false hm]
    refine yt (γ := Bool) [1, 3, 25, 26] (fun u => [(77, .bool u)]) (fun u => []) (fun u => u = false) ?_ (fun _ _ h => h) ?_
    ·refine yg (fun j => false) (by kernel_rfl) rfl (y4 (.r (.rest _)))<|ze (i := 0) rfl (by kernel_rfl) (zc (v := .bool _) rfl)<|ze (i := 1) rfl (by kernel_rfl) (zc (v := .bool _) rfl)<|qe (s := 37) rfl (fun c8 => ?_) (fun c8 => ?_)
     ·refine y7 (i := 2) rfl rfl rfl c8 (by kernel_rfl) (y5 underlying74 rfl sizeOf2 (by decide) rfl rfl)<|y7 (i := 3) rfl rfl rfl c8 (by kernel_rfl) (y8 (c := .int _ _) isAgg2 rfl ⟨_, .head⟩ rfl)<|y7 (i := 4) rfl rfl rfl c8 (by kernel_rfl) (y5 underlying74 rfl sizeOf2 (by decide) rfl rfl)<|y7 (i := 5) rfl rfl rfl c8 (by kernel_rfl) (y8 (c := .int _ _) isAgg2 rfl ⟨_, .head⟩ rfl)<|y7 (i := 6) rfl rfl rfl c8 (by kernel_rfl) (Gv.leq rfl rfl)<|ze (i := 7) rfl (by kernel_rfl) (zu (v := .bool _) rfl c8 rfl)<|ze (i := 8) rfl (by kernel_rfl) (zc (v := .bool _) rfl)<|qe (s := 44) rfl (fun c9 => ?_) (fun c9 => ?_)
      ·refine y7 (i := 9) rfl rfl rfl c9 (by kernel_rfl) (y5 underlying74 rfl sizeOf2 (by decide) rfl rfl)<|y7 (i := 10) rfl rfl rfl c9 (by kernel_rfl) (y8 (c := .int _ _) isAgg2 rfl ⟨_, .head⟩ rfl)<|y7 (i := 11) rfl rfl rfl c9 (by kernel_rfl) (zc (v := .fro _ _) rfl)<|y7 (i := 12) rfl rfl rfl c9 (by kernel_rfl) (zc (v := .int _ _) rfl)<|y7 (i := 13) rfl rfl rfl c9 (by kernel_rfl) (yd (j := k) underlying41 sizeOf74 rfl rfl rfl hget)<|y7 (i := 14) rfl rfl rfl c9 (by kernel_rfl) (zg underlying74 rfl sizeOf2 (by decide) rfl rfl)<|y7 (i := 15) rfl rfl rfl c9 (by kernel_rfl) (zf (c := .int _ _) isAgg2 rfl)<|y7 (i := 16) rfl rfl rfl c9 (by kernel_rfl) (yn rfl rfl)<|y7 (i := 17) rfl rfl rfl c9 (by kernel_rfl) (zc (v := .bool _) rfl)<|qe (s := 53) rfl (fun c10 => ?_) (fun c10 => ?_)
       ·refine y1 (i := 18) rfl rfl rfl c10 (by kernel_rfl)<|y1 (i := 19) rfl rfl rfl c10 (by kernel_rfl)<|y1 (i := 20) rfl rfl rfl c10 (by kernel_rfl)<|y1 (i := 21) rfl rfl rfl c10 (by kernel_rfl)<|y1 (i := 22) rfl rfl rfl c10 (by kernel_rfl)<|y1 (i := 23) rfl rfl rfl c10 (by kernel_rfl)<|y1 (i := 24) rfl rfl rfl c10 (by kernel_rfl)<|y1 (i := 25) rfl rfl rfl c10 (by kernel_rfl)<|y7 (i := 26) rfl rfl rfl c9 (by kernel_rfl) (zu (v := .bool _) rfl c10 rfl)<|ze (i := 27) rfl (by kernel_rfl) (zu (v := .bool _) rfl c9 rfl)<|ze (i := 28) rfl (by kernel_rfl) (zc (v := .bool _) rfl)<|y1 (i := 29) rfl rfl rfl rfl (by kernel_rfl)<|y1 (i := 30) rfl rfl rfl rfl (by kernel_rfl)<|y1 (i := 31) rfl rfl rfl rfl (by kernel_rfl)<|q3 (i := 32) rfl rfl rfl (by kernel_rfl) (by kernel_rfl) (by kernel_rfl) (by kernel_rfl) (by kernel_rfl) (by kernel_rfl)<|q3 (i := 33) rfl rfl rfl (by kernel_rfl) (by kernel_rfl) (by kernel_rfl) (by kernel_rfl) (by kernel_rfl) (by kernel_rfl)<|q3 (i := 34) rfl rfl rfl (by kernel_rfl) (by kernel_rfl) (by kernel_rfl) (by kernel_rfl) (by kernel_rfl) (by kernel_rfl)<|q3 (i := 35) rfl rfl rfl (by kernel_rfl) (by kernel_rfl) (by kernel_rfl) (by kernel_rfl) (by kernel_rfl) (by kernel_rfl)<|q3 (i := 36) rfl rfl rfl (by kernel_rfl) (by kernel_rfl) (by kernel_rfl) (by kernel_rfl) (by kernel_rfl) (by kernel_rfl)<|zm (i := 37) rfl (by kernel_rfl)<|zl rfl rfl<|z6<|zm (i := 38) rfl (by kernel_rfl)<|zl rfl rfl<|z6<|zm (i := 39) rfl (by kernel_rfl)<|zl rfl rfl<|z6<|y1 (i := 40) rfl rfl rfl rfl (by kernel_rfl)<|ze (i := 41) rfl (by kernel_rfl) (zu (v := .bool _) rfl rfl rfl)<|y6 (by kernel_rfl) ?_
        exact ⟨_, ⟨rfl, rfl, rfl, rfl, trivial⟩, ⟨rfl, trivial⟩, ⟨_, (.drop (.refl _)), rfl⟩, by simp_all⟩
       ·refine y7 (i := 18) rfl rfl rfl c10 (by kernel_rfl) (y5 underlying74 rfl sizeOf2 (by decide) rfl rfl)<|y7 (i := 19) rfl rfl rfl c10 (by kernel_rfl) (y8 (c := .int _ _) isAgg2 rfl ⟨_, .head⟩ rfl)<|y7 (i := 20) rfl rfl rfl c10 (by kernel_rfl) (zc (v := .fro _ _) rfl)<|y7 (i := 21) rfl rfl rfl c10 (by kernel_rfl) (zc (v := .int _ _) rfl)<|y7 (i := 22) rfl rfl rfl c10 (by kernel_rfl) (yd (j := k) underlying41 sizeOf74 rfl rfl rfl hget)<|y7 (i := 23) rfl rfl rfl c10 (by kernel_rfl) (zg underlying74 rfl sizeOf2 (by decide) rfl rfl)<|y7 (i := 24) rfl rfl rfl c10 (by kernel_rfl) (zf (c := .int _ _) isAgg2 rfl)<|y7 (i := 25) rfl rfl rfl c10 (by kernel_rfl) (q9 rfl rfl)<|y7 (i := 26) rfl rfl rfl c9 (by kernel_rfl) (zt (v := .bool _) rfl c10 rfl)<|ze (i := 27) rfl (by kernel_rfl) (zu (v := .bool _) rfl c9 rfl)<|ze (i := 28) rfl (by kernel_rfl) (zc (v := .bool _) rfl)<|qe (s := 64) rfl (fun c11 => ?_) (fun c11 => ?_)
        ·refine y1 (i := 29) rfl rfl rfl c11 (by kernel_rfl)<|y1 (i := 30) rfl rfl rfl c11 (by kernel_rfl)<|y1 (i := 31) rfl rfl rfl c11 (by kernel_rfl)<|q3 (i := 32) rfl rfl rfl (by kernel_rfl) (by kernel_rfl) (by kernel_rfl) (by kernel_rfl) (by kernel_rfl) (by kernel_rfl)<|q3 (i := 33) rfl rfl rfl (by kernel_rfl) (by kernel_rfl) (by kernel_rfl) (by kernel_rfl) (by kernel_rfl) (by kernel_rfl)<|q3 (i := 34) rfl rfl rfl (by kernel_rfl) (by kernel_rfl) (by kernel_rfl) (by kernel_rfl) (by kernel_rfl) (by kernel_rfl)<|q3 (i := 35) rfl rfl rfl (by kernel_rfl) (by kernel_rfl) (by kernel_rfl) (by kernel_rfl) (by kernel_rfl) (by kernel_rfl)<|q3 (i := 36) rfl rfl rfl (by kernel_rfl) (by kernel_rfl) (by kernel_rfl) (by kernel_rfl) (by kernel_rfl) (by kernel_rfl)<|zm (i := 37) rfl (by kernel_rfl)<|zl rfl rfl<|z6<|zm (i := 38) rfl (by kernel_rfl)<|zl rfl rfl<|z6<|zm (i := 39) rfl (by kernel_rfl)<|zl rfl rfl<|z6<|y1 (i := 40) rfl rfl rfl c11 (by kernel_rfl)<|ze (i := 41) rfl (by kernel_rfl) (zu (v := .bool _) rfl c11 rfl)<|y6 (by kernel_rfl) ?_
         exact ⟨_, ⟨rfl, rfl, rfl, rfl, trivial⟩, ⟨rfl, trivial⟩, ⟨_, (.drop (.refl _)), rfl⟩, by simp_all⟩
        ·refine y7 (i := 29) rfl rfl rfl c11 (by kernel_rfl) (zc (v := .bool _) rfl)<|y7 (i := 30) rfl rfl rfl c11 (by kernel_rfl) (yx rfl)<|y7 (i := 31) rfl rfl rfl c11 (by kernel_rfl) (zc (v := .bool _) rfl)<|qe (s := 67) rfl (fun c12 => ?_) (fun c12 => ?_)
         ·refine y7 (i := 32) rfl rfl rfl c12 (by kernel_rfl) (zc (v := .fro _ _) rfl)<|y7 (i := 33) rfl rfl rfl c12 (by kernel_rfl) (zc (v := .int _ _) rfl)<|y7 (i := 34) rfl rfl rfl c12 (by kernel_rfl) (yd (j := k) underlying41 sizeOf74 rfl rfl rfl hget)<|y7 (i := 35) rfl rfl rfl c12 (by kernel_rfl) (zr isAgg74 sizeOf74 rfl rfl)<|y7 (i := 36) rfl rfl rfl c12 (by kernel_rfl) (zr isAgg26 sizeOf26 rfl rfl)<|y7 (i := 37) rfl rfl rfl c12 (by kernel_rfl) (zc (v := .int _ _) rfl)<|zm (i := 38) rfl (by kernel_rfl)<|zb rfl rfl c12<|zh (hvf) rfl<|z6<|y7 (i := 39) rfl rfl rfl c12 (by kernel_rfl) (Gv.neqP (xs := [.int _ _, .int _ _]) (ys := [.int _ _, .int _ _]) (by kernel_rfl) rfl rfl (fun w => eq_range _ _ _ _ w))<|y7 (i := 40) rfl rfl rfl c11 (by kernel_rfl) (zu (v := .bool _) rfl c12 rfl)<|ze (i := 41) rfl (by kernel_rfl) (zt (v := .bool _) rfl c11 rfl)<|y6 (by kernel_rfl) ?_
          exact ⟨_, ⟨rfl, rfl, rfl, rfl, trivial⟩, ⟨rfl, trivial⟩, ⟨_, (.drop (.refl _)), rfl⟩, by simp_all⟩
         ·refine y1 (i := 32) rfl rfl rfl c12 (by kernel_rfl)<|y1 (i := 33) rfl rfl rfl c12 (by kernel_rfl)<|y1 (i := 34) rfl rfl rfl c12 (by kernel_rfl)<|y1 (i := 35) rfl rfl rfl c12 (by kernel_rfl)<|y1 (i := 36) rfl rfl rfl c12 (by kernel_rfl)<|y1 (i := 37) rfl rfl rfl c12 (by kernel_rfl)<|y1 (i := 38) rfl rfl rfl c12 (by kernel_rfl)<|y1 (i := 39) rfl rfl rfl c12 (by kernel_rfl)<|y7 (i := 40) rfl rfl rfl c11 (by kernel_rfl) (zt (v := .bool _) rfl c12 rfl)<|ze (i := 41) rfl (by kernel_rfl) (zt (v := .bool _) rfl c11 rfl)<|y6 (by kernel_rfl) ?_
          exact ⟨_, ⟨rfl, rfl, rfl, rfl, trivial⟩, ⟨rfl, trivial⟩, ⟨_, (.drop (.refl _)), rfl⟩, by simp_all⟩
      ·refine y1 (i := 9) rfl rfl rfl c9 (by kernel_rfl)<|y1 (i := 10) rfl rfl rfl c9 (by kernel_rfl)<|y1 (i := 11) rfl rfl rfl c9 (by kernel_rfl)<|y1 (i := 12) rfl rfl rfl c9 (by kernel_rfl)<|y1 (i := 13) rfl rfl rfl c9 (by kernel_rfl)<|y1 (i := 14) rfl rfl rfl c9 (by kernel_rfl)<|y1 (i := 15) rfl rfl rfl c9 (by kernel_rfl)<|y1 (i := 16) rfl rfl rfl c9 (by kernel_rfl)<|y1 (i := 17) rfl rfl rfl c9 (by kernel_rfl)<|q3 (i := 18) rfl rfl rfl (by kernel_rfl) (by kernel_rfl) (by kernel_rfl) (by kernel_rfl) (by kernel_rfl) (by kernel_rfl)<|q3 (i := 19) rfl rfl rfl (by kernel_rfl) (by kernel_rfl) (by kernel_rfl) (by kernel_rfl) (by kernel_rfl) (by kernel_rfl)<|q3 (i := 20) rfl rfl rfl (by kernel_rfl) (by kernel_rfl) (by kernel_rfl) (by kernel_rfl) (by kernel_rfl) (by kernel_rfl)<|zm (i := 21) rfl (by kernel_rfl)<|zl rfl rfl<|z6<|zm (i := 22) rfl (by kernel_rfl)<|zl rfl rfl<|z6<|zm (i := 23) rfl (by kernel_rfl)<|zl rfl rfl<|z6<|zm (i := 24) rfl (by kernel_rfl)<|zl rfl rfl<|z6<|zm (i := 25) rfl (by kernel_rfl)<|zl rfl rfl<|z6<|y1 (i := 26) rfl rfl rfl c9 (by kernel_rfl)<|ze (i := 27) rfl (by kernel_rfl) (zt (v := .bool _) rfl c9 rfl)<|ze (i := 28) rfl (by kernel_rfl) (zc (v := .bool _) rfl)<|y7 (i := 29) rfl rfl rfl rfl (by kernel_rfl) (zc (v := .bool _) rfl)<|y7 (i := 30) rfl rfl rfl rfl (by kernel_rfl) (yx rfl)<|y7 (i := 31) rfl rfl rfl rfl (by kernel_rfl) (zc (v := .bool _) rfl)<|qe (s := 67) rfl (fun c13 => ?_) (fun c13 => ?_)
       ·refine y7 (i := 32) rfl rfl rfl c13 (by kernel_rfl) (zc (v := .fro _ _) rfl)<|y7 (i := 33) rfl rfl rfl c13 (by kernel_rfl) (zc (v := .int _ _) rfl)<|y7 (i := 34) rfl rfl rfl c13 (by kernel_rfl) (yd (j := k) underlying41 sizeOf74 rfl rfl rfl hget)<|y7 (i := 35) rfl rfl rfl c13 (by kernel_rfl) (zr isAgg74 sizeOf74 rfl rfl)<|y7 (i := 36) rfl rfl rfl c13 (by kernel_rfl) (zr isAgg26 sizeOf26 rfl rfl)<|y7 (i := 37) rfl rfl rfl c13 (by kernel_rfl) (zc (v := .int _ _) rfl)<|zm (i := 38) rfl (by kernel_rfl)<|zb rfl rfl c13<|zh (hvf) rfl<|z6<|y7 (i := 39) rfl rfl rfl c13 (by kernel_rfl) (Gv.neqP (xs := [.int _ _, .int _ _]) (ys := [.int _ _, .int _ _]) (by kernel_rfl) rfl rfl (fun w => eq_range _ _ _ _ w))<|y7 (i := 40) rfl rfl rfl rfl (by kernel_rfl) (zu (v := .bool _) rfl c13 rfl)<|ze (i := 41) rfl (by kernel_rfl) (zt (v := .bool _) rfl rfl rfl)<|y6 (by kernel_rfl) ?_
        exact ⟨_, ⟨rfl, rfl, rfl, rfl, trivial⟩, ⟨rfl, trivial⟩, ⟨_, (.drop (.refl _)), rfl⟩, by simp_all⟩
       ·refine y1 (i := 32) rfl rfl rfl c13 (by kernel_rfl)<|y1 (i := 33) rfl rfl rfl c13 (by kernel_rfl)<|y1 (i := 34) rfl rfl rfl c13 (by kernel_rfl)<|y1 (i := 35) rfl rfl rfl c13 (by kernel_rfl)<|y1 (i := 36) rfl rfl rfl c13 (by kernel_rfl)<|y1 (i := 37) rfl rfl rfl c13 (by kernel_rfl)<|y1 (i := 38) rfl rfl rfl c13 (by kernel_rfl)<|y1 (i := 39) rfl rfl rfl c13 (by kernel_rfl)<|y7 (i := 40) rfl rfl rfl rfl (by kernel_rfl) (zt (v := .bool _) rfl c13 rfl)<|ze (i := 41) rfl (by kernel_rfl) (zt (v := .bool _) rfl rfl rfl)<|y6 (by kernel_rfl) ?_
        exact ⟨_, ⟨rfl, rfl, rfl, rfl, trivial⟩, ⟨rfl, trivial⟩, ⟨_, (.drop (.refl _)), rfl⟩, by simp_all⟩
     ·refine y1 (i := 2) rfl rfl rfl c8 (by kernel_rfl)<|y1 (i := 3) rfl rfl rfl c8 (by kernel_rfl)<|y1 (i := 4) rfl rfl rfl c8 (by kernel_rfl)<|y1 (i := 5) rfl rfl rfl c8 (by kernel_rfl)<|y1 (i := 6) rfl rfl rfl c8 (by kernel_rfl)<|ze (i := 7) rfl (by kernel_rfl) (zt (v := .bool _) rfl c8 rfl)<|ze (i := 8) rfl (by kernel_rfl) (zc (v := .bool _) rfl)<|y1 (i := 9) rfl rfl rfl rfl (by kernel_rfl)<|y1 (i := 10) rfl rfl rfl rfl (by kernel_rfl)<|y1 (i := 11) rfl rfl rfl rfl (by kernel_rfl)<|y1 (i := 12) rfl rfl rfl rfl (by kernel_rfl)<|y1 (i := 13) rfl rfl rfl rfl (by kernel_rfl)<|y1 (i := 14) rfl rfl rfl rfl (by kernel_rfl)<|y1 (i := 15) rfl rfl rfl rfl (by kernel_rfl)<|y1 (i := 16) rfl rfl rfl rfl (by kernel_rfl)<|y1 (i := 17) rfl rfl rfl rfl (by kernel_rfl)<|q3 (i := 18) rfl rfl rfl (by kernel_rfl) (by kernel_rfl) (by kernel_rfl) (by kernel_rfl) (by kernel_rfl) (by kernel_rfl)<|q3 (i := 19) rfl rfl rfl (by kernel_rfl) (by kernel_rfl) (by kernel_rfl) (by kernel_rfl) (by kernel_rfl) (by kernel_rfl)<|q3 (i := 20) rfl rfl rfl (by kernel_rfl) (by kernel_rfl) (by kernel_rfl) (by kernel_rfl) (by kernel_rfl) (by kernel_rfl)<|zm (i := 21) rfl (by kernel_rfl)<|zl rfl rfl<|z6<|zm (i := 22) rfl (by kernel_rfl)<|zl rfl rfl<|z6<|zm (i := 23) rfl (by kernel_rfl)<|zl rfl rfl<|z6<|zm (i := 24) rfl (by kernel_rfl)<|zl rfl rfl<|z6<|zm (i := 25) rfl (by kernel_rfl)<|zl rfl rfl<|z6<|y1 (i := 26) rfl rfl rfl rfl (by kernel_rfl)<|ze (i := 27) rfl (by kernel_rfl) (zt (v := .bool _) rfl rfl rfl)<|ze (i := 28) rfl (by kernel_rfl) (zc (v := .bool _) rfl)<|y7 (i := 29) rfl rfl rfl rfl (by kernel_rfl) (zc (v := .bool _) rfl)<|y7 (i := 30) rfl rfl rfl rfl (by kernel_rfl) (yx rfl)<|y7 (i := 31) rfl rfl rfl rfl (by kernel_rfl) (zc (v := .bool _) rfl)<|qe (s := 67) rfl (fun c14 => ?_) (fun c14 => ?_)
      ·refine y7 (i := 32) rfl rfl rfl c14 (by kernel_rfl) (zc (v := .fro _ _) rfl)<|y7 (i := 33) rfl rfl rfl c14 (by kernel_rfl) (zc (v := .int _ _) rfl)<|y7 (i := 34) rfl rfl rfl c14 (by kernel_rfl) (yd (j := k) underlying41 sizeOf74 rfl rfl rfl hget)<|y7 (i := 35) rfl rfl rfl c14 (by kernel_rfl) (zr isAgg74 sizeOf74 rfl rfl)<|y7 (i := 36) rfl rfl rfl c14 (by kernel_rfl) (zr isAgg26 sizeOf26 rfl rfl)<|y7 (i := 37) rfl rfl rfl c14 (by kernel_rfl) (zc (v := .int _ _) rfl)<|zm (i := 38) rfl (by kernel_rfl)<|zb rfl rfl c14<|zh (hvf) rfl<|z6<|y7 (i := 39) rfl rfl rfl c14 (by kernel_rfl) (Gv.neqP (xs := [.int _ _, .int _ _]) (ys := [.int _ _, .int _ _]) (by kernel_rfl) rfl rfl (fun w => eq_range _ _ _ _ w))<|y7 (i := 40) rfl rfl rfl rfl (by kernel_rfl) (zu (v := .bool _) rfl c14 rfl)<|ze (i := 41) rfl (by kernel_rfl) (zt (v := .bool _) rfl rfl rfl)<|y6 (by kernel_rfl) ?_
       exact ⟨_, ⟨rfl, rfl, rfl, rfl, trivial⟩, ⟨rfl, trivial⟩, ⟨_, (.drop (.refl _)), rfl⟩, by simp_all⟩
      ·refine y1 (i := 32) rfl rfl rfl c14 (by kernel_rfl)<|y1 (i := 33) rfl rfl rfl c14 (by kernel_rfl)<|y1 (i := 34) rfl rfl rfl c14 (by kernel_rfl)<|y1 (i := 35) rfl rfl rfl c14 (by kernel_rfl)<|y1 (i := 36) rfl rfl rfl c14 (by kernel_rfl)<|y1 (i := 37) rfl rfl rfl c14 (by kernel_rfl)<|y1 (i := 38) rfl rfl rfl c14 (by kernel_rfl)<|y1 (i := 39) rfl rfl rfl c14 (by kernel_rfl)<|y7 (i := 40) rfl rfl rfl rfl (by kernel_rfl) (zt (v := .bool _) rfl c14 rfl)<|ze (i := 41) rfl (by kernel_rfl) (zt (v := .bool _) rfl rfl rfl)<|y6 (by kernel_rfl) ?_
       exact ⟨_, ⟨rfl, rfl, rfl, rfl, trivial⟩, ⟨rfl, trivial⟩, ⟨_, (.drop (.refl _)), rfl⟩, by simp_all⟩
    ·rintro u hu
     subst hu
     refine q0 rfl rfl<|zp<|z7 rfl<|z2 (yl rfl rfl (by unfold I64; omega))<|z2 (zc (v := .int _ _) rfl)<|z6 ?_
     exact ⟨k + 1, ⟨rfl, rfl, rfl, trivial⟩, ⟨rfl, trivial⟩, ⟨_, (.refl _), rfl⟩, hk2, by omega⟩
  ·refine yf<|za<|z7 rfl<|z2 (zd (v := .bool _) rfl)<|z6<|zo<|zw (x := .bool _) rfl ?_
   rfl
end Go.Proofs.YtjnpcfpecilejaaGreatDoor
namespace Go.Proofs.YtjnpcfpecilejaaGreatDoor
open Go.Proofs.Tryz
open Go.Proofs Go.Lib Go.Shelf Go.RowKit Go.WideShapes
set_option maxRecDepth 20000
variable {W : World}
theorem decI : Dec Tryz.prog W 3 encI (fun x => (Lit.int .i64 x).wf = true) := Dec.int underlying3
theorem decIs : Dec Tryz.prog W 23 (fun l : List Int => [.fro 1 (l.map encI)]) wL := fun en held fuel cs x h => by
 obtain ⟨l, hl, r⟩ := Dec.slice (k := 1) underlying23 decI (by kernel_rfl) (by decide) en held fuel cs x h
 exact ⟨l, hl.2, r⟩
theorem decVar : Dec Tryz.prog W 56 encVar (fun _ => True) := fun en held fuel cs x h => by
 obtain ⟨xs, n, _, _, hl, hxl, hf⟩ := DataW.trod_struct underlying56 h
 have hl : cs.length = 2 := hl.trans (by kernel_rfl)
 have hxl : xs.length = 2 := hxl
 obtain ⟨a, _, ra⟩ := Dec.at (o := 0) (k := 1) (hf 0 _ rfl) (Dec.str underlying9) (by omega) rfl (by kernel_rfl)
 obtain ⟨b, _, rb⟩ := Dec.at (o := 1) (k := 1) (hf 1 _ rfl) (Dec.int underlying54) (by omega) rfl (by kernel_rfl)
 exact ⟨⟨a, b⟩, trivial, qh (o := 0) ra (qh rb (RepL.fin hl))⟩
theorem decPhi : Dec Tryz.prog W 95 encPhi wPhi := fun en held fuel cs x h => by
 obtain ⟨xs, n, _, _, hl, hxl, hf⟩ := DataW.trod_struct underlying95 h
 have hl : cs.length = 3 := hl.trans (by kernel_rfl)
 have hxl : xs.length = 3 := hxl
 obtain ⟨a, _, ra⟩ := Dec.at (o := 0) (k := 1) (hf 0 _ rfl) decI (by omega) rfl (by kernel_rfl)
 obtain ⟨b, hb, rb⟩ := Dec.at (o := 1) (k := 1) (hf 1 _ rfl) decIs (by omega) rfl (by kernel_rfl)
 obtain ⟨c, hc, rc⟩ := Dec.at (o := 2) (k := 1) (hf 2 _ rfl) decIs (by omega) rfl (by kernel_rfl)
 exact ⟨⟨a, b, c⟩, ⟨hb, hc⟩, qh (o := 0) ra (qh rb (qh rc (RepL.fin hl)))⟩
def wInst (x : PInst) : Prop := wL x.args ∧ (Lit.int .i64 x.num).wf = true
theorem decInst : Dec Tryz.prog W 33 encInst wInst := fun en held fuel cs x h => by
 obtain ⟨xs, n, _, _, hl, hxl, hf⟩ := DataW.trod_struct underlying33 h
 have hl : cs.length = 4 := hl.trans (by kernel_rfl)
 have hxl : xs.length = 4 := hxl
 obtain ⟨a, _, ra⟩ := Dec.at (o := 0) (k := 1) (hf 0 _ rfl) (Dec.int underlying31) (by omega) rfl (by kernel_rfl)
 obtain ⟨b, _, rb⟩ := Dec.at (o := 1) (k := 1) (hf 1 _ rfl) decI (by omega) rfl (by kernel_rfl)
 obtain ⟨c, hc, rc⟩ := Dec.at (o := 2) (k := 1) (hf 2 _ rfl) decIs (by omega) rfl (by kernel_rfl)
 obtain ⟨d, hd, rd⟩ := Dec.at (o := 3) (k := 1) (hf 3 _ rfl) (Dec.int underlying2) (by omega) rfl (by kernel_rfl)
 exact ⟨⟨a, b, c, d⟩, ⟨hc, hd⟩, qh (o := 0) ra (qh rb (qh rc (qh rd (RepL.fin hl))))⟩
theorem decTerm : Dec Tryz.prog W 64 encTerm (fun _ => True) := fun en held fuel cs x h => by
 obtain ⟨xs, n, _, _, hl, hxl, hf⟩ := DataW.trod_struct underlying64 h
 have hl : cs.length = 4 := hl.trans (by kernel_rfl)
 have hxl : xs.length = 3 := hxl
 obtain ⟨a, _, ra⟩ := Dec.at (o := 0) (k := 1) (hf 0 _ rfl) (Dec.int underlying61) (by omega) rfl (by kernel_rfl)
 obtain ⟨b, _, rb⟩ := Dec.at (o := 1) (k := 1) (hf 1 _ rfl) decI (by omega) rfl (by kernel_rfl)
 obtain ⟨c, _, rc⟩ := Dec.at (o := 2) (k := 2) (hf 2 _ rfl) (Dec.pair (k := 1) underlying62 decI (by kernel_rfl) (by kernel_rfl)) (by omega) rfl (by kernel_rfl)
 exact ⟨⟨a, b, c.1, c.2⟩, trivial, qh (o := 0) ra (qh rb (qh rc (RepL.fin hl)))⟩
def NumsI (f : PFunc) : Prop := ∀ b ∈ f.blocks, ∀ x ∈ b.insts, is64 x.num
def wBlkN (b : PBlock) : Prop := wBlk b ∧ ∀ x ∈ b.insts, -9223372036854775808 ≤ x.num ∧ x.num ≤ 9223372036854775807
theorem decBlkN : Dec Tryz.prog W 66 encBlk wBlkN := fun en held fuel cs x h => by
 obtain ⟨xs, n, _, _, hl, hxl, hf⟩ := DataW.trod_struct underlying66 h
 have hl : cs.length = 7 := hl.trans (by kernel_rfl)
 have hxl : xs.length = 4 := hxl
 obtain ⟨a, _, ra⟩ := Dec.at (o := 0) (k := 1) (hf 0 _ rfl) (Dec.str underlying9) (by omega) rfl (by kernel_rfl)
 obtain ⟨b, hb, rb⟩ := Dec.at (o := 1) (k := 1) (hf 1 _ rfl) (Dec.slice (k := 3) underlying59 decPhi (by kernel_rfl) (by decide)) (by omega) rfl (by kernel_rfl)
 obtain ⟨c, hc, rc⟩ := Dec.at (o := 2) (k := 1) (hf 2 _ rfl) (Dec.slice (k := 4) underlying60 decInst (by kernel_rfl) (by decide)) (by omega) rfl (by kernel_rfl)
 obtain ⟨d, _, rd⟩ := Dec.at (o := 3) (k := 4) (hf 3 _ rfl) decTerm (by omega) rfl (by kernel_rfl)
 exact ⟨⟨a, b, c, d⟩, ⟨⟨hb.2, hc.2, hb.1, fun x hx => (hc.1 x hx).1⟩, fun x hx => by simpa [Lit.wf, IntKind.min, IntKind.max, IntKind.signed, IntKind.bits] using (hc.1 x hx).2⟩, qh (o := 0) ra (qh rb (qh rc (qh rd (RepL.fin hl))))⟩
theorem decFN : Dec Tryz.prog W 26 encF (fun f => wFunc f ∧ NumsI f) := fun en held fuel cs x h => by
 obtain ⟨xs, n, _, _, hl, hxl, hf⟩ := DataW.trod_struct underlying26 h
 have hl : cs.length = 3 := hl.trans (by kernel_rfl)
 have hxl : xs.length = 3 := hxl
 obtain ⟨a, ha, ra⟩ := Dec.at (o := 0) (k := 1) (hf 0 _ rfl) (Dec.slice (k := 2) underlying22 decVar (by kernel_rfl) (by decide)) (by omega) rfl (by kernel_rfl)
 obtain ⟨b, hb, rb⟩ := Dec.at (o := 1) (k := 1) (hf 1 _ rfl) decIs (by omega) rfl (by kernel_rfl)
 obtain ⟨c, hc, rc⟩ := Dec.at (o := 2) (k := 1) (hf 2 _ rfl) (Dec.slice (k := 7) underlying24 decBlkN (by kernel_rfl) (by decide)) (by omega) rfl (by kernel_rfl)
 exact ⟨⟨a, b, c⟩, ⟨⟨ha.2, hb, hc.2, fun x hx => (hc.1 x hx).1⟩, fun x hx => (hc.1 x hx).2⟩, qh (o := 0) ra (qh rb (qh rc (RepL.fin hl)))⟩
theorem of_struct {H : Type} {enc : TypeId × Value → H} {held : Bool} {α : Type} {T : TypeId} {e : α → List AV} {ok : α → Prop} {fs : Array Field} {base : Nat} {v : Value} {d : DataW H} {p : List MemPlace} (hd : Dec Tryz.prog W T e ok) (ht : Tryz.prog.underlying T = some (.struct fs))
  (hv : Value.okWide Tryz.prog W .any base T v) (h : DataW.Trod enc Tryz.prog W 0 (fun _ => true) held T v d p) : ∃ a, ok a ∧ RepV (I0 W) (.agg (e a)) v := by
 obtain ⟨cs, rfl, _⟩ := okWide_struct ht hv
 obtain ⟨fuel, h⟩ := h
 obtain ⟨a, h1, h2⟩ := hd enc held fuel _ _ h
 exact ⟨a, h1, cs.toList, by simp, h2⟩
theorem xTab : RExtra Tryz.prog Tryz.lays200_ren := ⟨by kernel_rfl, by kernel_rfl, by kernel_rfl, by kernel_rfl, by kernel_rfl, by kernel_rfl, by kernel_rfl, by kernel_rfl⟩
theorem letters_of (h : Lib.VarReads Tryz.prog W "unicode.properties" (Lib.tabData .u8 Lib.propertiesTab)) (h2 : Lib.VarReads Tryz.prog W "unicode.Letter" (Lib.rtabData letterT)) : Letters W :=
 ⟨tabIs_of_reads (g := 0) (by kernel_rfl) (by kernel_rfl) underlying296 underlying5 (by kernel_rfl) (by kernel_rfl) h,
  rvar_of_reads { Tryz.lays200 with } xTab (name := "unicode.Letter") (g := 1) (by kernel_rfl) (by kernel_rfl) h2⟩
end Go.Proofs.YtjnpcfpecilejaaGreatDoor
namespace Go.Proofs.YtjnpcfpecilejaaGreatDoor
open Go.Proofs.Tryz
open Go.Proofs
theorem fMay : Tryz.prog.mayEnter = true := by kernel_rfl
theorem fLift : (Rows.rangesFixedRow.lifted == Tryz.prog.liftsFinal) = true := by kernel_rfl
theorem fMake : (Tryz.prog.make == some Rows.rangesFixedRow.make) = true := by kernel_rfl
theorem fLaid : laidOutB Tryz.prog = true := by kernel_rfl
theorem fRow : mapsRowed Tryz.prog = true := by kernel_rfl
theorem fStop : (Tryz.prog.stops == []) = true := by kernel_rfl
theorem fKnob : (Tryz.prog.stopKnobs == []) = true := by kernel_rfl
theorem fKeys : (Rows.rangesFixedRow.plainKeys == Tryz.prog.plainKeys) = true := by kernel_rfl
theorem fHeard : Tryz.prog.stopsHeard = true := by kernel_rfl
theorem gIn : (Rows.rangesFixedRow.inPlace == Tryz.prog.inPlace 9) = true := by kernel_rfl
theorem gUn : (Rows.rangesFixedRow.unfollowed == Tryz.prog.unfollowed 9) = true := by kernel_rfl
theorem gRec : (Rows.rangesFixedRow.recurses == Tryz.prog.recurses 9) = true := by kernel_rfl
theorem gNam : (Rows.rangesFixedRow.named == Tryz.prog.varsNamed 9) = true := by kernel_rfl
theorem closed : joinedFacts Tryz.prog 9 Tryz.f9 Rows.rangesFixedSpec Rows.rangesFixedRow = true := by
 unfold joinedFacts
 rw [fLaid, fRow, fStop, fKnob, gIn, gUn, gRec, gNam, fKeys, fHeard, fMay, fLift, fMake]
 kernel_rfl
end Go.Proofs.YtjnpcfpecilejaaGreatDoor
