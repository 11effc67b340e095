/- The tree of what is above what, made. Of programs that are little. -/
import Derived.Test.YtiojekbkamegdaaGreatDoorKl
set_option linter.unusedVariables false
set_option linter.unusedSimpArgs false
set_option linter.unusedSectionVars false
namespace Go.Proofs.YtiojekbkamegdaaGreatDoor
open Go.Proofs.Tryz
open Go.Proofs Go.Lib Go.Shelf Go.RowKit
theorem pl156 : Places prog 156 #[(0, 1), (1, 1), (2, 1), (3, 1)] [.raw (.slice none 0 0), .raw (.slice none 0 0), .raw (.slice none 0 0), .raw (.slice none 0 0)] := ⟨_, _, jq, zeroValue156, fun w => by kernel_rfl, rfl⟩
variable {E : World}
set_option maxRecDepth 20000
def levTo (S : Int → List Int) (n q : Nat) : List Int := (((orderT S n).drop 1).take q).foldl (levS (nearG S n)) (first0 n)
theorem levTo_succ {S : Int → List Int} {n q : Nat} (h : q < ((orderT S n).drop 1).length) : levTo S n (q + 1) = levS (nearG S n) (levTo S n q) ((orderT S n).drop 1)[q] := by
 unfold levTo; rw [qe h, List.foldl_append]; rfl
theorem levTo_all (S : Int → List Int) (n : Nat) : levTo S n ((orderT S n).drop 1).length = levG S n := by unfold levTo levG; rw [qi, List.drop_one]
theorem levTo_len (S : Int → List Int) (n q : Nat) : (levTo S n q).length = n := by unfold levTo; rw [foldl_len (fun l x => levS_len _ l x), first0_len]
theorem tail_ne {S : Int → List Int} {n : Nat} (hE : EOk S n) {b : Int} (hb : b ∈ (orderT S n).drop 1) : b ≠ 0 := by
 have h1 := order_head hE
 have h2 := order_nodup hE
 cases h : orderT S n with
 | nil => rw [h] at h1; simp at h1
 | cons z zs =>
  rw [h] at h1 h2 hb
  simp at h1
  subst h1
  intro e
  subst e
  exact (List.nodup_cons.1 h2).1 (by simpa using hb)
theorem order_pos {S : Int → List Int} {n : Nat} (hE : EOk S n) : 0 < (orderT S n).length := by
 have h1 := order_head hE
 cases h : orderT S n with
 | nil => rw [h] at h1; simp at h1
 | cons z zs => simp
def evK (N : List Int) (k : Nat) : List (Int × Int) := ((intsTo k).filter fun b => decide (gi N b ≠ -1)).map fun b => (gi N b, b)
theorem evK_succ (N : List Int) (k : Nat) : evK N (k + 1) = evK N k ++ if gi N (k : Int) ≠ -1 then [(gi N (k : Int), (k : Int))] else [] := by
 unfold evK; rw [intsTo_succ, List.filter_append, qn]
 by_cases h : gi N (k : Int) = -1 <;> simp [h]
theorem evK_len (N : List Int) (k : Nat) : (evK N k).length ≤ k := by
 unfold evK; rw [qk]; exact Nat.le_trans (List.length_filter_le _ _) (by rw [intsTo_len]; exact Nat.le_refl _)
def kidsR (f : PFunc) : List (List Int) := rowsOf f.blocks.length (evK (nearR (EndsOf f) f.blocks.length) f.blocks.length)
theorem near_rng {S : Int → List Int} {n : Nat} (hG : Grph S n) {b : Int} (h0 : 0 ≤ b) (hb : gi (nearR S n) b ≠ -1) : b ∈ orderT S n ∧ gi (nearR S n) b ∈ orderT S n := by
 by_cases e : b = 0
 ·rw [e, nearR_0 hG.npos] at hb; exact absurd rfl hb
 ·rw [nearR_get h0 e] at hb ⊢
  have := hG.exact.inv.mem b hb
  exact ⟨this, (hG.near_mem this e).1⟩
set_option maxHeartbeats 4000000 in
theorem new_own (f : PFunc) (hf : small f) (hL : Letters E) (ht : typedB f = true) : ACall prog E 40 [.agg (encF f)] []
  fun r O => (∃ fr, FrI f.blocks.length fr ∧ r = .tup [treeV f (froN eI (kidsR f)) (froN eI fr), .int .i64 0]) ∧ O = [] := by
 have hE := typedB_ends ht
 have hn := hf.2.2.1
 have hG := hE.grph
 have hpos := hG.npos
 have hol := order_len hG
 have hop := order_pos hG.toEOk
 have hnear := nearest_spec (E := E) f hE hn
 have hfr := fun t a b fb T x => fronts_spec (E := E) f hE hn t a b fb T x _ (FrI.begin f.blocks.length)
 have hprd := predsX_spec f hf hL ht
 have hord := orderX_spec f hf hL ht
 have hrng : ∀ z ∈ orderT (EndsOf f) f.blocks.length, 0 ≤ z ∧ z < f.blocks.length := fun z hz => order_rng hG.toEOk hz
 refine zo func40 Z (by decide) Z<|zSr<|y9 (cs := _) Z Z Z<|z8 (zAr Z)<|zVzAi Z<|z6<|zSr<|zVGvloadWF ji je Z Z<|zk (hord) Z<|z8 (zAf Z)<|z6<|za<|zSr<|zVzMf Z<|zVGvlenM j4 Z<|zVGveqlI Z Z<|z6<|yg Z (by simp; exact List.ne_nil_of_length_pos hop)<|ze<|za<|y8 (fun j => false) (by kernel_rfl) Z (zp (.rest _))<|zTk 0 Z (zFF j9 Z jp Z Z)<|zTk 1 Z (zLf jt Z)<|zTk 2 Z (Gv.lenM jf Z)<|zTk 3 Z (yk ji je Z Z)<|zOn 4 Z<|zk (hprd) Z<|z6<|zTk 5 Z (zAi Z)<|zTk 6 Z (zAf Z)<|zDn<|za<|yo (γ := Nat × Nat × Nat × Nat × Nat) [4, 5, 6] (fun g => [(7, .po g.1 0)]) (fun g => [(g.1, .cells 156 [.own g.2.2.2.2 f.blocks.length, .own g.2.1 f.blocks.length, nref g.2.2.1 f.blocks.length, nref g.2.2.2.1 f.blocks.length]), (g.2.1, .grow 1 3 (cI (List.replicate f.blocks.length (-1)))), (0, nestO eI 23 3 g.2.2.1 (List.replicate f.blocks.length [])), (0, nestO eI 23 3 g.2.2.2.1 (List.replicate f.blocks.length [])), (g.2.2.2.2, .grow 1 3 (cI (nearR (EndsOf f) f.blocks.length)))]) (fun g => True) ?_ (fun _ _ h => h) ?_
 ·refine y8 (fun j => false) (by kernel_rfl) Z (zp (.rest _))<|zTk 0 Z (zMf Z)<|zTk 1 Z (zMf Z)<|zTk 2 Z (zMi Z)<|zTk 5 Z (zMi Z)<|zTk 7 Z (zMi Z)<|zTk 9 Z (zMi Z)<|AAny.four (i := 3) (j := 4) (m := 8) (q := 10) Z Z Z Z (by kernel_rfl) ?_ ?_ ?_ ?_
  ·refine y4 Z (zp (.rest _)) (hnear) ?_
   rintro r25 O25 ⟨i25, rfl, rfl⟩
   refine z6<|AAny.three (i := 4) (j := 8) (m := 10) Z Z Z (by kernel_rfl) ?_ ?_ ?_
   ·refine zt (rows := [[_]]) ps23_1 Z Z Z Z Z<|z6<|AAny.three (i := 6) (j := 8) (m := 10) Z Z Z (by kernel_rfl) ?_ ?_ ?_
    ·refine y4 Z (zp (.r (.rest _))) (repeat_own (-1) f.blocks.length (by omega) hpos) ?_
     rintro r28 O28 ⟨i28, rfl, rfl⟩
     refine z6<|yl (i := 8) (j := 10) Z Z (by kernel_rfl) ?_ ?_
     ·refine y6 (m := f.blocks.length) ja jw Z Z Z Z Z (by simp) (by simp) (by show (24 : Int) * _ ≤ _; omega) (by omega) eI 3<|fun b30 => z6<|zOn 10 Z<|y6 (m := f.blocks.length) ja jw Z Z Z Z Z (by simp) (by simp) (by show (24 : Int) * _ ≤ _; omega) (by omega) eI 3<|fun b32 => z6<|zTk 11 Z (y7 (cps := [(0, [_]), (1, [_]), (2, [_]), (3, [_])]) (rs := [_, _, _, _]) pl156 Z Z Z)<|zOn 12 Z<|yh (cs := _) Z Z Z Z<|fun i34 => zd (zb (zc .t4))<|zd (zb (zc .t2))<|zd (zb (zc .t3))<|zd (zb (zc .t4))<|zd (zb (zc .t4))<|z6<|zTk 13 Z (zAp Z)<|zDn ?_
      exact ⟨(i34, i28, b30, b32, i25), zR3, zR1, zLe, trivial⟩
     ·refine y6 (m := f.blocks.length) ja jw Z Z Z Z Z (by simp) (by simp) (by show (24 : Int) * _ ≤ _; omega) (by omega) eI 3<|fun b32 => z6<|zOn 8 Z<|y6 (m := f.blocks.length) ja jw Z Z Z Z Z (by simp) (by simp) (by show (24 : Int) * _ ≤ _; omega) (by omega) eI 3<|fun b30 => z6<|zTk 11 Z (y7 (cps := [(0, [_]), (1, [_]), (2, [_]), (3, [_])]) (rs := [_, _, _, _]) pl156 Z Z Z)<|zOn 12 Z<|yh (cs := _) Z Z Z Z<|fun i34 => zd (zb (zc .t4))<|zd (zb (zc .t3))<|zd (zb (zc .t3))<|zd (zb (zc .t4))<|zd (zb (zc .t4))<|z6<|zTk 13 Z (zAp Z)<|zDn ?_
      exact ⟨(i34, i28, b30, b32, i25), zR3, zR1, zLe, trivial⟩
    ·refine y6 (m := f.blocks.length) ja jw Z Z Z Z Z (by simp) (by simp) (by show (24 : Int) * _ ≤ _; omega) (by omega) eI 3<|fun b30 => z6<|yl (i := 6) (j := 10) Z Z (by kernel_rfl) ?_ ?_
     ·refine y4 Z (zp (.r (.r (.rest _)))) (repeat_own (-1) f.blocks.length (by omega) hpos) ?_
      rintro r28 O28 ⟨i28, rfl, rfl⟩
      refine z6<|zOn 10 Z<|y6 (m := f.blocks.length) ja jw Z Z Z Z Z (by simp) (by simp) (by show (24 : Int) * _ ≤ _; omega) (by omega) eI 3<|fun b32 => z6<|zTk 11 Z (y7 (cps := [(0, [_]), (1, [_]), (2, [_]), (3, [_])]) (rs := [_, _, _, _]) pl156 Z Z Z)<|zOn 12 Z<|yh (cs := _) Z Z Z Z<|fun i34 => zd (zb (zc .t4))<|zd (zb (zc .t2))<|zd (zb (zc .t4))<|zd (zb (zc .t4))<|zd (zb (zc .t4))<|z6<|zTk 13 Z (zAp Z)<|zDn ?_
      exact ⟨(i34, i28, b30, b32, i25), zR3, zR1, zLe, trivial⟩
     ·refine y6 (m := f.blocks.length) ja jw Z Z Z Z Z (by simp) (by simp) (by show (24 : Int) * _ ≤ _; omega) (by omega) eI 3<|fun b32 => z6<|zOn 6 Z<|y4 Z (zp (.r (.r (.r (.rest _))))) (repeat_own (-1) f.blocks.length (by omega) hpos) ?_
      rintro r28 O28 ⟨i28, rfl, rfl⟩
      refine z6<|zTk 11 Z (y7 (cps := [(0, [_]), (1, [_]), (2, [_]), (3, [_])]) (rs := [_, _, _, _]) pl156 Z Z Z)<|zOn 12 Z<|yh (cs := _) Z Z Z Z<|fun i34 => zd (zb (zc .t4))<|zd (zb (zc .t3))<|zd (zb (zc .t4))<|zd (zb (zc .t4))<|zd (zb (zc .t4))<|z6<|zTk 13 Z (zAp Z)<|zDn ?_
      exact ⟨(i34, i28, b30, b32, i25), zR3, zR1, zLe, trivial⟩
    ·refine y6 (m := f.blocks.length) ja jw Z Z Z Z Z (by simp) (by simp) (by show (24 : Int) * _ ≤ _; omega) (by omega) eI 3<|fun b32 => z6<|yl (i := 6) (j := 8) Z Z (by kernel_rfl) ?_ ?_
     ·refine y4 Z (zp (.r (.r (.rest _)))) (repeat_own (-1) f.blocks.length (by omega) hpos) ?_
      rintro r28 O28 ⟨i28, rfl, rfl⟩
      refine z6<|zOn 8 Z<|y6 (m := f.blocks.length) ja jw Z Z Z Z Z (by simp) (by simp) (by show (24 : Int) * _ ≤ _; omega) (by omega) eI 3<|fun b30 => z6<|zTk 11 Z (y7 (cps := [(0, [_]), (1, [_]), (2, [_]), (3, [_])]) (rs := [_, _, _, _]) pl156 Z Z Z)<|zOn 12 Z<|yh (cs := _) Z Z Z Z<|fun i34 => zd (zb (zc .t4))<|zd (zb (zc .t4))<|zd (zb (zc .t3))<|zd (zb (zc .t4))<|zd (zb (zc .t4))<|z6<|zTk 13 Z (zAp Z)<|zDn ?_
      exact ⟨(i34, i28, b30, b32, i25), zR3, zR1, zLe, trivial⟩
     ·refine y6 (m := f.blocks.length) ja jw Z Z Z Z Z (by simp) (by simp) (by show (24 : Int) * _ ≤ _; omega) (by omega) eI 3<|fun b30 => z6<|zOn 6 Z<|y4 Z (zp (.r (.r (.r (.rest _))))) (repeat_own (-1) f.blocks.length (by omega) hpos) ?_
      rintro r28 O28 ⟨i28, rfl, rfl⟩
      refine z6<|zTk 11 Z (y7 (cps := [(0, [_]), (1, [_]), (2, [_]), (3, [_])]) (rs := [_, _, _, _]) pl156 Z Z Z)<|zOn 12 Z<|yh (cs := _) Z Z Z Z<|fun i34 => z6<|zTk 13 Z (zAp Z)<|zDn ?_
      exact ⟨(i34, i28, b30, b32, i25), zR3, zR1, zLe, trivial⟩
   ·refine y6 (m := f.blocks.length) ja jw Z Z Z Z Z (by simp) (by simp) (by show (24 : Int) * _ ≤ _; omega) (by omega) eI 3<|fun b30 => z6<|yl (i := 4) (j := 10) Z Z (by kernel_rfl) ?_ ?_
    ·refine zt (rows := [[_]]) ps23_1 Z Z Z Z Z<|z6<|yl (i := 6) (j := 10) Z Z (by kernel_rfl) ?_ ?_
     ·refine y4 Z (zp (.r (.r (.rest _)))) (repeat_own (-1) f.blocks.length (by omega) hpos) ?_
      rintro r28 O28 ⟨i28, rfl, rfl⟩
      refine z6<|zOn 10 Z<|y6 (m := f.blocks.length) ja jw Z Z Z Z Z (by simp) (by simp) (by show (24 : Int) * _ ≤ _; omega) (by omega) eI 3<|fun b32 => z6<|zTk 11 Z (y7 (cps := [(0, [_]), (1, [_]), (2, [_]), (3, [_])]) (rs := [_, _, _, _]) pl156 Z Z Z)<|zOn 12 Z<|yh (cs := _) Z Z Z Z<|fun i34 => zd (zb (zc .t4))<|zd (zb (zc .t2))<|zd (zb (zc .t4))<|zd (zb (zc .t4))<|zd (zb (zc .t4))<|z6<|zTk 13 Z (zAp Z)<|zDn ?_
      exact ⟨(i34, i28, b30, b32, i25), zR3, zR1, zLe, trivial⟩
     ·refine y6 (m := f.blocks.length) ja jw Z Z Z Z Z (by simp) (by simp) (by show (24 : Int) * _ ≤ _; omega) (by omega) eI 3<|fun b32 => z6<|zOn 6 Z<|y4 Z (zp (.r (.r (.r (.rest _))))) (repeat_own (-1) f.blocks.length (by omega) hpos) ?_
      rintro r28 O28 ⟨i28, rfl, rfl⟩
      refine z6<|zTk 11 Z (y7 (cps := [(0, [_]), (1, [_]), (2, [_]), (3, [_])]) (rs := [_, _, _, _]) pl156 Z Z Z)<|zOn 12 Z<|yh (cs := _) Z Z Z Z<|fun i34 => zd (zb (zc .t4))<|zd (zb (zc .t3))<|zd (zb (zc .t4))<|zd (zb (zc .t4))<|zd (zb (zc .t4))<|z6<|zTk 13 Z (zAp Z)<|zDn ?_
      exact ⟨(i34, i28, b30, b32, i25), zR3, zR1, zLe, trivial⟩
    ·refine y6 (m := f.blocks.length) ja jw Z Z Z Z Z (by simp) (by simp) (by show (24 : Int) * _ ≤ _; omega) (by omega) eI 3<|fun b32 => z6<|zOn 4 Z<|zt (rows := [[_]]) ps23_1 Z Z Z Z Z<|z6<|zOn 6 Z<|y4 Z (zp (.r (.r (.r (.rest _))))) (repeat_own (-1) f.blocks.length (by omega) hpos) ?_
     rintro r28 O28 ⟨i28, rfl, rfl⟩
     refine z6<|zTk 11 Z (y7 (cps := [(0, [_]), (1, [_]), (2, [_]), (3, [_])]) (rs := [_, _, _, _]) pl156 Z Z Z)<|zOn 12 Z<|yh (cs := _) Z Z Z Z<|fun i34 => zd (zb (zc .t4))<|zd (zb (zc .t3))<|zd (zb (zc .t4))<|zd (zb (zc .t4))<|zd (zb (zc .t4))<|z6<|zTk 13 Z (zAp Z)<|zDn ?_
     exact ⟨(i34, i28, b30, b32, i25), zR3, zR1, zLe, trivial⟩
   ·refine y6 (m := f.blocks.length) ja jw Z Z Z Z Z (by simp) (by simp) (by show (24 : Int) * _ ≤ _; omega) (by omega) eI 3<|fun b32 => z6<|yl (i := 4) (j := 8) Z Z (by kernel_rfl) ?_ ?_
    ·refine zt (rows := [[_]]) ps23_1 Z Z Z Z Z<|z6<|yl (i := 6) (j := 8) Z Z (by kernel_rfl) ?_ ?_
     ·refine y4 Z (zp (.r (.r (.rest _)))) (repeat_own (-1) f.blocks.length (by omega) hpos) ?_
      rintro r28 O28 ⟨i28, rfl, rfl⟩
      refine z6<|zOn 8 Z<|y6 (m := f.blocks.length) ja jw Z Z Z Z Z (by simp) (by simp) (by show (24 : Int) * _ ≤ _; omega) (by omega) eI 3<|fun b30 => z6<|zTk 11 Z (y7 (cps := [(0, [_]), (1, [_]), (2, [_]), (3, [_])]) (rs := [_, _, _, _]) pl156 Z Z Z)<|zOn 12 Z<|yh (cs := _) Z Z Z Z<|fun i34 => zd (zb (zc .t4))<|zd (zb (zc .t4))<|zd (zb (zc .t3))<|zd (zb (zc .t4))<|zd (zb (zc .t4))<|z6<|zTk 13 Z (zAp Z)<|zDn ?_
      exact ⟨(i34, i28, b30, b32, i25), zR3, zR1, zLe, trivial⟩
     ·refine y6 (m := f.blocks.length) ja jw Z Z Z Z Z (by simp) (by simp) (by show (24 : Int) * _ ≤ _; omega) (by omega) eI 3<|fun b30 => z6<|zOn 6 Z<|y4 Z (zp (.r (.r (.r (.rest _))))) (repeat_own (-1) f.blocks.length (by omega) hpos) ?_
      rintro r28 O28 ⟨i28, rfl, rfl⟩
      refine z6<|zTk 11 Z (y7 (cps := [(0, [_]), (1, [_]), (2, [_]), (3, [_])]) (rs := [_, _, _, _]) pl156 Z Z Z)<|zOn 12 Z<|yh (cs := _) Z Z Z Z<|fun i34 => z6<|zTk 13 Z (zAp Z)<|zDn ?_
      exact ⟨(i34, i28, b30, b32, i25), zR3, zR1, zLe, trivial⟩
    ·refine y6 (m := f.blocks.length) ja jw Z Z Z Z Z (by simp) (by simp) (by show (24 : Int) * _ ≤ _; omega) (by omega) eI 3<|fun b30 => z6<|zOn 4 Z<|zt (rows := [[_]]) ps23_1 Z Z Z Z Z<|z6<|zOn 6 Z<|y4 Z (zp (.r (.r (.r (.rest _))))) (repeat_own (-1) f.blocks.length (by omega) hpos) ?_
     rintro r28 O28 ⟨i28, rfl, rfl⟩
     refine z6<|zTk 11 Z (y7 (cps := [(0, [_]), (1, [_]), (2, [_]), (3, [_])]) (rs := [_, _, _, _]) pl156 Z Z Z)<|zOn 12 Z<|yh (cs := _) Z Z Z Z<|fun i34 => z6<|zTk 13 Z (zAp Z)<|zDn ?_
     exact ⟨(i34, i28, b30, b32, i25), zR3, zR1, zLe, trivial⟩
  ·refine zt (rows := [[_]]) ps23_1 Z Z Z Z Z<|z6<|AAny.three (i := 3) (j := 8) (m := 10) Z Z Z (by kernel_rfl) ?_ ?_ ?_
   ·refine y4 Z (zp (.rest _)) (hnear) ?_
    rintro r25 O25 ⟨i25, rfl, rfl⟩
    refine z6<|AAny.three (i := 6) (j := 8) (m := 10) Z Z Z (by kernel_rfl) ?_ ?_ ?_
    ·refine y4 Z (zp (.r (.rest _))) (repeat_own (-1) f.blocks.length (by omega) hpos) ?_
     rintro r28 O28 ⟨i28, rfl, rfl⟩
     refine z6<|yl (i := 8) (j := 10) Z Z (by kernel_rfl) ?_ ?_
     ·refine y6 (m := f.blocks.length) ja jw Z Z Z Z Z (by simp) (by simp) (by show (24 : Int) * _ ≤ _; omega) (by omega) eI 3<|fun b30 => z6<|zOn 10 Z<|y6 (m := f.blocks.length) ja jw Z Z Z Z Z (by simp) (by simp) (by show (24 : Int) * _ ≤ _; omega) (by omega) eI 3<|fun b32 => z6<|zTk 11 Z (y7 (cps := [(0, [_]), (1, [_]), (2, [_]), (3, [_])]) (rs := [_, _, _, _]) pl156 Z Z Z)<|zOn 12 Z<|yh (cs := _) Z Z Z Z<|fun i34 => zd (zb (zc .t4))<|zd (zb (zc .t2))<|zd (zb (zc .t3))<|zd (zb (zc .t4))<|zd (zb (zc .t4))<|z6<|zTk 13 Z (zAp Z)<|zDn ?_
      exact ⟨(i34, i28, b30, b32, i25), zR3, zR1, zLe, trivial⟩
     ·refine y6 (m := f.blocks.length) ja jw Z Z Z Z Z (by simp) (by simp) (by show (24 : Int) * _ ≤ _; omega) (by omega) eI 3<|fun b32 => z6<|zOn 8 Z<|y6 (m := f.blocks.length) ja jw Z Z Z Z Z (by simp) (by simp) (by show (24 : Int) * _ ≤ _; omega) (by omega) eI 3<|fun b30 => z6<|zTk 11 Z (y7 (cps := [(0, [_]), (1, [_]), (2, [_]), (3, [_])]) (rs := [_, _, _, _]) pl156 Z Z Z)<|zOn 12 Z<|yh (cs := _) Z Z Z Z<|fun i34 => zd (zb (zc .t4))<|zd (zb (zc .t3))<|zd (zb (zc .t3))<|zd (zb (zc .t4))<|zd (zb (zc .t4))<|z6<|zTk 13 Z (zAp Z)<|zDn ?_
      exact ⟨(i34, i28, b30, b32, i25), zR3, zR1, zLe, trivial⟩
    ·refine y6 (m := f.blocks.length) ja jw Z Z Z Z Z (by simp) (by simp) (by show (24 : Int) * _ ≤ _; omega) (by omega) eI 3<|fun b30 => z6<|yl (i := 6) (j := 10) Z Z (by kernel_rfl) ?_ ?_
     ·refine y4 Z (zp (.r (.r (.rest _)))) (repeat_own (-1) f.blocks.length (by omega) hpos) ?_
      rintro r28 O28 ⟨i28, rfl, rfl⟩
      refine z6<|zOn 10 Z<|y6 (m := f.blocks.length) ja jw Z Z Z Z Z (by simp) (by simp) (by show (24 : Int) * _ ≤ _; omega) (by omega) eI 3<|fun b32 => z6<|zTk 11 Z (y7 (cps := [(0, [_]), (1, [_]), (2, [_]), (3, [_])]) (rs := [_, _, _, _]) pl156 Z Z Z)<|zOn 12 Z<|yh (cs := _) Z Z Z Z<|fun i34 => zd (zb (zc .t4))<|zd (zb (zc .t2))<|zd (zb (zc .t4))<|zd (zb (zc .t4))<|zd (zb (zc .t4))<|z6<|zTk 13 Z (zAp Z)<|zDn ?_
      exact ⟨(i34, i28, b30, b32, i25), zR3, zR1, zLe, trivial⟩
     ·refine y6 (m := f.blocks.length) ja jw Z Z Z Z Z (by simp) (by simp) (by show (24 : Int) * _ ≤ _; omega) (by omega) eI 3<|fun b32 => z6<|zOn 6 Z<|y4 Z (zp (.r (.r (.r (.rest _))))) (repeat_own (-1) f.blocks.length (by omega) hpos) ?_
      rintro r28 O28 ⟨i28, rfl, rfl⟩
      refine z6<|zTk 11 Z (y7 (cps := [(0, [_]), (1, [_]), (2, [_]), (3, [_])]) (rs := [_, _, _, _]) pl156 Z Z Z)<|zOn 12 Z<|yh (cs := _) Z Z Z Z<|fun i34 => zd (zb (zc .t4))<|zd (zb (zc .t3))<|zd (zb (zc .t4))<|zd (zb (zc .t4))<|zd (zb (zc .t4))<|z6<|zTk 13 Z (zAp Z)<|zDn ?_
      exact ⟨(i34, i28, b30, b32, i25), zR3, zR1, zLe, trivial⟩
    ·refine y6 (m := f.blocks.length) ja jw Z Z Z Z Z (by simp) (by simp) (by show (24 : Int) * _ ≤ _; omega) (by omega) eI 3<|fun b32 => z6<|yl (i := 6) (j := 8) Z Z (by kernel_rfl) ?_ ?_
     ·refine y4 Z (zp (.r (.r (.rest _)))) (repeat_own (-1) f.blocks.length (by omega) hpos) ?_
      rintro r28 O28 ⟨i28, rfl, rfl⟩
      refine z6<|zOn 8 Z<|y6 (m := f.blocks.length) ja jw Z Z Z Z Z (by simp) (by simp) (by show (24 : Int) * _ ≤ _; omega) (by omega) eI 3<|fun b30 => z6<|zTk 11 Z (y7 (cps := [(0, [_]), (1, [_]), (2, [_]), (3, [_])]) (rs := [_, _, _, _]) pl156 Z Z Z)<|zOn 12 Z<|yh (cs := _) Z Z Z Z<|fun i34 => zd (zb (zc .t4))<|zd (zb (zc .t4))<|zd (zb (zc .t3))<|zd (zb (zc .t4))<|zd (zb (zc .t4))<|z6<|zTk 13 Z (zAp Z)<|zDn ?_
      exact ⟨(i34, i28, b30, b32, i25), zR3, zR1, zLe, trivial⟩
     ·refine y6 (m := f.blocks.length) ja jw Z Z Z Z Z (by simp) (by simp) (by show (24 : Int) * _ ≤ _; omega) (by omega) eI 3<|fun b30 => z6<|zOn 6 Z<|y4 Z (zp (.r (.r (.r (.rest _))))) (repeat_own (-1) f.blocks.length (by omega) hpos) ?_
      rintro r28 O28 ⟨i28, rfl, rfl⟩
      refine z6<|zTk 11 Z (y7 (cps := [(0, [_]), (1, [_]), (2, [_]), (3, [_])]) (rs := [_, _, _, _]) pl156 Z Z Z)<|zOn 12 Z<|yh (cs := _) Z Z Z Z<|fun i34 => z6<|zTk 13 Z (zAp Z)<|zDn ?_
      exact ⟨(i34, i28, b30, b32, i25), zR3, zR1, zLe, trivial⟩
   ·refine y6 (m := f.blocks.length) ja jw Z Z Z Z Z (by simp) (by simp) (by show (24 : Int) * _ ≤ _; omega) (by omega) eI 3<|fun b30 => z6<|yl (i := 3) (j := 10) Z Z (by kernel_rfl) ?_ ?_
    ·refine y4 Z (zp (.r (.rest _))) (hnear) ?_
     rintro r25 O25 ⟨i25, rfl, rfl⟩
     refine z6<|yl (i := 6) (j := 10) Z Z (by kernel_rfl) ?_ ?_
     ·refine y4 Z (zp (.r (.r (.rest _)))) (repeat_own (-1) f.blocks.length (by omega) hpos) ?_
      rintro r28 O28 ⟨i28, rfl, rfl⟩
      refine z6<|zOn 10 Z<|y6 (m := f.blocks.length) ja jw Z Z Z Z Z (by simp) (by simp) (by show (24 : Int) * _ ≤ _; omega) (by omega) eI 3<|fun b32 => z6<|zTk 11 Z (y7 (cps := [(0, [_]), (1, [_]), (2, [_]), (3, [_])]) (rs := [_, _, _, _]) pl156 Z Z Z)<|zOn 12 Z<|yh (cs := _) Z Z Z Z<|fun i34 => zd (zb (zc .t3))<|zd (zb (zc .t2))<|zd (zb (zc .t4))<|zd (zb (zc .t4))<|zd (zb (zc .t4))<|z6<|zTk 13 Z (zAp Z)<|zDn ?_
      exact ⟨(i34, i28, b30, b32, i25), zR3, zR1, zLe, trivial⟩
     ·refine y6 (m := f.blocks.length) ja jw Z Z Z Z Z (by simp) (by simp) (by show (24 : Int) * _ ≤ _; omega) (by omega) eI 3<|fun b32 => z6<|zOn 6 Z<|y4 Z (zp (.r (.r (.r (.rest _))))) (repeat_own (-1) f.blocks.length (by omega) hpos) ?_
      rintro r28 O28 ⟨i28, rfl, rfl⟩
      refine z6<|zTk 11 Z (y7 (cps := [(0, [_]), (1, [_]), (2, [_]), (3, [_])]) (rs := [_, _, _, _]) pl156 Z Z Z)<|zOn 12 Z<|yh (cs := _) Z Z Z Z<|fun i34 => zd (zb (zc .t3))<|zd (zb (zc .t3))<|zd (zb (zc .t4))<|zd (zb (zc .t4))<|zd (zb (zc .t4))<|z6<|zTk 13 Z (zAp Z)<|zDn ?_
      exact ⟨(i34, i28, b30, b32, i25), zR3, zR1, zLe, trivial⟩
    ·refine y6 (m := f.blocks.length) ja jw Z Z Z Z Z (by simp) (by simp) (by show (24 : Int) * _ ≤ _; omega) (by omega) eI 3<|fun b32 => z6<|zOn 3 Z<|y4 Z (zp (.r (.r (.rest _)))) (hnear) ?_
     rintro r25 O25 ⟨i25, rfl, rfl⟩
     refine z6<|zOn 6 Z<|y4 Z (zp (.r (.r (.r (.rest _))))) (repeat_own (-1) f.blocks.length (by omega) hpos) ?_
     rintro r28 O28 ⟨i28, rfl, rfl⟩
     refine z6<|zTk 11 Z (y7 (cps := [(0, [_]), (1, [_]), (2, [_]), (3, [_])]) (rs := [_, _, _, _]) pl156 Z Z Z)<|zOn 12 Z<|yh (cs := _) Z Z Z Z<|fun i34 => zd (zb (zc .t2))<|zd (zb (zc .t3))<|zd (zb (zc .t4))<|zd (zb (zc .t4))<|zd (zb (zc .t4))<|z6<|zTk 13 Z (zAp Z)<|zDn ?_
     exact ⟨(i34, i28, b30, b32, i25), zR3, zR1, zLe, trivial⟩
   ·refine y6 (m := f.blocks.length) ja jw Z Z Z Z Z (by simp) (by simp) (by show (24 : Int) * _ ≤ _; omega) (by omega) eI 3<|fun b32 => z6<|yl (i := 3) (j := 8) Z Z (by kernel_rfl) ?_ ?_
    ·refine y4 Z (zp (.r (.rest _))) (hnear) ?_
     rintro r25 O25 ⟨i25, rfl, rfl⟩
     refine z6<|yl (i := 6) (j := 8) Z Z (by kernel_rfl) ?_ ?_
     ·refine y4 Z (zp (.r (.r (.rest _)))) (repeat_own (-1) f.blocks.length (by omega) hpos) ?_
      rintro r28 O28 ⟨i28, rfl, rfl⟩
      refine z6<|zOn 8 Z<|y6 (m := f.blocks.length) ja jw Z Z Z Z Z (by simp) (by simp) (by show (24 : Int) * _ ≤ _; omega) (by omega) eI 3<|fun b30 => z6<|zTk 11 Z (y7 (cps := [(0, [_]), (1, [_]), (2, [_]), (3, [_])]) (rs := [_, _, _, _]) pl156 Z Z Z)<|zOn 12 Z<|yh (cs := _) Z Z Z Z<|fun i34 => zd (zb (zc .t3))<|zd (zb (zc .t4))<|zd (zb (zc .t3))<|zd (zb (zc .t4))<|zd (zb (zc .t4))<|z6<|zTk 13 Z (zAp Z)<|zDn ?_
      exact ⟨(i34, i28, b30, b32, i25), zR3, zR1, zLe, trivial⟩
     ·refine y6 (m := f.blocks.length) ja jw Z Z Z Z Z (by simp) (by simp) (by show (24 : Int) * _ ≤ _; omega) (by omega) eI 3<|fun b30 => z6<|zOn 6 Z<|y4 Z (zp (.r (.r (.r (.rest _))))) (repeat_own (-1) f.blocks.length (by omega) hpos) ?_
      rintro r28 O28 ⟨i28, rfl, rfl⟩
      refine z6<|zTk 11 Z (y7 (cps := [(0, [_]), (1, [_]), (2, [_]), (3, [_])]) (rs := [_, _, _, _]) pl156 Z Z Z)<|zOn 12 Z<|yh (cs := _) Z Z Z Z<|fun i34 => zd (zb (zc .t3))<|zd (zb (zc .t4))<|zd (zb (zc .t4))<|zd (zb (zc .t4))<|zd (zb (zc .t4))<|z6<|zTk 13 Z (zAp Z)<|zDn ?_
      exact ⟨(i34, i28, b30, b32, i25), zR3, zR1, zLe, trivial⟩
    ·refine y6 (m := f.blocks.length) ja jw Z Z Z Z Z (by simp) (by simp) (by show (24 : Int) * _ ≤ _; omega) (by omega) eI 3<|fun b30 => z6<|zOn 3 Z<|y4 Z (zp (.r (.r (.rest _)))) (hnear) ?_
     rintro r25 O25 ⟨i25, rfl, rfl⟩
     refine z6<|zOn 6 Z<|y4 Z (zp (.r (.r (.r (.rest _))))) (repeat_own (-1) f.blocks.length (by omega) hpos) ?_
     rintro r28 O28 ⟨i28, rfl, rfl⟩
     refine z6<|zTk 11 Z (y7 (cps := [(0, [_]), (1, [_]), (2, [_]), (3, [_])]) (rs := [_, _, _, _]) pl156 Z Z Z)<|zOn 12 Z<|yh (cs := _) Z Z Z Z<|fun i34 => zd (zb (zc .t2))<|zd (zb (zc .t4))<|zd (zb (zc .t4))<|zd (zb (zc .t4))<|zd (zb (zc .t4))<|z6<|zTk 13 Z (zAp Z)<|zDn ?_
     exact ⟨(i34, i28, b30, b32, i25), zR3, zR1, zLe, trivial⟩
  ·refine y6 (m := f.blocks.length) ja jw Z Z Z Z Z (by simp) (by simp) (by show (24 : Int) * _ ≤ _; omega) (by omega) eI 3<|fun b30 => z6<|AAny.three (i := 3) (j := 4) (m := 10) Z Z Z (by kernel_rfl) ?_ ?_ ?_
   ·refine y4 Z (zp (.r (.rest _))) (hnear) ?_
    rintro r25 O25 ⟨i25, rfl, rfl⟩
    refine z6<|yl (i := 4) (j := 10) Z Z (by kernel_rfl) ?_ ?_
    ·refine zt (rows := [[_]]) ps23_1 Z Z Z Z Z<|z6<|yl (i := 6) (j := 10) Z Z (by kernel_rfl) ?_ ?_
     ·refine y4 Z (zp (.r (.r (.rest _)))) (repeat_own (-1) f.blocks.length (by omega) hpos) ?_
      rintro r28 O28 ⟨i28, rfl, rfl⟩
      refine z6<|zOn 10 Z<|y6 (m := f.blocks.length) ja jw Z Z Z Z Z (by simp) (by simp) (by show (24 : Int) * _ ≤ _; omega) (by omega) eI 3<|fun b32 => z6<|zTk 11 Z (y7 (cps := [(0, [_]), (1, [_]), (2, [_]), (3, [_])]) (rs := [_, _, _, _]) pl156 Z Z Z)<|zOn 12 Z<|yh (cs := _) Z Z Z Z<|fun i34 => zd (zb (zc .t3))<|zd (zb (zc .t2))<|zd (zb (zc .t4))<|zd (zb (zc .t4))<|zd (zb (zc .t4))<|z6<|zTk 13 Z (zAp Z)<|zDn ?_
      exact ⟨(i34, i28, b30, b32, i25), zR3, zR1, zLe, trivial⟩
     ·refine y6 (m := f.blocks.length) ja jw Z Z Z Z Z (by simp) (by simp) (by show (24 : Int) * _ ≤ _; omega) (by omega) eI 3<|fun b32 => z6<|zOn 6 Z<|y4 Z (zp (.r (.r (.r (.rest _))))) (repeat_own (-1) f.blocks.length (by omega) hpos) ?_
      rintro r28 O28 ⟨i28, rfl, rfl⟩
      refine z6<|zTk 11 Z (y7 (cps := [(0, [_]), (1, [_]), (2, [_]), (3, [_])]) (rs := [_, _, _, _]) pl156 Z Z Z)<|zOn 12 Z<|yh (cs := _) Z Z Z Z<|fun i34 => zd (zb (zc .t3))<|zd (zb (zc .t3))<|zd (zb (zc .t4))<|zd (zb (zc .t4))<|zd (zb (zc .t4))<|z6<|zTk 13 Z (zAp Z)<|zDn ?_
      exact ⟨(i34, i28, b30, b32, i25), zR3, zR1, zLe, trivial⟩
    ·refine y6 (m := f.blocks.length) ja jw Z Z Z Z Z (by simp) (by simp) (by show (24 : Int) * _ ≤ _; omega) (by omega) eI 3<|fun b32 => z6<|zOn 4 Z<|zt (rows := [[_]]) ps23_1 Z Z Z Z Z<|z6<|zOn 6 Z<|y4 Z (zp (.r (.r (.r (.rest _))))) (repeat_own (-1) f.blocks.length (by omega) hpos) ?_
     rintro r28 O28 ⟨i28, rfl, rfl⟩
     refine z6<|zTk 11 Z (y7 (cps := [(0, [_]), (1, [_]), (2, [_]), (3, [_])]) (rs := [_, _, _, _]) pl156 Z Z Z)<|zOn 12 Z<|yh (cs := _) Z Z Z Z<|fun i34 => zd (zb (zc .t3))<|zd (zb (zc .t3))<|zd (zb (zc .t4))<|zd (zb (zc .t4))<|zd (zb (zc .t4))<|z6<|zTk 13 Z (zAp Z)<|zDn ?_
     exact ⟨(i34, i28, b30, b32, i25), zR3, zR1, zLe, trivial⟩
   ·refine zt (rows := [[_]]) ps23_1 Z Z Z Z Z<|z6<|yl (i := 3) (j := 10) Z Z (by kernel_rfl) ?_ ?_
    ·refine y4 Z (zp (.r (.rest _))) (hnear) ?_
     rintro r25 O25 ⟨i25, rfl, rfl⟩
     refine z6<|yl (i := 6) (j := 10) Z Z (by kernel_rfl) ?_ ?_
     ·refine y4 Z (zp (.r (.r (.rest _)))) (repeat_own (-1) f.blocks.length (by omega) hpos) ?_
      rintro r28 O28 ⟨i28, rfl, rfl⟩
      refine z6<|zOn 10 Z<|y6 (m := f.blocks.length) ja jw Z Z Z Z Z (by simp) (by simp) (by show (24 : Int) * _ ≤ _; omega) (by omega) eI 3<|fun b32 => z6<|zTk 11 Z (y7 (cps := [(0, [_]), (1, [_]), (2, [_]), (3, [_])]) (rs := [_, _, _, _]) pl156 Z Z Z)<|zOn 12 Z<|yh (cs := _) Z Z Z Z<|fun i34 => zd (zb (zc .t3))<|zd (zb (zc .t2))<|zd (zb (zc .t4))<|zd (zb (zc .t4))<|zd (zb (zc .t4))<|z6<|zTk 13 Z (zAp Z)<|zDn ?_
      exact ⟨(i34, i28, b30, b32, i25), zR3, zR1, zLe, trivial⟩
     ·refine y6 (m := f.blocks.length) ja jw Z Z Z Z Z (by simp) (by simp) (by show (24 : Int) * _ ≤ _; omega) (by omega) eI 3<|fun b32 => z6<|zOn 6 Z<|y4 Z (zp (.r (.r (.r (.rest _))))) (repeat_own (-1) f.blocks.length (by omega) hpos) ?_
      rintro r28 O28 ⟨i28, rfl, rfl⟩
      refine z6<|zTk 11 Z (y7 (cps := [(0, [_]), (1, [_]), (2, [_]), (3, [_])]) (rs := [_, _, _, _]) pl156 Z Z Z)<|zOn 12 Z<|yh (cs := _) Z Z Z Z<|fun i34 => zd (zb (zc .t3))<|zd (zb (zc .t3))<|zd (zb (zc .t4))<|zd (zb (zc .t4))<|zd (zb (zc .t4))<|z6<|zTk 13 Z (zAp Z)<|zDn ?_
      exact ⟨(i34, i28, b30, b32, i25), zR3, zR1, zLe, trivial⟩
    ·refine y6 (m := f.blocks.length) ja jw Z Z Z Z Z (by simp) (by simp) (by show (24 : Int) * _ ≤ _; omega) (by omega) eI 3<|fun b32 => z6<|zOn 3 Z<|y4 Z (zp (.r (.r (.rest _)))) (hnear) ?_
     rintro r25 O25 ⟨i25, rfl, rfl⟩
     refine z6<|zOn 6 Z<|y4 Z (zp (.r (.r (.r (.rest _))))) (repeat_own (-1) f.blocks.length (by omega) hpos) ?_
     rintro r28 O28 ⟨i28, rfl, rfl⟩
     refine z6<|zTk 11 Z (y7 (cps := [(0, [_]), (1, [_]), (2, [_]), (3, [_])]) (rs := [_, _, _, _]) pl156 Z Z Z)<|zOn 12 Z<|yh (cs := _) Z Z Z Z<|fun i34 => zd (zb (zc .t2))<|zd (zb (zc .t3))<|zd (zb (zc .t4))<|zd (zb (zc .t4))<|zd (zb (zc .t4))<|z6<|zTk 13 Z (zAp Z)<|zDn ?_
     exact ⟨(i34, i28, b30, b32, i25), zR3, zR1, zLe, trivial⟩
   ·refine y6 (m := f.blocks.length) ja jw Z Z Z Z Z (by simp) (by simp) (by show (24 : Int) * _ ≤ _; omega) (by omega) eI 3<|fun b32 => z6<|yl (i := 3) (j := 4) Z Z (by kernel_rfl) ?_ ?_
    ·refine y4 Z (zp (.r (.r (.rest _)))) (hnear) ?_
     rintro r25 O25 ⟨i25, rfl, rfl⟩
     refine z6<|zOn 4 Z<|zt (rows := [[_]]) ps23_1 Z Z Z Z Z<|z6<|zOn 6 Z<|y4 Z (zp (.r (.r (.r (.rest _))))) (repeat_own (-1) f.blocks.length (by omega) hpos) ?_
     rintro r28 O28 ⟨i28, rfl, rfl⟩
     refine z6<|zTk 11 Z (y7 (cps := [(0, [_]), (1, [_]), (2, [_]), (3, [_])]) (rs := [_, _, _, _]) pl156 Z Z Z)<|zOn 12 Z<|yh (cs := _) Z Z Z Z<|fun i34 => zd (zb (zc .t2))<|zd (zb (zc .t3))<|zd (zb (zc .t4))<|zd (zb (zc .t4))<|zd (zb (zc .t4))<|z6<|zTk 13 Z (zAp Z)<|zDn ?_
     exact ⟨(i34, i28, b30, b32, i25), zR3, zR1, zLe, trivial⟩
    ·refine zt (rows := [[_]]) ps23_1 Z Z Z Z Z<|z6<|zOn 3 Z<|y4 Z (zp (.r (.r (.rest _)))) (hnear) ?_
     rintro r25 O25 ⟨i25, rfl, rfl⟩
     refine z6<|zOn 6 Z<|y4 Z (zp (.r (.r (.r (.rest _))))) (repeat_own (-1) f.blocks.length (by omega) hpos) ?_
     rintro r28 O28 ⟨i28, rfl, rfl⟩
     refine z6<|zTk 11 Z (y7 (cps := [(0, [_]), (1, [_]), (2, [_]), (3, [_])]) (rs := [_, _, _, _]) pl156 Z Z Z)<|zOn 12 Z<|yh (cs := _) Z Z Z Z<|fun i34 => zd (zb (zc .t2))<|zd (zb (zc .t3))<|zd (zb (zc .t4))<|zd (zb (zc .t4))<|zd (zb (zc .t4))<|z6<|zTk 13 Z (zAp Z)<|zDn ?_
     exact ⟨(i34, i28, b30, b32, i25), zR3, zR1, zLe, trivial⟩
  ·refine y6 (m := f.blocks.length) ja jw Z Z Z Z Z (by simp) (by simp) (by show (24 : Int) * _ ≤ _; omega) (by omega) eI 3<|fun b32 => z6<|AAny.three (i := 3) (j := 4) (m := 8) Z Z Z (by kernel_rfl) ?_ ?_ ?_
   ·refine y4 Z (zp (.r (.rest _))) (hnear) ?_
    rintro r25 O25 ⟨i25, rfl, rfl⟩
    refine z6<|yl (i := 4) (j := 8) Z Z (by kernel_rfl) ?_ ?_
    ·refine zt (rows := [[_]]) ps23_1 Z Z Z Z Z<|z6<|yl (i := 6) (j := 8) Z Z (by kernel_rfl) ?_ ?_
     ·refine y4 Z (zp (.r (.r (.rest _)))) (repeat_own (-1) f.blocks.length (by omega) hpos) ?_
      rintro r28 O28 ⟨i28, rfl, rfl⟩
      refine z6<|zOn 8 Z<|y6 (m := f.blocks.length) ja jw Z Z Z Z Z (by simp) (by simp) (by show (24 : Int) * _ ≤ _; omega) (by omega) eI 3<|fun b30 => z6<|zTk 11 Z (y7 (cps := [(0, [_]), (1, [_]), (2, [_]), (3, [_])]) (rs := [_, _, _, _]) pl156 Z Z Z)<|zOn 12 Z<|yh (cs := _) Z Z Z Z<|fun i34 => zd (zb (zc .t3))<|zd (zb (zc .t4))<|zd (zb (zc .t3))<|zd (zb (zc .t4))<|zd (zb (zc .t4))<|z6<|zTk 13 Z (zAp Z)<|zDn ?_
      exact ⟨(i34, i28, b30, b32, i25), zR3, zR1, zLe, trivial⟩
     ·refine y6 (m := f.blocks.length) ja jw Z Z Z Z Z (by simp) (by simp) (by show (24 : Int) * _ ≤ _; omega) (by omega) eI 3<|fun b30 => z6<|zOn 6 Z<|y4 Z (zp (.r (.r (.r (.rest _))))) (repeat_own (-1) f.blocks.length (by omega) hpos) ?_
      rintro r28 O28 ⟨i28, rfl, rfl⟩
      refine z6<|zTk 11 Z (y7 (cps := [(0, [_]), (1, [_]), (2, [_]), (3, [_])]) (rs := [_, _, _, _]) pl156 Z Z Z)<|zOn 12 Z<|yh (cs := _) Z Z Z Z<|fun i34 => zd (zb (zc .t3))<|zd (zb (zc .t4))<|zd (zb (zc .t4))<|zd (zb (zc .t4))<|zd (zb (zc .t4))<|z6<|zTk 13 Z (zAp Z)<|zDn ?_
      exact ⟨(i34, i28, b30, b32, i25), zR3, zR1, zLe, trivial⟩
    ·refine y6 (m := f.blocks.length) ja jw Z Z Z Z Z (by simp) (by simp) (by show (24 : Int) * _ ≤ _; omega) (by omega) eI 3<|fun b30 => z6<|zOn 4 Z<|zt (rows := [[_]]) ps23_1 Z Z Z Z Z<|z6<|zOn 6 Z<|y4 Z (zp (.r (.r (.r (.rest _))))) (repeat_own (-1) f.blocks.length (by omega) hpos) ?_
     rintro r28 O28 ⟨i28, rfl, rfl⟩
     refine z6<|zTk 11 Z (y7 (cps := [(0, [_]), (1, [_]), (2, [_]), (3, [_])]) (rs := [_, _, _, _]) pl156 Z Z Z)<|zOn 12 Z<|yh (cs := _) Z Z Z Z<|fun i34 => zd (zb (zc .t3))<|zd (zb (zc .t4))<|zd (zb (zc .t4))<|zd (zb (zc .t4))<|zd (zb (zc .t4))<|z6<|zTk 13 Z (zAp Z)<|zDn ?_
     exact ⟨(i34, i28, b30, b32, i25), zR3, zR1, zLe, trivial⟩
   ·refine zt (rows := [[_]]) ps23_1 Z Z Z Z Z<|z6<|yl (i := 3) (j := 8) Z Z (by kernel_rfl) ?_ ?_
    ·refine y4 Z (zp (.r (.rest _))) (hnear) ?_
     rintro r25 O25 ⟨i25, rfl, rfl⟩
     refine z6<|yl (i := 6) (j := 8) Z Z (by kernel_rfl) ?_ ?_
     ·refine y4 Z (zp (.r (.r (.rest _)))) (repeat_own (-1) f.blocks.length (by omega) hpos) ?_
      rintro r28 O28 ⟨i28, rfl, rfl⟩
      refine z6<|zOn 8 Z<|y6 (m := f.blocks.length) ja jw Z Z Z Z Z (by simp) (by simp) (by show (24 : Int) * _ ≤ _; omega) (by omega) eI 3<|fun b30 => z6<|zTk 11 Z (y7 (cps := [(0, [_]), (1, [_]), (2, [_]), (3, [_])]) (rs := [_, _, _, _]) pl156 Z Z Z)<|zOn 12 Z<|yh (cs := _) Z Z Z Z<|fun i34 => zd (zb (zc .t3))<|zd (zb (zc .t4))<|zd (zb (zc .t3))<|zd (zb (zc .t4))<|zd (zb (zc .t4))<|z6<|zTk 13 Z (zAp Z)<|zDn ?_
      exact ⟨(i34, i28, b30, b32, i25), zR3, zR1, zLe, trivial⟩
     ·refine y6 (m := f.blocks.length) ja jw Z Z Z Z Z (by simp) (by simp) (by show (24 : Int) * _ ≤ _; omega) (by omega) eI 3<|fun b30 => z6<|zOn 6 Z<|y4 Z (zp (.r (.r (.r (.rest _))))) (repeat_own (-1) f.blocks.length (by omega) hpos) ?_
      rintro r28 O28 ⟨i28, rfl, rfl⟩
      refine z6<|zTk 11 Z (y7 (cps := [(0, [_]), (1, [_]), (2, [_]), (3, [_])]) (rs := [_, _, _, _]) pl156 Z Z Z)<|zOn 12 Z<|yh (cs := _) Z Z Z Z<|fun i34 => zd (zb (zc .t3))<|zd (zb (zc .t4))<|zd (zb (zc .t4))<|zd (zb (zc .t4))<|zd (zb (zc .t4))<|z6<|zTk 13 Z (zAp Z)<|zDn ?_
      exact ⟨(i34, i28, b30, b32, i25), zR3, zR1, zLe, trivial⟩
    ·refine y6 (m := f.blocks.length) ja jw Z Z Z Z Z (by simp) (by simp) (by show (24 : Int) * _ ≤ _; omega) (by omega) eI 3<|fun b30 => z6<|zOn 3 Z<|y4 Z (zp (.r (.r (.rest _)))) (hnear) ?_
     rintro r25 O25 ⟨i25, rfl, rfl⟩
     refine z6<|zOn 6 Z<|y4 Z (zp (.r (.r (.r (.rest _))))) (repeat_own (-1) f.blocks.length (by omega) hpos) ?_
     rintro r28 O28 ⟨i28, rfl, rfl⟩
     refine z6<|zTk 11 Z (y7 (cps := [(0, [_]), (1, [_]), (2, [_]), (3, [_])]) (rs := [_, _, _, _]) pl156 Z Z Z)<|zOn 12 Z<|yh (cs := _) Z Z Z Z<|fun i34 => zd (zb (zc .t2))<|zd (zb (zc .t4))<|zd (zb (zc .t4))<|zd (zb (zc .t4))<|zd (zb (zc .t4))<|z6<|zTk 13 Z (zAp Z)<|zDn ?_
     exact ⟨(i34, i28, b30, b32, i25), zR3, zR1, zLe, trivial⟩
   ·refine y6 (m := f.blocks.length) ja jw Z Z Z Z Z (by simp) (by simp) (by show (24 : Int) * _ ≤ _; omega) (by omega) eI 3<|fun b30 => z6<|yl (i := 3) (j := 4) Z Z (by kernel_rfl) ?_ ?_
    ·refine y4 Z (zp (.r (.r (.rest _)))) (hnear) ?_
     rintro r25 O25 ⟨i25, rfl, rfl⟩
     refine z6<|zOn 4 Z<|zt (rows := [[_]]) ps23_1 Z Z Z Z Z<|z6<|zOn 6 Z<|y4 Z (zp (.r (.r (.r (.rest _))))) (repeat_own (-1) f.blocks.length (by omega) hpos) ?_
     rintro r28 O28 ⟨i28, rfl, rfl⟩
     refine z6<|zTk 11 Z (y7 (cps := [(0, [_]), (1, [_]), (2, [_]), (3, [_])]) (rs := [_, _, _, _]) pl156 Z Z Z)<|zOn 12 Z<|yh (cs := _) Z Z Z Z<|fun i34 => zd (zb (zc .t2))<|zd (zb (zc .t4))<|zd (zb (zc .t4))<|zd (zb (zc .t4))<|zd (zb (zc .t4))<|z6<|zTk 13 Z (zAp Z)<|zDn ?_
     exact ⟨(i34, i28, b30, b32, i25), zR3, zR1, zLe, trivial⟩
    ·refine zt (rows := [[_]]) ps23_1 Z Z Z Z Z<|z6<|zOn 3 Z<|y4 Z (zp (.r (.r (.rest _)))) (hnear) ?_
     rintro r25 O25 ⟨i25, rfl, rfl⟩
     refine z6<|zOn 6 Z<|y4 Z (zp (.r (.r (.r (.rest _))))) (repeat_own (-1) f.blocks.length (by omega) hpos) ?_
     rintro r28 O28 ⟨i28, rfl, rfl⟩
     refine z6<|zTk 11 Z (y7 (cps := [(0, [_]), (1, [_]), (2, [_]), (3, [_])]) (rs := [_, _, _, _]) pl156 Z Z Z)<|zOn 12 Z<|yh (cs := _) Z Z Z Z<|fun i34 => zd (zb (zc .t2))<|zd (zb (zc .t4))<|zd (zb (zc .t4))<|zd (zb (zc .t4))<|zd (zb (zc .t4))<|z6<|zTk 13 Z (zAp Z)<|zDn ?_
     exact ⟨(i34, i28, b30, b32, i25), zR3, zR1, zLe, trivial⟩
 ·rintro ⟨i34, i28, b30, b32, i25⟩ _
  refine zSr<|z8 (zMp Z)<|z8 (yd Z)<|z8 (zl jq Z j8 (by decide) Z Z)<|z8 (zm (c := .own _ _) jg Z ⟨_, .head⟩ Z)<|z8 (yn (j := 0) j4 j5 Z Z Z ⟨_, .t1⟩ (by first | rfl | (simp [cI_len, cB_len]; done) | (simp [cI_len, cB_len]; omega)) hpos)<|AOps.storeI (j := 0) j5 Z Z .t1 (by first | omega | (simp; omega))<|z6<|za<|zSr<|zVzMf Z<|z8 (Gv.cutLoM (j := 1) j4 j5 Z Z Z (by omega))<|zVGvlenM j4 Z<|zVzMi Z<|z6<|zg<|zx (γ := Nat) [4, 5, 6, 7, 41, 42] (fun q => [(43, .int .i64 q)]) (fun q => [(i34, .cells 156 [.own i25 f.blocks.length, .own i28 f.blocks.length, nref b30 f.blocks.length, nref b32 f.blocks.length]), (i28, .grow 1 3 (cI (levTo (EndsOf f) f.blocks.length q))), (0, nestO eI 23 3 b30 (List.replicate f.blocks.length [])), (0, nestO eI 23 3 b32 (List.replicate f.blocks.length [])), (i25, .grow 1 3 (cI (nearR (EndsOf f) f.blocks.length)))]) (fun q => q ≤ ((orderT (EndsOf f) f.blocks.length).drop 1).length ∧ ∀ x, -1 ≤ gi (levTo (EndsOf f) f.blocks.length q) x ∧ gi (levTo (EndsOf f) f.blocks.length q) x ≤ q) (fun q => ((orderT (EndsOf f) f.blocks.length).drop 1).length - q) 0 zR1 zLe (⟨qg _, fun x => by rw [show levTo (EndsOf f) f.blocks.length 0 = first0 f.blocks.length from rfl, first_gi hpos]; dsimp only; split <;> omega⟩) ?_
  rintro q ⟨hq, hb⟩
  refine zSr<|zVGvlss Z Z<|z6<|za<|zq Z (fun cq=>?_) (fun cq=>?_)
  ·have hq2 : q < ((orderT (EndsOf f) f.blocks.length).drop 1).length := by simpa using cq
   obtain ⟨b, hbe⟩ : ∃ b, ((orderT (EndsOf f) f.blocks.length).drop 1)[q] = b := ⟨_, rfl⟩
   have hbt : b ∈ (orderT (EndsOf f) f.blocks.length).drop 1 := hbe ▸ qh hq2
   have hbm : b ∈ orderT (EndsOf f) f.blocks.length := List.mem_of_mem_drop hbt
   have hb0 := tail_ne hG.toEOk hbt
   obtain ⟨hbp, hbn⟩ := hrng b hbm
   have hnm := (hG.near_mem hbm hb0).1
   rw [← nearR_get hbp hb0] at hnm
   obtain ⟨hnp, hnn⟩ := hrng _ hnm
   have hgN : (nearR (EndsOf f) f.blocks.length)[b.toNat]? = some (gi (nearR (EndsOf f) f.blocks.length) b) := gi_get hbp (by rw [nearR_len]; omega)
   have hgL : (levTo (EndsOf f) f.blocks.length q)[(gi (nearR (EndsOf f) f.blocks.length) b).toNat]? = some (gi (levTo (EndsOf f) f.blocks.length q) (gi (nearR (EndsOf f) f.blocks.length) b)) := gi_get hnp (by rw [levTo_len]; omega)
   have hbb := hb (gi (nearR (EndsOf f) f.blocks.length) b)
   have hsucc : levTo (EndsOf f) f.blocks.length (q + 1) = (levTo (EndsOf f) f.blocks.length q).set b.toNat (gi (levTo (EndsOf f) f.blocks.length q) (gi (nearR (EndsOf f) f.blocks.length) b) + 1) := by rw [levTo_succ hq2, hbe, nearR_get hbp hb0]; rfl
   have hlen := levTo_len (EndsOf f) f.blocks.length q
   have hNl := nearR_len (EndsOf f) f.blocks.length
   have hql : q ≤ 1000 := by have : ((orderT (EndsOf f) f.blocks.length).drop 1).length ≤ (orderT (EndsOf f) f.blocks.length).length := (by simp); omega
   refine ze<|za<|zg<|zSr<|z8 (zIM q j4 j5 Z Z Z (by rw [qd hq2, hbe])) ?_
   refine zVzLi jd Z<|zVzAi Z<|z6<|y8 (fun j => Nat.beq j 20) (by kernel_rfl) Z (zp (.r (.l (.l (.l (.r (.rest _)))))))<|zTk 0 Z (zMp Z)<|zTk 1 Z (yd Z)<|zTk 2 Z (zl jq Z j8 (by decide) Z Z)<|zTk 3 Z (zm (c := .own _ _) jg Z ⟨_, .head⟩ Z)<|zTk 4 Z (zMi Z)<|zTk 5 Z (zMp Z)<|zTk 6 Z (yd Z)<|zTk 7 Z (zl jq Z j8 (by decide) Z Z)<|zTk 8 Z (zm (c := .own _ _) jg Z ⟨_, .head⟩ Z)<|zTk 9 Z (zMp Z)<|zTk 10 Z (yd Z)<|zTk 11 Z (zl jq Z j8 (by decide) Z Z)<|zTk 12 Z (zm (c := .own _ _) jg Z ⟨_, .head⟩ Z)<|zTk 13 Z (zMi Z)<|zTk 14 Z (yn (j := b.toNat) j4 j5 Z Z (by omega) ⟨_, .t1⟩ (by first | rfl | (simp [cI_len, cB_len]; done) | (simp [cI_len, cB_len]; omega)) (by omega))<|zTk 15 Z (yw (j := b.toNat) jd Z ⟨_, .t1⟩ hgN)<|zOn 16 Z<|z8 (yn (j := (gi (nearR (EndsOf f) f.blocks.length) b).toNat) j4 j5 Z Z (by omega) ⟨_, .head⟩ (by first | rfl | (simp [cI_len, cB_len]; done) | (simp [cI_len, cB_len]; omega)) (by omega))<|z6<|zOn 17 Z<|z8 (yw (j := (gi (nearR (EndsOf f) f.blocks.length) b).toNat) jd Z ⟨_, .head⟩ hgL)<|z6<|zTk 18 Z (zAd Z Z)<|zOn 19 Z<|z8 (yn (j := b.toNat) j4 j5 Z Z (by omega) ⟨_, .head⟩ (by first | rfl | (simp [cI_len, cB_len]; done) | (simp [cI_len, cB_len]; omega)) (by omega))<|z6<|yp<|yx (i := 20) Z (by kernel_rfl) (by kernel_rfl)<|AOps.storeI (j := b.toNat) j5 Z Z .t2 (by first | omega | (simp; omega))<|zd (zb (zc .t1))<|zd (zb (zc .t4))<|zd (zb (zc .t4))<|zd (zb (zc .t4))<|zd (zb (zc .t4))<|z6<|yu (by kernel_rfl)<|zRg ?_
   refine zVzAd Z Z<|zVzMi Z<|z6 ?_
   exact ⟨q + 1, zR6, zR1, ⟨_, (.refl _), by rw [hsucc]⟩, ⟨hq2, fun x => by rw [hsucc, set_gi hbp (by omega)]; have := hb x; split <;> omega⟩, by omega⟩
  ·have hqn : q = ((orderT (EndsOf f) f.blocks.length).drop 1).length := by have h0 : ¬ (q : Int) < (((orderT (EndsOf f) f.blocks.length).drop 1).length : Int) := (by simpa using cq); omega
   subst hqn
   rw [levTo_all]
   refine zw<|za<|zSr<|zVzMi Z<|zVzMi Z<|z6<|zg<|zx (γ := Nat) [4, 6, 7, 68] (fun k => [(69, .int .i64 k)]) (fun k => [(i34, .cells 156 [.own i25 f.blocks.length, .own i28 f.blocks.length, nref b30 f.blocks.length, nref b32 f.blocks.length]), (i28, .grow 1 3 (cI (levG (EndsOf f) f.blocks.length))), (0, nestO eI 23 3 b30 (rowsOf f.blocks.length (evK (nearR (EndsOf f) f.blocks.length) k))), (0, nestO eI 23 3 b32 (List.replicate f.blocks.length [])), (i25, .grow 1 3 (cI (nearR (EndsOf f) f.blocks.length)))]) (fun k => k ≤ f.blocks.length) (fun k => f.blocks.length - k) 0 zR1 ⟨_, (.refl _), by rw [rowsOf_nil]; rfl⟩ (qg _) ?_
   rintro k hk
   refine zSr<|zVGvlss Z Z<|z6<|za<|zq Z (fun ck=>?_) (fun ck=>?_)
   ·have hk2 : k < f.blocks.length := by simp at ck; omega
    have hNl := nearR_len (EndsOf f) f.blocks.length
    have hgN : (nearR (EndsOf f) f.blocks.length)[k]? = some (gi (nearR (EndsOf f) f.blocks.length) (k : Int)) := gi_get (x := (k : Int)) (by omega) (by rw [nearR_len]; omega)
    have hel := evK_len (nearR (EndsOf f) f.blocks.length) k
    refine ze<|za<|zg<|zSr<|zVzMi Z<|zVzAi Z<|z6<|zSr<|z8 (zMp Z)<|z8 (yd Z)<|z8 (zl jq Z j8 (by decide) Z Z)<|z8 (zm (c := .own _ _) jg Z ⟨_, .head⟩ Z)<|zVzMi Z<|z8 (yn (j := k) j4 j5 Z Z Z ⟨_, .t4⟩ (by first | rfl | (simp [cI_len, cB_len]; done) | (simp [cI_len, cB_len]; omega)) hk2)<|z8 (yw (j := k) jd Z ⟨_, .t4⟩ hgN)<|zVzAi Z<|z6<|zSr<|zVzMi Z<|zVGvneqI Z Z<|z6<|zr Z (fun cn=>?_) (fun cn=>?_)
    ·have hne : gi (nearR (EndsOf f) f.blocks.length) (k : Int) ≠ -1 := by simpa using cn
     have hpm := (near_rng hG (by omega) hne).2
     obtain ⟨hp0, hpn⟩ := hrng _ hpm
     obtain ⟨p, hpe⟩ : ∃ p, gi (nearR (EndsOf f) f.blocks.length) (k : Int) = p := ⟨_, rfl⟩
     rw [hpe] at hne hpm hp0 hpn
     have hpl : p.toNat < (rowsOf f.blocks.length (evK (nearR (EndsOf f) f.blocks.length) k)).length := by rw [rowsOf_len]; omega
     have hrl := rowsOf_row hpl
     have hsucc : evK (nearR (EndsOf f) f.blocks.length) (k + 1) = evK (nearR (EndsOf f) f.blocks.length) k ++ [(p, (k : Int))] := by rw [evK_succ, hpe, if_pos hne]
     rw [hpe]
     refine yo (γ := Unit) [4, 6, 7, 68, 69] (fun u => []) (fun u => [(i34, .cells 156 [.own i25 f.blocks.length, .own i28 f.blocks.length, nref b30 f.blocks.length, nref b32 f.blocks.length]), (i28, .grow 1 3 (cI (levG (EndsOf f) f.blocks.length))), (0, nestO eI 23 3 b30 ((rowsOf f.blocks.length (evK (nearR (EndsOf f) f.blocks.length) k)).set p.toNat ((rowsOf f.blocks.length (evK (nearR (EndsOf f) f.blocks.length) k))[p.toNat] ++ [(k : Int)]))), (0, nestO eI 23 3 b32 (List.replicate f.blocks.length [])), (i25, .grow 1 3 (cI (nearR (EndsOf f) f.blocks.length)))]) (fun u => True) ?_ (fun _ _ h => h) ?_
     ·refine y8 (fun j => Nat.beq j 16) (by kernel_rfl) Z (zp (.r (.l (.l (.l (.r (.rest _)))))))<|zTk 0 Z (zMp Z)<|zTk 1 Z (yd Z)<|zTk 2 Z (zl jq Z Y4 (by decide) Z Z)<|zTk 3 Z (zm (c := nref _ _) isAgg118 Z ⟨_, .head⟩ Z)<|zTk 4 Z (zMi Z)<|zTk 5 Z (zMp Z)<|zTk 6 Z (yd Z)<|zTk 7 Z (zl jq Z Y4 (by decide) Z Z)<|zTk 8 Z (zm (c := nref _ _) isAgg118 Z ⟨_, .head⟩ Z)<|zTk 9 Z (zMi Z)<|zTk 10 Z (qa (j := p.toNat) ja j8 Z Z (by omega) (by omega))<|zTk 12 Z (zMi Z)<|yl (i := 11) (j := 13) Z Z (by kernel_rfl) ?_ ?_
      ·refine yy (j := p.toNat) (r := (rowsOf f.blocks.length (evK (nearR (EndsOf f) f.blocks.length) k))[p.toNat]) jg Z (qd hpl) (fun _ => .t1)<|fun i92 => z6<|zOn 13 Z<|zt (rows := [[_]]) ps23_1 Z Z Z Z Z<|z6<|zOn 14 Z<|yj (k := 1) j4 type3 Z Z Z Z Z (fun _ => .head) (by rw [eI.av_len]; rfl) (by decide) Z (by show (_ + 1) * 8 ≤ _; omega) (by show _ + 1 ≤ _; omega)<|fun i95 => z6<|zTk 15 Z (qa (j := p.toNat) ja j8 Z Z (by omega) (by omega))<|yp<|yx (i := 16) Z (by kernel_rfl) (by kernel_rfl)<|qc (j := p.toNat) (r := (rowsOf f.blocks.length (evK (nearR (EndsOf f) f.blocks.length) k))[p.toNat] ++ [(k : Int)]) j8 Z Z (by omega) .t2 .t3 Z (eI.av_push _ _) (by simp)<|zd (zb (zc .t1))<|zd (zb (zc .t4))<|zd (zb (zc .t4))<|zd (zb (zc .t4))<|zd (zb (zc .t4))<|z6<|yu (by kernel_rfl) ?_
       exact ⟨(), zR5, trivial, zLe, trivial⟩
      ·refine zt (rows := [[_]]) ps23_1 Z Z Z Z Z<|z6<|zOn 11 Z<|yy (j := p.toNat) (r := (rowsOf f.blocks.length (evK (nearR (EndsOf f) f.blocks.length) k))[p.toNat]) jg Z (qd hpl) (fun _ => .t1)<|fun i92 => z6<|zOn 14 Z<|yj (k := 1) j4 type3 Z Z Z Z Z (fun _ => .head) (by rw [eI.av_len]; rfl) (by decide) Z (by show (_ + 1) * 8 ≤ _; omega) (by show _ + 1 ≤ _; omega)<|fun i95 => z6<|zTk 15 Z (qa (j := p.toNat) ja j8 Z Z (by omega) (by omega))<|yp<|yx (i := 16) Z (by kernel_rfl) (by kernel_rfl)<|qc (j := p.toNat) (r := (rowsOf f.blocks.length (evK (nearR (EndsOf f) f.blocks.length) k))[p.toNat] ++ [(k : Int)]) j8 Z Z (by omega) .t2 .t3 Z (eI.av_push _ _) (by simp)<|zd (zb (zc .t1))<|zd (zb (zc .t4))<|zd (zb (zc .t4))<|zd (zb (zc .t4))<|zd (zb (zc .t4))<|z6<|yu (by kernel_rfl) ?_
       exact ⟨(), zR5, trivial, zLe, trivial⟩
     ·rintro _ _
      refine zRg<|zVzAd Z Z<|zVzMi Z<|z6 ?_
      exact ⟨k + 1, zR4, zR1, ⟨_, (.refl _), by rw [hsucc, rowsOf_push hp0 hpl]⟩, hk2, by omega⟩
    ·have hne : gi (nearR (EndsOf f) f.blocks.length) (k : Int) = -1 := by simpa using cn
     have hsucc : evK (nearR (EndsOf f) f.blocks.length) (k + 1) = evK (nearR (EndsOf f) f.blocks.length) k := by rw [evK_succ, if_neg (by rw [hne]; simp)]; simp
     refine ze<|zRg<|zVzAd Z Z<|zVzMi Z<|z6 ?_
     exact ⟨k + 1, zR4, zR1, ⟨_, (.refl _), by rw [hsucc]⟩, hk2, by omega⟩
   ·have hkn : k = f.blocks.length := by simp at ck; omega
    subst hkn
    refine zy (zb (zc .t4))<|zy (zb (zc .t2))<|zy (zb (zc .t2))<|zy (zb (zc .t4))<|zw<|zSr<|z8 (zMp Z)<|zVzMf Z<|zVzMf Z<|y4 Z (zp (.l (.l (.l (.l (.r (.rest _))))))) (hfr _ _ _ _ 0 _) ?_
    rintro r101 O101 ⟨rfl, fr, hfr2, rfl⟩
    refine z6<|zSr<|z8 (zMp Z)<|z8 (zAp Z)<|zVzAi Z<|z6<|zy (GStep.knowIC (off := 0) .t3 .t1 Z (nearR_len _ _))<|zy (GStep.knowIC (off := 1) .t2 .t1 Z hG.lev.len)<|zy (GStep.nestKnowC (off := 2) .t2 .t1 Z (rowsOf_len _ _))<|zy (GStep.nestKnowC (off := 3) .head .head Z hfr2.1)<|zy (ye (t := 2) Z .head)<|zi<|afin.t2 (x := .pf _) (y := .int _ _) Z Z ?_
    exact ⟨⟨fr, hfr2, rfl⟩, rfl⟩
def treeT (f : PFunc) : AV := treeV f (froN eI (kidsR f)) .any
theorem New_spec (f : PFunc) (hf : small f) (hL : Letters E) (ht : typedB f = true) : AFun prog E 40 [.agg (encF f)] (.tup [treeT f, .int .i64 0]) :=
 (new_own f hf hL ht).weak fun x O h => by
  obtain ⟨⟨fr, hfr, rfl⟩, rfl⟩ := h
  refine ⟨Z, fun I v hv => ?_⟩
  obtain ⟨vs, e, w0, us, e2, h0, hr⟩ := hv
  obtain ⟨b, off, ws, e3, hl, hk⟩ := h0
  obtain ⟨u0, t0, f0, a0, u1, t1, f1, a1, u2, t2, f2, a2, u3, t3, f3, a3, hz⟩ := hl
  exact ⟨vs, e, w0, us, e2, ⟨b, off, ws, e3, ⟨u0, t0, f0, a0, u1, t1, f1, a1, u2, t2, f2, a2, u3, t3, f3, trivial, hz⟩, hk⟩, hr⟩
end Go.Proofs.YtiojekbkamegdaaGreatDoor
