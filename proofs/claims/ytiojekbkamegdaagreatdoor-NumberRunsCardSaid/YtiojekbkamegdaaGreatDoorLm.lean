/- The tree of what is above what, made. Of programs that are little. -/
import Derived.Test.YtiojekbkamegdaaGreatDoorLl
set_option linter.unusedVariables false
set_option linter.unusedSimpArgs false
set_option linter.unusedSectionVars false
namespace Go.Proofs.YtiojekbkamegdaaGreatDoor
open Go.Proofs.Tryz
open Go.Proofs Go.Lib Go.Shelf Go.RowKit
theorem pl156 : Places prog 156 #[(0, 1), (1, 1), (2, 1), (3, 1)] [.raw (.slice none 0 0), .raw (.slice none 0 0), .raw (.slice none 0 0), .raw (.slice none 0 0)] := ⟨_, _, Z3, zeroValue156, fun w => by kernel_rfl, rfl⟩
variable {E : World}
set_option maxRecDepth 20000
def levTo (S : Int → List Int) (n q : Nat) : List Int := (((orderT S n).drop 1).take q).foldl (levS (nearG S n)) (first0 n)
theorem levTo_succ {S : Int → List Int} {n q : Nat} (h : q < ((orderT S n).drop 1).length) : levTo S n (q + 1) = levS (nearG S n) (levTo S n q) ((orderT S n).drop 1)[q] := by
 unfold levTo; rw [qr h, List.foldl_append]; rfl
theorem levTo_all (S : Int → List Int) (n : Nat) : levTo S n ((orderT S n).drop 1).length = levG S n := by unfold levTo levG; rw [qv, List.drop_one]
theorem levTo_len (S : Int → List Int) (n q : Nat) : (levTo S n q).length = n := by unfold levTo; rw [foldl_len (fun l x => levS_len _ l x), first0_len]
theorem tail_ne {S : Int → List Int} {n : Nat} (hE : EOk S n) {b : Int} (hb : b ∈ (orderT S n).drop 1) : b ≠ 0 := by
 have h1 := order_head hE
 have h2 := order_nodup hE
 cases h : orderT S n with
 | nil => rw [h] at h1; simp at h1
 | cons z zs =>
  rw [h] at h1 h2 hb
  simp at h1
  subst h1
  intro e
  subst e
  exact (List.nodup_cons.1 h2).1 (by simpa using hb)
theorem order_pos {S : Int → List Int} {n : Nat} (hE : EOk S n) : 0 < (orderT S n).length := by
 have h1 := order_head hE
 cases h : orderT S n with
 | nil => rw [h] at h1; simp at h1
 | cons z zs => simp
def evK (N : List Int) (k : Nat) : List (Int × Int) := ((intsTo k).filter fun b => decide (gi N b ≠ -1)).map fun b => (gi N b, b)
theorem evK_succ (N : List Int) (k : Nat) : evK N (k + 1) = evK N k ++ if gi N (k : Int) ≠ -1 then [(gi N (k : Int), (k : Int))] else [] := by
 unfold evK; rw [intsTo_succ, List.filter_append, w2]
 by_cases h : gi N (k : Int) = -1 <;> simp [h]
theorem evK_len (N : List Int) (k : Nat) : (evK N k).length ≤ k := by
 unfold evK; rw [qx]; exact Nat.le_trans (List.length_filter_le _ _) (by rw [intsTo_len]; exact Nat.le_refl _)
def kidsR (f : PFunc) : List (List Int) := rowsOf f.blocks.length (evK (nearR (EndsOf f) f.blocks.length) f.blocks.length)
theorem near_rng {S : Int → List Int} {n : Nat} (hG : Grph S n) {b : Int} (h0 : 0 ≤ b) (hb : gi (nearR S n) b ≠ -1) : b ∈ orderT S n ∧ gi (nearR S n) b ∈ orderT S n := by
 by_cases e : b = 0
 ·rw [e, nearR_0 hG.npos] at hb; exact absurd rfl hb
 ·rw [nearR_get h0 e] at hb ⊢
  have := hG.exact.inv.mem b hb
  exact ⟨this, (hG.near_mem this e).1⟩
set_option maxHeartbeats 4000000 in
theorem new_own (f : PFunc) (hf : small f) (hL : Letters E) (ht : typedB f = true) : ACall prog E 40 [.agg (encF f)] []
  fun r O => (∃ fr, FrI f.blocks.length fr ∧ r = .tup [treeV f (froN eI (kidsR f)) (froN eI fr), .int .i64 0]) ∧ O = [] := by
 have hE := typedB_ends ht
 have hn := hf.2.2.1
 have hG := hE.grph
 have hpos := hG.npos
 have hol := order_len hG
 have hop := order_pos hG.toEOk
 have hnear := nearest_spec (E := E) f hE hn
 have hfr := fun t a b fb T x => fronts_spec (E := E) f hE hn t a b fb T x _ (FrI.begin f.blocks.length)
 have hprd := predsX_spec f hf hL ht
 have hord := orderX_spec f hf hL ht
 have hrng : ∀ z ∈ orderT (EndsOf f) f.blocks.length, 0 ≤ z ∧ z < f.blocks.length := fun z hz => order_rng hG.toEOk hz
 refine zp func40 Z (by decide) Z<|zSr<|yc (cs := _) Z Z Z<|z8 (zAr Z)<|zVzAi Z<|z2<|zSr<|zVGvloadWF jq jj Z Z<|zg (hord) Z<|z8 (zAf Z)<|z2<|zc<|zSr<|zVzMf Z<|zVGvlenM j6 Z<|zVGveqlI Z Z<|z2<|yj Z (by simp; exact List.ne_nil_of_length_pos hop)<|zf<|zc<|zr (fun j => false) (by kernel_rfl) Z (zm (.rest _))<|zTk 0 Z (zFF jh Z Z1 Z Z)<|zTk 1 Z (zLf Z8 Z)<|zTk 2 Z (Gv.lenM jl Z)<|zTk 3 Z (yl jq jj Z Z)<|zOn 4 Z<|zg (hprd) Z<|z2<|zTk 5 Z (zAi Z)<|zTk 6 Z (zAf Z)<|zDn<|zc<|yn (γ := Nat × Nat × Nat × Nat × Nat) [4, 5, 6] (fun g => [(7, .po g.1 0)]) (fun g => [(g.1, .cells 156 [.own g.2.2.2.2 f.blocks.length, .own g.2.1 f.blocks.length, nref g.2.2.1 f.blocks.length, nref g.2.2.2.1 f.blocks.length]), (g.2.1, .grow 1 3 (cI (List.replicate f.blocks.length (-1)))), (0, nestO eI 23 3 g.2.2.1 (List.replicate f.blocks.length [])), (0, nestO eI 23 3 g.2.2.2.1 (List.replicate f.blocks.length [])), (g.2.2.2.2, .grow 1 3 (cI (nearR (EndsOf f) f.blocks.length)))]) (fun g => True) ?_ (fun _ _ h => h) ?_
 ·refine zr (fun j => false) (by kernel_rfl) Z (zm (.rest _))<|zTk 0 Z (zMf Z)<|zTk 1 Z (zMf Z)<|zTk 2 Z (zMi Z)<|zTk 5 Z (zMi Z)<|zTk 7 Z (zMi Z)<|zTk 9 Z (zMi Z)<|AAny.four (i := 3) (j := 4) (m := 8) (q := 10) Z Z Z Z (by kernel_rfl) ?_ ?_ ?_ ?_
  ·refine zy Z (zm (.rest _)) (hnear) ?_
   rintro r25 O25 ⟨i25, rfl, rfl⟩
   refine z2<|qg (i := 4) (j := 8) (m := 10) Z Z Z (by kernel_rfl) ?_ ?_ ?_
   ·refine zx (rows := [[_]]) ps23_1 Z Z Z Z Z<|z2<|qg (i := 6) (j := 8) (m := 10) Z Z Z (by kernel_rfl) ?_ ?_ ?_
    ·refine zy Z (zm (.r (.rest _))) (repeat_own (-1) f.blocks.length (by omega) hpos) ?_
     rintro r28 O28 ⟨i28, rfl, rfl⟩
     refine z2<|yi (i := 8) (j := 10) Z Z (by kernel_rfl) ?_ ?_
     ·refine y9 (m := f.blocks.length) jg Z7 Z Z Z Z Z (by simp) (by simp) (by show (24 : Int) * _ ≤ _; omega) (by omega) eI 3<|fun b30 => z2<|zOn 10 Z<|y9 (m := f.blocks.length) jg Z7 Z Z Z Z Z (by simp) (by simp) (by show (24 : Int) * _ ≤ _; omega) (by omega) eI 3<|fun b32 => z2<|zTk 11 Z (zz (cps := [(0, [_]), (1, [_]), (2, [_]), (3, [_])]) (rs := [_, _, _, _]) pl156 Z Z Z)<|zOn 12 Z<|yk (cs := _) Z Z Z Z<|fun i34 => zd (za (zb .t4))<|zd (za (zb .t2))<|zd (za (zb .t3))<|zd (za (zb .t4))<|zd (za (zb .t4))<|z2<|zTk 13 Z (zAp Z)<|zDn ?_
      exact ⟨(i34, i28, b30, b32, i25), zR3, zR1, zLe, trivial⟩
     ·refine y9 (m := f.blocks.length) jg Z7 Z Z Z Z Z (by simp) (by simp) (by show (24 : Int) * _ ≤ _; omega) (by omega) eI 3<|fun b32 => z2<|zOn 8 Z<|y9 (m := f.blocks.length) jg Z7 Z Z Z Z Z (by simp) (by simp) (by show (24 : Int) * _ ≤ _; omega) (by omega) eI 3<|fun b30 => z2<|zTk 11 Z (zz (cps := [(0, [_]), (1, [_]), (2, [_]), (3, [_])]) (rs := [_, _, _, _]) pl156 Z Z Z)<|zOn 12 Z<|yk (cs := _) Z Z Z Z<|fun i34 => zd (za (zb .t4))<|zd (za (zb .t3))<|zd (za (zb .t3))<|zd (za (zb .t4))<|zd (za (zb .t4))<|z2<|zTk 13 Z (zAp Z)<|zDn ?_
      exact ⟨(i34, i28, b30, b32, i25), zR3, zR1, zLe, trivial⟩
    ·refine y9 (m := f.blocks.length) jg Z7 Z Z Z Z Z (by simp) (by simp) (by show (24 : Int) * _ ≤ _; omega) (by omega) eI 3<|fun b30 => z2<|yi (i := 6) (j := 10) Z Z (by kernel_rfl) ?_ ?_
     ·refine zy Z (zm (.r (.r (.rest _)))) (repeat_own (-1) f.blocks.length (by omega) hpos) ?_
      rintro r28 O28 ⟨i28, rfl, rfl⟩
      refine z2<|zOn 10 Z<|y9 (m := f.blocks.length) jg Z7 Z Z Z Z Z (by simp) (by simp) (by show (24 : Int) * _ ≤ _; omega) (by omega) eI 3<|fun b32 => z2<|zTk 11 Z (zz (cps := [(0, [_]), (1, [_]), (2, [_]), (3, [_])]) (rs := [_, _, _, _]) pl156 Z Z Z)<|zOn 12 Z<|yk (cs := _) Z Z Z Z<|fun i34 => zd (za (zb .t4))<|zd (za (zb .t2))<|zd (za (zb .t4))<|zd (za (zb .t4))<|zd (za (zb .t4))<|z2<|zTk 13 Z (zAp Z)<|zDn ?_
      exact ⟨(i34, i28, b30, b32, i25), zR3, zR1, zLe, trivial⟩
     ·refine y9 (m := f.blocks.length) jg Z7 Z Z Z Z Z (by simp) (by simp) (by show (24 : Int) * _ ≤ _; omega) (by omega) eI 3<|fun b32 => z2<|zOn 6 Z<|zy Z (zm (.r (.r (.r (.rest _))))) (repeat_own (-1) f.blocks.length (by omega) hpos) ?_
      rintro r28 O28 ⟨i28, rfl, rfl⟩
      refine z2<|zTk 11 Z (zz (cps := [(0, [_]), (1, [_]), (2, [_]), (3, [_])]) (rs := [_, _, _, _]) pl156 Z Z Z)<|zOn 12 Z<|yk (cs := _) Z Z Z Z<|fun i34 => zd (za (zb .t4))<|zd (za (zb .t3))<|zd (za (zb .t4))<|zd (za (zb .t4))<|zd (za (zb .t4))<|z2<|zTk 13 Z (zAp Z)<|zDn ?_
      exact ⟨(i34, i28, b30, b32, i25), zR3, zR1, zLe, trivial⟩
    ·refine y9 (m := f.blocks.length) jg Z7 Z Z Z Z Z (by simp) (by simp) (by show (24 : Int) * _ ≤ _; omega) (by omega) eI 3<|fun b32 => z2<|yi (i := 6) (j := 8) Z Z (by kernel_rfl) ?_ ?_
     ·refine zy Z (zm (.r (.r (.rest _)))) (repeat_own (-1) f.blocks.length (by omega) hpos) ?_
      rintro r28 O28 ⟨i28, rfl, rfl⟩
      refine z2<|zOn 8 Z<|y9 (m := f.blocks.length) jg Z7 Z Z Z Z Z (by simp) (by simp) (by show (24 : Int) * _ ≤ _; omega) (by omega) eI 3<|fun b30 => z2<|zTk 11 Z (zz (cps := [(0, [_]), (1, [_]), (2, [_]), (3, [_])]) (rs := [_, _, _, _]) pl156 Z Z Z)<|zOn 12 Z<|yk (cs := _) Z Z Z Z<|fun i34 => zd (za (zb .t4))<|zd (za (zb .t4))<|zd (za (zb .t3))<|zd (za (zb .t4))<|zd (za (zb .t4))<|z2<|zTk 13 Z (zAp Z)<|zDn ?_
      exact ⟨(i34, i28, b30, b32, i25), zR3, zR1, zLe, trivial⟩
     ·refine y9 (m := f.blocks.length) jg Z7 Z Z Z Z Z (by simp) (by simp) (by show (24 : Int) * _ ≤ _; omega) (by omega) eI 3<|fun b30 => z2<|zOn 6 Z<|zy Z (zm (.r (.r (.r (.rest _))))) (repeat_own (-1) f.blocks.length (by omega) hpos) ?_
      rintro r28 O28 ⟨i28, rfl, rfl⟩
      refine z2<|zTk 11 Z (zz (cps := [(0, [_]), (1, [_]), (2, [_]), (3, [_])]) (rs := [_, _, _, _]) pl156 Z Z Z)<|zOn 12 Z<|yk (cs := _) Z Z Z Z<|fun i34 => z2<|zTk 13 Z (zAp Z)<|zDn ?_
      exact ⟨(i34, i28, b30, b32, i25), zR3, zR1, zLe, trivial⟩
   ·refine y9 (m := f.blocks.length) jg Z7 Z Z Z Z Z (by simp) (by simp) (by show (24 : Int) * _ ≤ _; omega) (by omega) eI 3<|fun b30 => z2<|yi (i := 4) (j := 10) Z Z (by kernel_rfl) ?_ ?_
    ·refine zx (rows := [[_]]) ps23_1 Z Z Z Z Z<|z2<|yi (i := 6) (j := 10) Z Z (by kernel_rfl) ?_ ?_
     ·refine zy Z (zm (.r (.r (.rest _)))) (repeat_own (-1) f.blocks.length (by omega) hpos) ?_
      rintro r28 O28 ⟨i28, rfl, rfl⟩
      refine z2<|zOn 10 Z<|y9 (m := f.blocks.length) jg Z7 Z Z Z Z Z (by simp) (by simp) (by show (24 : Int) * _ ≤ _; omega) (by omega) eI 3<|fun b32 => z2<|zTk 11 Z (zz (cps := [(0, [_]), (1, [_]), (2, [_]), (3, [_])]) (rs := [_, _, _, _]) pl156 Z Z Z)<|zOn 12 Z<|yk (cs := _) Z Z Z Z<|fun i34 => zd (za (zb .t4))<|zd (za (zb .t2))<|zd (za (zb .t4))<|zd (za (zb .t4))<|zd (za (zb .t4))<|z2<|zTk 13 Z (zAp Z)<|zDn ?_
      exact ⟨(i34, i28, b30, b32, i25), zR3, zR1, zLe, trivial⟩
     ·refine y9 (m := f.blocks.length) jg Z7 Z Z Z Z Z (by simp) (by simp) (by show (24 : Int) * _ ≤ _; omega) (by omega) eI 3<|fun b32 => z2<|zOn 6 Z<|zy Z (zm (.r (.r (.r (.rest _))))) (repeat_own (-1) f.blocks.length (by omega) hpos) ?_
      rintro r28 O28 ⟨i28, rfl, rfl⟩
      refine z2<|zTk 11 Z (zz (cps := [(0, [_]), (1, [_]), (2, [_]), (3, [_])]) (rs := [_, _, _, _]) pl156 Z Z Z)<|zOn 12 Z<|yk (cs := _) Z Z Z Z<|fun i34 => zd (za (zb .t4))<|zd (za (zb .t3))<|zd (za (zb .t4))<|zd (za (zb .t4))<|zd (za (zb .t4))<|z2<|zTk 13 Z (zAp Z)<|zDn ?_
      exact ⟨(i34, i28, b30, b32, i25), zR3, zR1, zLe, trivial⟩
    ·refine y9 (m := f.blocks.length) jg Z7 Z Z Z Z Z (by simp) (by simp) (by show (24 : Int) * _ ≤ _; omega) (by omega) eI 3<|fun b32 => z2<|zOn 4 Z<|zx (rows := [[_]]) ps23_1 Z Z Z Z Z<|z2<|zOn 6 Z<|zy Z (zm (.r (.r (.r (.rest _))))) (repeat_own (-1) f.blocks.length (by omega) hpos) ?_
     rintro r28 O28 ⟨i28, rfl, rfl⟩
     refine z2<|zTk 11 Z (zz (cps := [(0, [_]), (1, [_]), (2, [_]), (3, [_])]) (rs := [_, _, _, _]) pl156 Z Z Z)<|zOn 12 Z<|yk (cs := _) Z Z Z Z<|fun i34 => zd (za (zb .t4))<|zd (za (zb .t3))<|zd (za (zb .t4))<|zd (za (zb .t4))<|zd (za (zb .t4))<|z2<|zTk 13 Z (zAp Z)<|zDn ?_
     exact ⟨(i34, i28, b30, b32, i25), zR3, zR1, zLe, trivial⟩
   ·refine y9 (m := f.blocks.length) jg Z7 Z Z Z Z Z (by simp) (by simp) (by show (24 : Int) * _ ≤ _; omega) (by omega) eI 3<|fun b32 => z2<|yi (i := 4) (j := 8) Z Z (by kernel_rfl) ?_ ?_
    ·refine zx (rows := [[_]]) ps23_1 Z Z Z Z Z<|z2<|yi (i := 6) (j := 8) Z Z (by kernel_rfl) ?_ ?_
     ·refine zy Z (zm (.r (.r (.rest _)))) (repeat_own (-1) f.blocks.length (by omega) hpos) ?_
      rintro r28 O28 ⟨i28, rfl, rfl⟩
      refine z2<|zOn 8 Z<|y9 (m := f.blocks.length) jg Z7 Z Z Z Z Z (by simp) (by simp) (by show (24 : Int) * _ ≤ _; omega) (by omega) eI 3<|fun b30 => z2<|zTk 11 Z (zz (cps := [(0, [_]), (1, [_]), (2, [_]), (3, [_])]) (rs := [_, _, _, _]) pl156 Z Z Z)<|zOn 12 Z<|yk (cs := _) Z Z Z Z<|fun i34 => zd (za (zb .t4))<|zd (za (zb .t4))<|zd (za (zb .t3))<|zd (za (zb .t4))<|zd (za (zb .t4))<|z2<|zTk 13 Z (zAp Z)<|zDn ?_
      exact ⟨(i34, i28, b30, b32, i25), zR3, zR1, zLe, trivial⟩
     ·refine y9 (m := f.blocks.length) jg Z7 Z Z Z Z Z (by simp) (by simp) (by show (24 : Int) * _ ≤ _; omega) (by omega) eI 3<|fun b30 => z2<|zOn 6 Z<|zy Z (zm (.r (.r (.r (.rest _))))) (repeat_own (-1) f.blocks.length (by omega) hpos) ?_
      rintro r28 O28 ⟨i28, rfl, rfl⟩
      refine z2<|zTk 11 Z (zz (cps := [(0, [_]), (1, [_]), (2, [_]), (3, [_])]) (rs := [_, _, _, _]) pl156 Z Z Z)<|zOn 12 Z<|yk (cs := _) Z Z Z Z<|fun i34 => z2<|zTk 13 Z (zAp Z)<|zDn ?_
      exact ⟨(i34, i28, b30, b32, i25), zR3, zR1, zLe, trivial⟩
    ·refine y9 (m := f.blocks.length) jg Z7 Z Z Z Z Z (by simp) (by simp) (by show (24 : Int) * _ ≤ _; omega) (by omega) eI 3<|fun b30 => z2<|zOn 4 Z<|zx (rows := [[_]]) ps23_1 Z Z Z Z Z<|z2<|zOn 6 Z<|zy Z (zm (.r (.r (.r (.rest _))))) (repeat_own (-1) f.blocks.length (by omega) hpos) ?_
     rintro r28 O28 ⟨i28, rfl, rfl⟩
     refine z2<|zTk 11 Z (zz (cps := [(0, [_]), (1, [_]), (2, [_]), (3, [_])]) (rs := [_, _, _, _]) pl156 Z Z Z)<|zOn 12 Z<|yk (cs := _) Z Z Z Z<|fun i34 => z2<|zTk 13 Z (zAp Z)<|zDn ?_
     exact ⟨(i34, i28, b30, b32, i25), zR3, zR1, zLe, trivial⟩
  ·refine zx (rows := [[_]]) ps23_1 Z Z Z Z Z<|z2<|qg (i := 3) (j := 8) (m := 10) Z Z Z (by kernel_rfl) ?_ ?_ ?_
   ·refine zy Z (zm (.rest _)) (hnear) ?_
    rintro r25 O25 ⟨i25, rfl, rfl⟩
    refine z2<|qg (i := 6) (j := 8) (m := 10) Z Z Z (by kernel_rfl) ?_ ?_ ?_
    ·refine zy Z (zm (.r (.rest _))) (repeat_own (-1) f.blocks.length (by omega) hpos) ?_
     rintro r28 O28 ⟨i28, rfl, rfl⟩
     refine z2<|yi (i := 8) (j := 10) Z Z (by kernel_rfl) ?_ ?_
     ·refine y9 (m := f.blocks.length) jg Z7 Z Z Z Z Z (by simp) (by simp) (by show (24 : Int) * _ ≤ _; omega) (by omega) eI 3<|fun b30 => z2<|zOn 10 Z<|y9 (m := f.blocks.length) jg Z7 Z Z Z Z Z (by simp) (by simp) (by show (24 : Int) * _ ≤ _; omega) (by omega) eI 3<|fun b32 => z2<|zTk 11 Z (zz (cps := [(0, [_]), (1, [_]), (2, [_]), (3, [_])]) (rs := [_, _, _, _]) pl156 Z Z Z)<|zOn 12 Z<|yk (cs := _) Z Z Z Z<|fun i34 => zd (za (zb .t4))<|zd (za (zb .t2))<|zd (za (zb .t3))<|zd (za (zb .t4))<|zd (za (zb .t4))<|z2<|zTk 13 Z (zAp Z)<|zDn ?_
      exact ⟨(i34, i28, b30, b32, i25), zR3, zR1, zLe, trivial⟩
     ·refine y9 (m := f.blocks.length) jg Z7 Z Z Z Z Z (by simp) (by simp) (by show (24 : Int) * _ ≤ _; omega) (by omega) eI 3<|fun b32 => z2<|zOn 8 Z<|y9 (m := f.blocks.length) jg Z7 Z Z Z Z Z (by simp) (by simp) (by show (24 : Int) * _ ≤ _; omega) (by omega) eI 3<|fun b30 => z2<|zTk 11 Z (zz (cps := [(0, [_]), (1, [_]), (2, [_]), (3, [_])]) (rs := [_, _, _, _]) pl156 Z Z Z)<|zOn 12 Z<|yk (cs := _) Z Z Z Z<|fun i34 => zd (za (zb .t4))<|zd (za (zb .t3))<|zd (za (zb .t3))<|zd (za (zb .t4))<|zd (za (zb .t4))<|z2<|zTk 13 Z (zAp Z)<|zDn ?_
      exact ⟨(i34, i28, b30, b32, i25), zR3, zR1, zLe, trivial⟩
    ·refine y9 (m := f.blocks.length) jg Z7 Z Z Z Z Z (by simp) (by simp) (by show (24 : Int) * _ ≤ _; omega) (by omega) eI 3<|fun b30 => z2<|yi (i := 6) (j := 10) Z Z (by kernel_rfl) ?_ ?_
     ·refine zy Z (zm (.r (.r (.rest _)))) (repeat_own (-1) f.blocks.length (by omega) hpos) ?_
      rintro r28 O28 ⟨i28, rfl, rfl⟩
      refine z2<|zOn 10 Z<|y9 (m := f.blocks.length) jg Z7 Z Z Z Z Z (by simp) (by simp) (by show (24 : Int) * _ ≤ _; omega) (by omega) eI 3<|fun b32 => z2<|zTk 11 Z (zz (cps := [(0, [_]), (1, [_]), (2, [_]), (3, [_])]) (rs := [_, _, _, _]) pl156 Z Z Z)<|zOn 12 Z<|yk (cs := _) Z Z Z Z<|fun i34 => zd (za (zb .t4))<|zd (za (zb .t2))<|zd (za (zb .t4))<|zd (za (zb .t4))<|zd (za (zb .t4))<|z2<|zTk 13 Z (zAp Z)<|zDn ?_
      exact ⟨(i34, i28, b30, b32, i25), zR3, zR1, zLe, trivial⟩
     ·refine y9 (m := f.blocks.length) jg Z7 Z Z Z Z Z (by simp) (by simp) (by show (24 : Int) * _ ≤ _; omega) (by omega) eI 3<|fun b32 => z2<|zOn 6 Z<|zy Z (zm (.r (.r (.r (.rest _))))) (repeat_own (-1) f.blocks.length (by omega) hpos) ?_
      rintro r28 O28 ⟨i28, rfl, rfl⟩
      refine z2<|zTk 11 Z (zz (cps := [(0, [_]), (1, [_]), (2, [_]), (3, [_])]) (rs := [_, _, _, _]) pl156 Z Z Z)<|zOn 12 Z<|yk (cs := _) Z Z Z Z<|fun i34 => zd (za (zb .t4))<|zd (za (zb .t3))<|zd (za (zb .t4))<|zd (za (zb .t4))<|zd (za (zb .t4))<|z2<|zTk 13 Z (zAp Z)<|zDn ?_
      exact ⟨(i34, i28, b30, b32, i25), zR3, zR1, zLe, trivial⟩
    ·refine y9 (m := f.blocks.length) jg Z7 Z Z Z Z Z (by simp) (by simp) (by show (24 : Int) * _ ≤ _; omega) (by omega) eI 3<|fun b32 => z2<|yi (i := 6) (j := 8) Z Z (by kernel_rfl) ?_ ?_
     ·refine zy Z (zm (.r (.r (.rest _)))) (repeat_own (-1) f.blocks.length (by omega) hpos) ?_
      rintro r28 O28 ⟨i28, rfl, rfl⟩
      refine z2<|zOn 8 Z<|y9 (m := f.blocks.length) jg Z7 Z Z Z Z Z (by simp) (by simp) (by show (24 : Int) * _ ≤ _; omega) (by omega) eI 3<|fun b30 => z2<|zTk 11 Z (zz (cps := [(0, [_]), (1, [_]), (2, [_]), (3, [_])]) (rs := [_, _, _, _]) pl156 Z Z Z)<|zOn 12 Z<|yk (cs := _) Z Z Z Z<|fun i34 => zd (za (zb .t4))<|zd (za (zb .t4))<|zd (za (zb .t3))<|zd (za (zb .t4))<|zd (za (zb .t4))<|z2<|zTk 13 Z (zAp Z)<|zDn ?_
      exact ⟨(i34, i28, b30, b32, i25), zR3, zR1, zLe, trivial⟩
     ·refine y9 (m := f.blocks.length) jg Z7 Z Z Z Z Z (by simp) (by simp) (by show (24 : Int) * _ ≤ _; omega) (by omega) eI 3<|fun b30 => z2<|zOn 6 Z<|zy Z (zm (.r (.r (.r (.rest _))))) (repeat_own (-1) f.blocks.length (by omega) hpos) ?_
      rintro r28 O28 ⟨i28, rfl, rfl⟩
      refine z2<|zTk 11 Z (zz (cps := [(0, [_]), (1, [_]), (2, [_]), (3, [_])]) (rs := [_, _, _, _]) pl156 Z Z Z)<|zOn 12 Z<|yk (cs := _) Z Z Z Z<|fun i34 => z2<|zTk 13 Z (zAp Z)<|zDn ?_
      exact ⟨(i34, i28, b30, b32, i25), zR3, zR1, zLe, trivial⟩
   ·refine y9 (m := f.blocks.length) jg Z7 Z Z Z Z Z (by simp) (by simp) (by show (24 : Int) * _ ≤ _; omega) (by omega) eI 3<|fun b30 => z2<|yi (i := 3) (j := 10) Z Z (by kernel_rfl) ?_ ?_
    ·refine zy Z (zm (.r (.rest _))) (hnear) ?_
     rintro r25 O25 ⟨i25, rfl, rfl⟩
     refine z2<|yi (i := 6) (j := 10) Z Z (by kernel_rfl) ?_ ?_
     ·refine zy Z (zm (.r (.r (.rest _)))) (repeat_own (-1) f.blocks.length (by omega) hpos) ?_
      rintro r28 O28 ⟨i28, rfl, rfl⟩
      refine z2<|zOn 10 Z<|y9 (m := f.blocks.length) jg Z7 Z Z Z Z Z (by simp) (by simp) (by show (24 : Int) * _ ≤ _; omega) (by omega) eI 3<|fun b32 => z2<|zTk 11 Z (zz (cps := [(0, [_]), (1, [_]), (2, [_]), (3, [_])]) (rs := [_, _, _, _]) pl156 Z Z Z)<|zOn 12 Z<|yk (cs := _) Z Z Z Z<|fun i34 => zd (za (zb .t3))<|zd (za (zb .t2))<|zd (za (zb .t4))<|zd (za (zb .t4))<|zd (za (zb .t4))<|z2<|zTk 13 Z (zAp Z)<|zDn ?_
      exact ⟨(i34, i28, b30, b32, i25), zR3, zR1, zLe, trivial⟩
     ·refine y9 (m := f.blocks.length) jg Z7 Z Z Z Z Z (by simp) (by simp) (by show (24 : Int) * _ ≤ _; omega) (by omega) eI 3<|fun b32 => z2<|zOn 6 Z<|zy Z (zm (.r (.r (.r (.rest _))))) (repeat_own (-1) f.blocks.length (by omega) hpos) ?_
      rintro r28 O28 ⟨i28, rfl, rfl⟩
      refine z2<|zTk 11 Z (zz (cps := [(0, [_]), (1, [_]), (2, [_]), (3, [_])]) (rs := [_, _, _, _]) pl156 Z Z Z)<|zOn 12 Z<|yk (cs := _) Z Z Z Z<|fun i34 => zd (za (zb .t3))<|zd (za (zb .t3))<|zd (za (zb .t4))<|zd (za (zb .t4))<|zd (za (zb .t4))<|z2<|zTk 13 Z (zAp Z)<|zDn ?_
      exact ⟨(i34, i28, b30, b32, i25), zR3, zR1, zLe, trivial⟩
    ·refine y9 (m := f.blocks.length) jg Z7 Z Z Z Z Z (by simp) (by simp) (by show (24 : Int) * _ ≤ _; omega) (by omega) eI 3<|fun b32 => z2<|zOn 3 Z<|zy Z (zm (.r (.r (.rest _)))) (hnear) ?_
     rintro r25 O25 ⟨i25, rfl, rfl⟩
     refine z2<|zOn 6 Z<|zy Z (zm (.r (.r (.r (.rest _))))) (repeat_own (-1) f.blocks.length (by omega) hpos) ?_
     rintro r28 O28 ⟨i28, rfl, rfl⟩
     refine z2<|zTk 11 Z (zz (cps := [(0, [_]), (1, [_]), (2, [_]), (3, [_])]) (rs := [_, _, _, _]) pl156 Z Z Z)<|zOn 12 Z<|yk (cs := _) Z Z Z Z<|fun i34 => zd (za (zb .t2))<|zd (za (zb .t3))<|zd (za (zb .t4))<|zd (za (zb .t4))<|zd (za (zb .t4))<|z2<|zTk 13 Z (zAp Z)<|zDn ?_
     exact ⟨(i34, i28, b30, b32, i25), zR3, zR1, zLe, trivial⟩
   ·refine y9 (m := f.blocks.length) jg Z7 Z Z Z Z Z (by simp) (by simp) (by show (24 : Int) * _ ≤ _; omega) (by omega) eI 3<|fun b32 => z2<|yi (i := 3) (j := 8) Z Z (by kernel_rfl) ?_ ?_
    ·refine zy Z (zm (.r (.rest _))) (hnear) ?_
     rintro r25 O25 ⟨i25, rfl, rfl⟩
     refine z2<|yi (i := 6) (j := 8) Z Z (by kernel_rfl) ?_ ?_
     ·refine zy Z (zm (.r (.r (.rest _)))) (repeat_own (-1) f.blocks.length (by omega) hpos) ?_
      rintro r28 O28 ⟨i28, rfl, rfl⟩
      refine z2<|zOn 8 Z<|y9 (m := f.blocks.length) jg Z7 Z Z Z Z Z (by simp) (by simp) (by show (24 : Int) * _ ≤ _; omega) (by omega) eI 3<|fun b30 => z2<|zTk 11 Z (zz (cps := [(0, [_]), (1, [_]), (2, [_]), (3, [_])]) (rs := [_, _, _, _]) pl156 Z Z Z)<|zOn 12 Z<|yk (cs := _) Z Z Z Z<|fun i34 => zd (za (zb .t3))<|zd (za (zb .t4))<|zd (za (zb .t3))<|zd (za (zb .t4))<|zd (za (zb .t4))<|z2<|zTk 13 Z (zAp Z)<|zDn ?_
      exact ⟨(i34, i28, b30, b32, i25), zR3, zR1, zLe, trivial⟩
     ·refine y9 (m := f.blocks.length) jg Z7 Z Z Z Z Z (by simp) (by simp) (by show (24 : Int) * _ ≤ _; omega) (by omega) eI 3<|fun b30 => z2<|zOn 6 Z<|zy Z (zm (.r (.r (.r (.rest _))))) (repeat_own (-1) f.blocks.length (by omega) hpos) ?_
      rintro r28 O28 ⟨i28, rfl, rfl⟩
      refine z2<|zTk 11 Z (zz (cps := [(0, [_]), (1, [_]), (2, [_]), (3, [_])]) (rs := [_, _, _, _]) pl156 Z Z Z)<|zOn 12 Z<|yk (cs := _) Z Z Z Z<|fun i34 => zd (za (zb .t3))<|zd (za (zb .t4))<|zd (za (zb .t4))<|zd (za (zb .t4))<|zd (za (zb .t4))<|z2<|zTk 13 Z (zAp Z)<|zDn ?_
      exact ⟨(i34, i28, b30, b32, i25), zR3, zR1, zLe, trivial⟩
    ·refine y9 (m := f.blocks.length) jg Z7 Z Z Z Z Z (by simp) (by simp) (by show (24 : Int) * _ ≤ _; omega) (by omega) eI 3<|fun b30 => z2<|zOn 3 Z<|zy Z (zm (.r (.r (.rest _)))) (hnear) ?_
     rintro r25 O25 ⟨i25, rfl, rfl⟩
     refine z2<|zOn 6 Z<|zy Z (zm (.r (.r (.r (.rest _))))) (repeat_own (-1) f.blocks.length (by omega) hpos) ?_
     rintro r28 O28 ⟨i28, rfl, rfl⟩
     refine z2<|zTk 11 Z (zz (cps := [(0, [_]), (1, [_]), (2, [_]), (3, [_])]) (rs := [_, _, _, _]) pl156 Z Z Z)<|zOn 12 Z<|yk (cs := _) Z Z Z Z<|fun i34 => zd (za (zb .t2))<|zd (za (zb .t4))<|zd (za (zb .t4))<|zd (za (zb .t4))<|zd (za (zb .t4))<|z2<|zTk 13 Z (zAp Z)<|zDn ?_
     exact ⟨(i34, i28, b30, b32, i25), zR3, zR1, zLe, trivial⟩
  ·refine y9 (m := f.blocks.length) jg Z7 Z Z Z Z Z (by simp) (by simp) (by show (24 : Int) * _ ≤ _; omega) (by omega) eI 3<|fun b30 => z2<|qg (i := 3) (j := 4) (m := 10) Z Z Z (by kernel_rfl) ?_ ?_ ?_
   ·refine zy Z (zm (.r (.rest _))) (hnear) ?_
    rintro r25 O25 ⟨i25, rfl, rfl⟩
    refine z2<|yi (i := 4) (j := 10) Z Z (by kernel_rfl) ?_ ?_
    ·refine zx (rows := [[_]]) ps23_1 Z Z Z Z Z<|z2<|yi (i := 6) (j := 10) Z Z (by kernel_rfl) ?_ ?_
     ·refine zy Z (zm (.r (.r (.rest _)))) (repeat_own (-1) f.blocks.length (by omega) hpos) ?_
      rintro r28 O28 ⟨i28, rfl, rfl⟩
      refine z2<|zOn 10 Z<|y9 (m := f.blocks.length) jg Z7 Z Z Z Z Z (by simp) (by simp) (by show (24 : Int) * _ ≤ _; omega) (by omega) eI 3<|fun b32 => z2<|zTk 11 Z (zz (cps := [(0, [_]), (1, [_]), (2, [_]), (3, [_])]) (rs := [_, _, _, _]) pl156 Z Z Z)<|zOn 12 Z<|yk (cs := _) Z Z Z Z<|fun i34 => zd (za (zb .t3))<|zd (za (zb .t2))<|zd (za (zb .t4))<|zd (za (zb .t4))<|zd (za (zb .t4))<|z2<|zTk 13 Z (zAp Z)<|zDn ?_
      exact ⟨(i34, i28, b30, b32, i25), zR3, zR1, zLe, trivial⟩
     ·refine y9 (m := f.blocks.length) jg Z7 Z Z Z Z Z (by simp) (by simp) (by show (24 : Int) * _ ≤ _; omega) (by omega) eI 3<|fun b32 => z2<|zOn 6 Z<|zy Z (zm (.r (.r (.r (.rest _))))) (repeat_own (-1) f.blocks.length (by omega) hpos) ?_
      rintro r28 O28 ⟨i28, rfl, rfl⟩
      refine z2<|zTk 11 Z (zz (cps := [(0, [_]), (1, [_]), (2, [_]), (3, [_])]) (rs := [_, _, _, _]) pl156 Z Z Z)<|zOn 12 Z<|yk (cs := _) Z Z Z Z<|fun i34 => zd (za (zb .t3))<|zd (za (zb .t3))<|zd (za (zb .t4))<|zd (za (zb .t4))<|zd (za (zb .t4))<|z2<|zTk 13 Z (zAp Z)<|zDn ?_
      exact ⟨(i34, i28, b30, b32, i25), zR3, zR1, zLe, trivial⟩
    ·refine y9 (m := f.blocks.length) jg Z7 Z Z Z Z Z (by simp) (by simp) (by show (24 : Int) * _ ≤ _; omega) (by omega) eI 3<|fun b32 => z2<|zOn 4 Z<|zx (rows := [[_]]) ps23_1 Z Z Z Z Z<|z2<|zOn 6 Z<|zy Z (zm (.r (.r (.r (.rest _))))) (repeat_own (-1) f.blocks.length (by omega) hpos) ?_
     rintro r28 O28 ⟨i28, rfl, rfl⟩
     refine z2<|zTk 11 Z (zz (cps := [(0, [_]), (1, [_]), (2, [_]), (3, [_])]) (rs := [_, _, _, _]) pl156 Z Z Z)<|zOn 12 Z<|yk (cs := _) Z Z Z Z<|fun i34 => zd (za (zb .t3))<|zd (za (zb .t3))<|zd (za (zb .t4))<|zd (za (zb .t4))<|zd (za (zb .t4))<|z2<|zTk 13 Z (zAp Z)<|zDn ?_
     exact ⟨(i34, i28, b30, b32, i25), zR3, zR1, zLe, trivial⟩
   ·refine zx (rows := [[_]]) ps23_1 Z Z Z Z Z<|z2<|yi (i := 3) (j := 10) Z Z (by kernel_rfl) ?_ ?_
    ·refine zy Z (zm (.r (.rest _))) (hnear) ?_
     rintro r25 O25 ⟨i25, rfl, rfl⟩
     refine z2<|yi (i := 6) (j := 10) Z Z (by kernel_rfl) ?_ ?_
     ·refine zy Z (zm (.r (.r (.rest _)))) (repeat_own (-1) f.blocks.length (by omega) hpos) ?_
      rintro r28 O28 ⟨i28, rfl, rfl⟩
      refine z2<|zOn 10 Z<|y9 (m := f.blocks.length) jg Z7 Z Z Z Z Z (by simp) (by simp) (by show (24 : Int) * _ ≤ _; omega) (by omega) eI 3<|fun b32 => z2<|zTk 11 Z (zz (cps := [(0, [_]), (1, [_]), (2, [_]), (3, [_])]) (rs := [_, _, _, _]) pl156 Z Z Z)<|zOn 12 Z<|yk (cs := _) Z Z Z Z<|fun i34 => zd (za (zb .t3))<|zd (za (zb .t2))<|zd (za (zb .t4))<|zd (za (zb .t4))<|zd (za (zb .t4))<|z2<|zTk 13 Z (zAp Z)<|zDn ?_
      exact ⟨(i34, i28, b30, b32, i25), zR3, zR1, zLe, trivial⟩
     ·refine y9 (m := f.blocks.length) jg Z7 Z Z Z Z Z (by simp) (by simp) (by show (24 : Int) * _ ≤ _; omega) (by omega) eI 3<|fun b32 => z2<|zOn 6 Z<|zy Z (zm (.r (.r (.r (.rest _))))) (repeat_own (-1) f.blocks.length (by omega) hpos) ?_
      rintro r28 O28 ⟨i28, rfl, rfl⟩
      refine z2<|zTk 11 Z (zz (cps := [(0, [_]), (1, [_]), (2, [_]), (3, [_])]) (rs := [_, _, _, _]) pl156 Z Z Z)<|zOn 12 Z<|yk (cs := _) Z Z Z Z<|fun i34 => zd (za (zb .t3))<|zd (za (zb .t3))<|zd (za (zb .t4))<|zd (za (zb .t4))<|zd (za (zb .t4))<|z2<|zTk 13 Z (zAp Z)<|zDn ?_
      exact ⟨(i34, i28, b30, b32, i25), zR3, zR1, zLe, trivial⟩
    ·refine y9 (m := f.blocks.length) jg Z7 Z Z Z Z Z (by simp) (by simp) (by show (24 : Int) * _ ≤ _; omega) (by omega) eI 3<|fun b32 => z2<|zOn 3 Z<|zy Z (zm (.r (.r (.rest _)))) (hnear) ?_
     rintro r25 O25 ⟨i25, rfl, rfl⟩
     refine z2<|zOn 6 Z<|zy Z (zm (.r (.r (.r (.rest _))))) (repeat_own (-1) f.blocks.length (by omega) hpos) ?_
     rintro r28 O28 ⟨i28, rfl, rfl⟩
     refine z2<|zTk 11 Z (zz (cps := [(0, [_]), (1, [_]), (2, [_]), (3, [_])]) (rs := [_, _, _, _]) pl156 Z Z Z)<|zOn 12 Z<|yk (cs := _) Z Z Z Z<|fun i34 => zd (za (zb .t2))<|zd (za (zb .t3))<|zd (za (zb .t4))<|zd (za (zb .t4))<|zd (za (zb .t4))<|z2<|zTk 13 Z (zAp Z)<|zDn ?_
     exact ⟨(i34, i28, b30, b32, i25), zR3, zR1, zLe, trivial⟩
   ·refine y9 (m := f.blocks.length) jg Z7 Z Z Z Z Z (by simp) (by simp) (by show (24 : Int) * _ ≤ _; omega) (by omega) eI 3<|fun b32 => z2<|yi (i := 3) (j := 4) Z Z (by kernel_rfl) ?_ ?_
    ·refine zy Z (zm (.r (.r (.rest _)))) (hnear) ?_
     rintro r25 O25 ⟨i25, rfl, rfl⟩
     refine z2<|zOn 4 Z<|zx (rows := [[_]]) ps23_1 Z Z Z Z Z<|z2<|zOn 6 Z<|zy Z (zm (.r (.r (.r (.rest _))))) (repeat_own (-1) f.blocks.length (by omega) hpos) ?_
     rintro r28 O28 ⟨i28, rfl, rfl⟩
     refine z2<|zTk 11 Z (zz (cps := [(0, [_]), (1, [_]), (2, [_]), (3, [_])]) (rs := [_, _, _, _]) pl156 Z Z Z)<|zOn 12 Z<|yk (cs := _) Z Z Z Z<|fun i34 => zd (za (zb .t2))<|zd (za (zb .t3))<|zd (za (zb .t4))<|zd (za (zb .t4))<|zd (za (zb .t4))<|z2<|zTk 13 Z (zAp Z)<|zDn ?_
     exact ⟨(i34, i28, b30, b32, i25), zR3, zR1, zLe, trivial⟩
    ·refine zx (rows := [[_]]) ps23_1 Z Z Z Z Z<|z2<|zOn 3 Z<|zy Z (zm (.r (.r (.rest _)))) (hnear) ?_
     rintro r25 O25 ⟨i25, rfl, rfl⟩
     refine z2<|zOn 6 Z<|zy Z (zm (.r (.r (.r (.rest _))))) (repeat_own (-1) f.blocks.length (by omega) hpos) ?_
     rintro r28 O28 ⟨i28, rfl, rfl⟩
     refine z2<|zTk 11 Z (zz (cps := [(0, [_]), (1, [_]), (2, [_]), (3, [_])]) (rs := [_, _, _, _]) pl156 Z Z Z)<|zOn 12 Z<|yk (cs := _) Z Z Z Z<|fun i34 => zd (za (zb .t2))<|zd (za (zb .t3))<|zd (za (zb .t4))<|zd (za (zb .t4))<|zd (za (zb .t4))<|z2<|zTk 13 Z (zAp Z)<|zDn ?_
     exact ⟨(i34, i28, b30, b32, i25), zR3, zR1, zLe, trivial⟩
  ·refine y9 (m := f.blocks.length) jg Z7 Z Z Z Z Z (by simp) (by simp) (by show (24 : Int) * _ ≤ _; omega) (by omega) eI 3<|fun b32 => z2<|qg (i := 3) (j := 4) (m := 8) Z Z Z (by kernel_rfl) ?_ ?_ ?_
   ·refine zy Z (zm (.r (.rest _))) (hnear) ?_
    rintro r25 O25 ⟨i25, rfl, rfl⟩
    refine z2<|yi (i := 4) (j := 8) Z Z (by kernel_rfl) ?_ ?_
    ·refine zx (rows := [[_]]) ps23_1 Z Z Z Z Z<|z2<|yi (i := 6) (j := 8) Z Z (by kernel_rfl) ?_ ?_
     ·refine zy Z (zm (.r (.r (.rest _)))) (repeat_own (-1) f.blocks.length (by omega) hpos) ?_
      rintro r28 O28 ⟨i28, rfl, rfl⟩
      refine z2<|zOn 8 Z<|y9 (m := f.blocks.length) jg Z7 Z Z Z Z Z (by simp) (by simp) (by show (24 : Int) * _ ≤ _; omega) (by omega) eI 3<|fun b30 => z2<|zTk 11 Z (zz (cps := [(0, [_]), (1, [_]), (2, [_]), (3, [_])]) (rs := [_, _, _, _]) pl156 Z Z Z)<|zOn 12 Z<|yk (cs := _) Z Z Z Z<|fun i34 => zd (za (zb .t3))<|zd (za (zb .t4))<|zd (za (zb .t3))<|zd (za (zb .t4))<|zd (za (zb .t4))<|z2<|zTk 13 Z (zAp Z)<|zDn ?_
      exact ⟨(i34, i28, b30, b32, i25), zR3, zR1, zLe, trivial⟩
     ·refine y9 (m := f.blocks.length) jg Z7 Z Z Z Z Z (by simp) (by simp) (by show (24 : Int) * _ ≤ _; omega) (by omega) eI 3<|fun b30 => z2<|zOn 6 Z<|zy Z (zm (.r (.r (.r (.rest _))))) (repeat_own (-1) f.blocks.length (by omega) hpos) ?_
      rintro r28 O28 ⟨i28, rfl, rfl⟩
      refine z2<|zTk 11 Z (zz (cps := [(0, [_]), (1, [_]), (2, [_]), (3, [_])]) (rs := [_, _, _, _]) pl156 Z Z Z)<|zOn 12 Z<|yk (cs := _) Z Z Z Z<|fun i34 => zd (za (zb .t3))<|zd (za (zb .t4))<|zd (za (zb .t4))<|zd (za (zb .t4))<|zd (za (zb .t4))<|z2<|zTk 13 Z (zAp Z)<|zDn ?_
      exact ⟨(i34, i28, b30, b32, i25), zR3, zR1, zLe, trivial⟩
    ·refine y9 (m := f.blocks.length) jg Z7 Z Z Z Z Z (by simp) (by simp) (by show (24 : Int) * _ ≤ _; omega) (by omega) eI 3<|fun b30 => z2<|zOn 4 Z<|zx (rows := [[_]]) ps23_1 Z Z Z Z Z<|z2<|zOn 6 Z<|zy Z (zm (.r (.r (.r (.rest _))))) (repeat_own (-1) f.blocks.length (by omega) hpos) ?_
     rintro r28 O28 ⟨i28, rfl, rfl⟩
     refine z2<|zTk 11 Z (zz (cps := [(0, [_]), (1, [_]), (2, [_]), (3, [_])]) (rs := [_, _, _, _]) pl156 Z Z Z)<|zOn 12 Z<|yk (cs := _) Z Z Z Z<|fun i34 => zd (za (zb .t3))<|zd (za (zb .t4))<|zd (za (zb .t4))<|zd (za (zb .t4))<|zd (za (zb .t4))<|z2<|zTk 13 Z (zAp Z)<|zDn ?_
     exact ⟨(i34, i28, b30, b32, i25), zR3, zR1, zLe, trivial⟩
   ·refine zx (rows := [[_]]) ps23_1 Z Z Z Z Z<|z2<|yi (i := 3) (j := 8) Z Z (by kernel_rfl) ?_ ?_
    ·refine zy Z (zm (.r (.rest _))) (hnear) ?_
     rintro r25 O25 ⟨i25, rfl, rfl⟩
     refine z2<|yi (i := 6) (j := 8) Z Z (by kernel_rfl) ?_ ?_
     ·refine zy Z (zm (.r (.r (.rest _)))) (repeat_own (-1) f.blocks.length (by omega) hpos) ?_
      rintro r28 O28 ⟨i28, rfl, rfl⟩
      refine z2<|zOn 8 Z<|y9 (m := f.blocks.length) jg Z7 Z Z Z Z Z (by simp) (by simp) (by show (24 : Int) * _ ≤ _; omega) (by omega) eI 3<|fun b30 => z2<|zTk 11 Z (zz (cps := [(0, [_]), (1, [_]), (2, [_]), (3, [_])]) (rs := [_, _, _, _]) pl156 Z Z Z)<|zOn 12 Z<|yk (cs := _) Z Z Z Z<|fun i34 => zd (za (zb .t3))<|zd (za (zb .t4))<|zd (za (zb .t3))<|zd (za (zb .t4))<|zd (za (zb .t4))<|z2<|zTk 13 Z (zAp Z)<|zDn ?_
      exact ⟨(i34, i28, b30, b32, i25), zR3, zR1, zLe, trivial⟩
     ·refine y9 (m := f.blocks.length) jg Z7 Z Z Z Z Z (by simp) (by simp) (by show (24 : Int) * _ ≤ _; omega) (by omega) eI 3<|fun b30 => z2<|zOn 6 Z<|zy Z (zm (.r (.r (.r (.rest _))))) (repeat_own (-1) f.blocks.length (by omega) hpos) ?_
      rintro r28 O28 ⟨i28, rfl, rfl⟩
      refine z2<|zTk 11 Z (zz (cps := [(0, [_]), (1, [_]), (2, [_]), (3, [_])]) (rs := [_, _, _, _]) pl156 Z Z Z)<|zOn 12 Z<|yk (cs := _) Z Z Z Z<|fun i34 => zd (za (zb .t3))<|zd (za (zb .t4))<|zd (za (zb .t4))<|zd (za (zb .t4))<|zd (za (zb .t4))<|z2<|zTk 13 Z (zAp Z)<|zDn ?_
      exact ⟨(i34, i28, b30, b32, i25), zR3, zR1, zLe, trivial⟩
    ·refine y9 (m := f.blocks.length) jg Z7 Z Z Z Z Z (by simp) (by simp) (by show (24 : Int) * _ ≤ _; omega) (by omega) eI 3<|fun b30 => z2<|zOn 3 Z<|zy Z (zm (.r (.r (.rest _)))) (hnear) ?_
     rintro r25 O25 ⟨i25, rfl, rfl⟩
     refine z2<|zOn 6 Z<|zy Z (zm (.r (.r (.r (.rest _))))) (repeat_own (-1) f.blocks.length (by omega) hpos) ?_
     rintro r28 O28 ⟨i28, rfl, rfl⟩
     refine z2<|zTk 11 Z (zz (cps := [(0, [_]), (1, [_]), (2, [_]), (3, [_])]) (rs := [_, _, _, _]) pl156 Z Z Z)<|zOn 12 Z<|yk (cs := _) Z Z Z Z<|fun i34 => zd (za (zb .t2))<|zd (za (zb .t4))<|zd (za (zb .t4))<|zd (za (zb .t4))<|zd (za (zb .t4))<|z2<|zTk 13 Z (zAp Z)<|zDn ?_
     exact ⟨(i34, i28, b30, b32, i25), zR3, zR1, zLe, trivial⟩
   ·refine y9 (m := f.blocks.length) jg Z7 Z Z Z Z Z (by simp) (by simp) (by show (24 : Int) * _ ≤ _; omega) (by omega) eI 3<|fun b30 => z2<|yi (i := 3) (j := 4) Z Z (by kernel_rfl) ?_ ?_
    ·refine zy Z (zm (.r (.r (.rest _)))) (hnear) ?_
     rintro r25 O25 ⟨i25, rfl, rfl⟩
     refine z2<|zOn 4 Z<|zx (rows := [[_]]) ps23_1 Z Z Z Z Z<|z2<|zOn 6 Z<|zy Z (zm (.r (.r (.r (.rest _))))) (repeat_own (-1) f.blocks.length (by omega) hpos) ?_
     rintro r28 O28 ⟨i28, rfl, rfl⟩
     refine z2<|zTk 11 Z (zz (cps := [(0, [_]), (1, [_]), (2, [_]), (3, [_])]) (rs := [_, _, _, _]) pl156 Z Z Z)<|zOn 12 Z<|yk (cs := _) Z Z Z Z<|fun i34 => zd (za (zb .t2))<|zd (za (zb .t4))<|zd (za (zb .t4))<|zd (za (zb .t4))<|zd (za (zb .t4))<|z2<|zTk 13 Z (zAp Z)<|zDn ?_
     exact ⟨(i34, i28, b30, b32, i25), zR3, zR1, zLe, trivial⟩
    ·refine zx (rows := [[_]]) ps23_1 Z Z Z Z Z<|z2<|zOn 3 Z<|zy Z (zm (.r (.r (.rest _)))) (hnear) ?_
     rintro r25 O25 ⟨i25, rfl, rfl⟩
     refine z2<|zOn 6 Z<|zy Z (zm (.r (.r (.r (.rest _))))) (repeat_own (-1) f.blocks.length (by omega) hpos) ?_
     rintro r28 O28 ⟨i28, rfl, rfl⟩
     refine z2<|zTk 11 Z (zz (cps := [(0, [_]), (1, [_]), (2, [_]), (3, [_])]) (rs := [_, _, _, _]) pl156 Z Z Z)<|zOn 12 Z<|yk (cs := _) Z Z Z Z<|fun i34 => zd (za (zb .t2))<|zd (za (zb .t4))<|zd (za (zb .t4))<|zd (za (zb .t4))<|zd (za (zb .t4))<|z2<|zTk 13 Z (zAp Z)<|zDn ?_
     exact ⟨(i34, i28, b30, b32, i25), zR3, zR1, zLe, trivial⟩
 ·rintro ⟨i34, i28, b30, b32, i25⟩ _
  refine zSr<|zVzMp Z<|zVGvnilCheckO Z<|z8 (ze Z3 Z jd (by decide) Z Z)<|z8 (zl (c := .own _ _) jk Z ⟨_, .head⟩ Z)<|z8 (yg (j := 0) j6 j7 Z Z Z ⟨_, .t1⟩ (by first | rfl | (simp [cI_len, cB_len]; done) | (simp [cI_len, cB_len]; omega)) hpos)<|yt (j := 0) j7 Z Z .t1 (by first | omega | (simp; omega))<|z2<|zc<|zSr<|zVzMf Z<|z8 (Gv.cutLoM (j := 1) j6 j7 Z Z Z (by omega))<|zVGvlenM j6 Z<|zVzMi Z<|z2<|zi<|y7 (γ := Nat) [4, 5, 6, 7, 41, 42] (fun q => [(43, .int .i64 q)]) (fun q => [(i34, .cells 156 [.own i25 f.blocks.length, .own i28 f.blocks.length, nref b30 f.blocks.length, nref b32 f.blocks.length]), (i28, .grow 1 3 (cI (levTo (EndsOf f) f.blocks.length q))), (0, nestO eI 23 3 b30 (List.replicate f.blocks.length [])), (0, nestO eI 23 3 b32 (List.replicate f.blocks.length [])), (i25, .grow 1 3 (cI (nearR (EndsOf f) f.blocks.length)))]) (fun q => q ≤ ((orderT (EndsOf f) f.blocks.length).drop 1).length ∧ ∀ x, -1 ≤ gi (levTo (EndsOf f) f.blocks.length q) x ∧ gi (levTo (EndsOf f) f.blocks.length q) x ≤ q) (fun q => ((orderT (EndsOf f) f.blocks.length).drop 1).length - q) 0 zR1 zLe (⟨qt _, fun x => by rw [show levTo (EndsOf f) f.blocks.length 0 = first0 f.blocks.length from rfl, first_gi hpos]; dsimp only; split <;> omega⟩) ?_
  rintro q ⟨hq, hb⟩
  refine zSr<|zVGvlss Z Z<|z2<|zc<|zo Z (fun cq=>?_) (fun cq=>?_)
  ·have hq2 : q < ((orderT (EndsOf f) f.blocks.length).drop 1).length := by simpa using cq
   obtain ⟨b, hbe⟩ : ∃ b, ((orderT (EndsOf f) f.blocks.length).drop 1)[q] = b := ⟨_, rfl⟩
   have hbt : b ∈ (orderT (EndsOf f) f.blocks.length).drop 1 := hbe ▸ qu hq2
   have hbm : b ∈ orderT (EndsOf f) f.blocks.length := List.mem_of_mem_drop hbt
   have hb0 := tail_ne hG.toEOk hbt
   obtain ⟨hbp, hbn⟩ := hrng b hbm
   have hnm := (hG.near_mem hbm hb0).1
   rw [← nearR_get hbp hb0] at hnm
   obtain ⟨hnp, hnn⟩ := hrng _ hnm
   have hgN : (nearR (EndsOf f) f.blocks.length)[b.toNat]? = some (gi (nearR (EndsOf f) f.blocks.length) b) := gi_get hbp (by rw [nearR_len]; omega)
   have hgL : (levTo (EndsOf f) f.blocks.length q)[(gi (nearR (EndsOf f) f.blocks.length) b).toNat]? = some (gi (levTo (EndsOf f) f.blocks.length q) (gi (nearR (EndsOf f) f.blocks.length) b)) := gi_get hnp (by rw [levTo_len]; omega)
   have hbb := hb (gi (nearR (EndsOf f) f.blocks.length) b)
   have hsucc : levTo (EndsOf f) f.blocks.length (q + 1) = (levTo (EndsOf f) f.blocks.length q).set b.toNat (gi (levTo (EndsOf f) f.blocks.length q) (gi (nearR (EndsOf f) f.blocks.length) b) + 1) := by rw [levTo_succ hq2, hbe, nearR_get hbp hb0]; rfl
   have hlen := levTo_len (EndsOf f) f.blocks.length q
   have hNl := nearR_len (EndsOf f) f.blocks.length
   have hql : q ≤ 1000 := by have : ((orderT (EndsOf f) f.blocks.length).drop 1).length ≤ (orderT (EndsOf f) f.blocks.length).length := (by simp); omega
   refine zf<|zc<|zi<|zSr<|z8 (zIM q j6 j7 Z Z Z (by rw [qq hq2, hbe])) ?_
   refine zVzLi j9 Z<|zVzAi Z<|z2<|zr (fun j => Nat.beq j 20) (by kernel_rfl) Z (zm (.r (.l (.l (.l (.r (.rest _)))))))<|zTk 0 Z (zMp Z)<|zTk 1 Z (y4 Z)<|zTk 2 Z (ze Z3 Z jd (by decide) Z Z)<|zTk 3 Z (zl (c := .own _ _) jk Z ⟨_, .head⟩ Z)<|zTk 4 Z (zMi Z)<|zTk 5 Z (zMp Z)<|zTk 6 Z (y4 Z)<|zTk 7 Z (ze Z3 Z jd (by decide) Z Z)<|zTk 8 Z (zl (c := .own _ _) jk Z ⟨_, .head⟩ Z)<|zTk 9 Z (zMp Z)<|zTk 10 Z (y4 Z)<|zTk 11 Z (ze Z3 Z jd (by decide) Z Z)<|zTk 12 Z (zl (c := .own _ _) jk Z ⟨_, .head⟩ Z)<|zTk 13 Z (zMi Z)<|zTk 14 Z (yg (j := b.toNat) j6 j7 Z Z (by omega) ⟨_, .t1⟩ (by first | rfl | (simp [cI_len, cB_len]; done) | (simp [cI_len, cB_len]; omega)) (by omega))<|zTk 15 Z (yr (j := b.toNat) j9 Z ⟨_, .t1⟩ hgN)<|zOn 16 Z<|z8 (yg (j := (gi (nearR (EndsOf f) f.blocks.length) b).toNat) j6 j7 Z Z (by omega) ⟨_, .head⟩ (by first | rfl | (simp [cI_len, cB_len]; done) | (simp [cI_len, cB_len]; omega)) (by omega))<|z2<|zOn 17 Z<|z8 (yr (j := (gi (nearR (EndsOf f) f.blocks.length) b).toNat) j9 Z ⟨_, .head⟩ hgL)<|z2<|zTk 18 Z (zAd Z Z)<|zOn 19 Z<|z8 (yg (j := b.toNat) j6 j7 Z Z (by omega) ⟨_, .head⟩ (by first | rfl | (simp [cI_len, cB_len]; done) | (simp [cI_len, cB_len]; omega)) (by omega))<|z2<|yb<|y8 (i := 20) Z (by kernel_rfl) (by kernel_rfl)<|yt (j := b.toNat) j7 Z Z .t2 (by first | omega | (simp; omega))<|zd (za (zb .t1))<|zd (za (zb .t4))<|zd (za (zb .t4))<|zd (za (zb .t4))<|zd (za (zb .t4))<|z2<|ye (by kernel_rfl)<|zRg ?_
   refine zVzAd Z Z<|zVzMi Z<|z2 ?_
   exact ⟨q + 1, zR6, zR1, ⟨_, (.refl _), by rw [hsucc]⟩, ⟨hq2, fun x => by rw [hsucc, set_gi hbp (by omega)]; have := hb x; split <;> omega⟩, by omega⟩
  ·have hqn : q = ((orderT (EndsOf f) f.blocks.length).drop 1).length := by have h0 : ¬ (q : Int) < (((orderT (EndsOf f) f.blocks.length).drop 1).length : Int) := (by simpa using cq); omega
   subst hqn
   rw [levTo_all]
   refine y6<|zc<|zSr<|zVzMi Z<|zVzMi Z<|z2<|zi<|y7 (γ := Nat) [4, 6, 7, 68] (fun k => [(69, .int .i64 k)]) (fun k => [(i34, .cells 156 [.own i25 f.blocks.length, .own i28 f.blocks.length, nref b30 f.blocks.length, nref b32 f.blocks.length]), (i28, .grow 1 3 (cI (levG (EndsOf f) f.blocks.length))), (0, nestO eI 23 3 b30 (rowsOf f.blocks.length (evK (nearR (EndsOf f) f.blocks.length) k))), (0, nestO eI 23 3 b32 (List.replicate f.blocks.length [])), (i25, .grow 1 3 (cI (nearR (EndsOf f) f.blocks.length)))]) (fun k => k ≤ f.blocks.length) (fun k => f.blocks.length - k) 0 zR1 ⟨_, (.refl _), by rw [rowsOf_nil]; rfl⟩ (qt _) ?_
   rintro k hk
   refine zSr<|zVGvlss Z Z<|z2<|zc<|zo Z (fun ck=>?_) (fun ck=>?_)
   ·have hk2 : k < f.blocks.length := by simp at ck; omega
    have hNl := nearR_len (EndsOf f) f.blocks.length
    have hgN : (nearR (EndsOf f) f.blocks.length)[k]? = some (gi (nearR (EndsOf f) f.blocks.length) (k : Int)) := gi_get (x := (k : Int)) (by omega) (by rw [nearR_len]; omega)
    have hel := evK_len (nearR (EndsOf f) f.blocks.length) k
    refine zf<|zc<|zi<|zSr<|zVzMi Z<|zVzAi Z<|z2<|zSr<|zVzMp Z<|zVGvnilCheckO Z<|z8 (ze Z3 Z jd (by decide) Z Z)<|z8 (zl (c := .own _ _) jk Z ⟨_, .head⟩ Z)<|zVzMi Z<|z8 (yg (j := k) j6 j7 Z Z Z ⟨_, .t4⟩ (by first | rfl | (simp [cI_len, cB_len]; done) | (simp [cI_len, cB_len]; omega)) hk2)<|z8 (yr (j := k) j9 Z ⟨_, .t4⟩ hgN)<|zVzAi Z<|z2<|zSr<|zVzMi Z<|zVGvneqI Z Z<|z2<|zu Z (fun cn=>?_) (fun cn=>?_)
    ·have hne : gi (nearR (EndsOf f) f.blocks.length) (k : Int) ≠ -1 := by simpa using cn
     have hpm := (near_rng hG (by omega) hne).2
     obtain ⟨hp0, hpn⟩ := hrng _ hpm
     obtain ⟨p, hpe⟩ : ∃ p, gi (nearR (EndsOf f) f.blocks.length) (k : Int) = p := ⟨_, rfl⟩
     rw [hpe] at hne hpm hp0 hpn
     have hpl : p.toNat < (rowsOf f.blocks.length (evK (nearR (EndsOf f) f.blocks.length) k)).length := by rw [rowsOf_len]; omega
     have hrl := rowsOf_row hpl
     have hsucc : evK (nearR (EndsOf f) f.blocks.length) (k + 1) = evK (nearR (EndsOf f) f.blocks.length) k ++ [(p, (k : Int))] := by rw [evK_succ, hpe, if_pos hne]
     rw [hpe]
     refine yn (γ := Unit) [4, 6, 7, 68, 69] (fun u => []) (fun u => [(i34, .cells 156 [.own i25 f.blocks.length, .own i28 f.blocks.length, nref b30 f.blocks.length, nref b32 f.blocks.length]), (i28, .grow 1 3 (cI (levG (EndsOf f) f.blocks.length))), (0, nestO eI 23 3 b30 ((rowsOf f.blocks.length (evK (nearR (EndsOf f) f.blocks.length) k)).set p.toNat ((rowsOf f.blocks.length (evK (nearR (EndsOf f) f.blocks.length) k))[p.toNat] ++ [(k : Int)]))), (0, nestO eI 23 3 b32 (List.replicate f.blocks.length [])), (i25, .grow 1 3 (cI (nearR (EndsOf f) f.blocks.length)))]) (fun u => True) ?_ (fun _ _ h => h) ?_
     ·refine zr (fun j => Nat.beq j 16) (by kernel_rfl) Z (zm (.r (.l (.l (.l (.r (.rest _)))))))<|zTk 0 Z (zMp Z)<|zTk 1 Z (y4 Z)<|zTk 2 Z (ze Z3 Z X3 (by decide) Z Z)<|zTk 3 Z (zl (c := nref _ _) isAgg118 Z ⟨_, .head⟩ Z)<|zTk 4 Z (zMi Z)<|zTk 5 Z (zMp Z)<|zTk 6 Z (y4 Z)<|zTk 7 Z (ze Z3 Z X3 (by decide) Z Z)<|zTk 8 Z (zl (c := nref _ _) isAgg118 Z ⟨_, .head⟩ Z)<|zTk 9 Z (zMi Z)<|zTk 10 Z (qj (j := p.toNat) jg jd Z Z (by omega) (by omega))<|zTk 12 Z (zMi Z)<|yi (i := 11) (j := 13) Z Z (by kernel_rfl) ?_ ?_
      ·refine qa (j := p.toNat) (r := (rowsOf f.blocks.length (evK (nearR (EndsOf f) f.blocks.length) k))[p.toNat]) jk Z (qq hpl) (fun _ => .t1)<|fun i92 => z2<|zOn 13 Z<|zx (rows := [[_]]) ps23_1 Z Z Z Z Z<|z2<|zOn 14 Z<|ym (k := 1) j6 Zr Z Z Z Z Z (fun _ => .head) (by rw [eI.av_len]; rfl) (by decide) Z (by show (_ + 1) * 8 ≤ _; omega) (by show _ + 1 ≤ _; omega)<|fun i95 => z2<|zTk 15 Z (qj (j := p.toNat) jg jd Z Z (by omega) (by omega))<|yb<|y8 (i := 16) Z (by kernel_rfl) (by kernel_rfl)<|ql (j := p.toNat) (r := (rowsOf f.blocks.length (evK (nearR (EndsOf f) f.blocks.length) k))[p.toNat] ++ [(k : Int)]) jd Z Z (by omega) .t2 .t3 Z (eI.av_push _ _) (by simp)<|zd (za (zb .t1))<|zd (za (zb .t4))<|zd (za (zb .t4))<|zd (za (zb .t4))<|zd (za (zb .t4))<|z2<|ye (by kernel_rfl) ?_
       exact ⟨(), zR5, trivial, zLe, trivial⟩
      ·refine zx (rows := [[_]]) ps23_1 Z Z Z Z Z<|z2<|zOn 11 Z<|qa (j := p.toNat) (r := (rowsOf f.blocks.length (evK (nearR (EndsOf f) f.blocks.length) k))[p.toNat]) jk Z (qq hpl) (fun _ => .t1)<|fun i92 => z2<|zOn 14 Z<|ym (k := 1) j6 Zr Z Z Z Z Z (fun _ => .head) (by rw [eI.av_len]; rfl) (by decide) Z (by show (_ + 1) * 8 ≤ _; omega) (by show _ + 1 ≤ _; omega)<|fun i95 => z2<|zTk 15 Z (qj (j := p.toNat) jg jd Z Z (by omega) (by omega))<|yb<|y8 (i := 16) Z (by kernel_rfl) (by kernel_rfl)<|ql (j := p.toNat) (r := (rowsOf f.blocks.length (evK (nearR (EndsOf f) f.blocks.length) k))[p.toNat] ++ [(k : Int)]) jd Z Z (by omega) .t2 .t3 Z (eI.av_push _ _) (by simp)<|zd (za (zb .t1))<|zd (za (zb .t4))<|zd (za (zb .t4))<|zd (za (zb .t4))<|zd (za (zb .t4))<|z2<|ye (by kernel_rfl) ?_
       exact ⟨(), zR5, trivial, zLe, trivial⟩
     ·rintro _ _
      refine zRg<|zVzAd Z Z<|zVzMi Z<|z2 ?_
      exact ⟨k + 1, zR4, zR1, ⟨_, (.refl _), by rw [hsucc, rowsOf_push hp0 hpl]⟩, hk2, by omega⟩
    ·have hne : gi (nearR (EndsOf f) f.blocks.length) (k : Int) = -1 := by simpa using cn
     have hsucc : evK (nearR (EndsOf f) f.blocks.length) (k + 1) = evK (nearR (EndsOf f) f.blocks.length) k := by rw [evK_succ, if_neg (by rw [hne]; simp)]; simp
     refine zf<|zRg<|zVzAd Z Z<|zVzMi Z<|z2 ?_
     exact ⟨k + 1, zR4, zR1, ⟨_, (.refl _), by rw [hsucc]⟩, hk2, by omega⟩
   ·have hkn : k = f.blocks.length := by simp at ck; omega
    subst hkn
    refine zw (za (zb .t4))<|zw (za (zb .t2))<|zw (za (zb .t2))<|zw (za (zb .t4))<|y6<|zSr<|zVzMp Z<|zVzMf Z<|zVzMf Z<|zy Z (zm (.l (.l (.l (.l (.r (.rest _))))))) (hfr _ _ _ _ 0 _) ?_
    rintro r101 O101 ⟨rfl, fr, hfr2, rfl⟩
    refine z2<|zSr<|zVzMp Z<|z8 (zAp Z)<|zVzAi Z<|z2<|zw (GStep.knowIC (off := 0) .t3 .t1 Z (nearR_len _ _))<|zw (GStep.knowIC (off := 1) .t2 .t1 Z hG.lev.len)<|zw (GStep.nestKnowC (off := 2) .t2 .t1 Z (rowsOf_len _ _))<|zw (GStep.nestKnowC (off := 3) .head .head Z hfr2.1)<|zw (yf (t := 2) Z .head)<|zj<|afin.t2 (x := .pf _) (y := .int _ _) Z Z ?_
    exact ⟨⟨fr, hfr2, rfl⟩, rfl⟩
def treeT (f : PFunc) : AV := treeV f (froN eI (kidsR f)) .any
theorem New_spec (f : PFunc) (hf : small f) (hL : Letters E) (ht : typedB f = true) : AFun prog E 40 [.agg (encF f)] (.tup [treeT f, .int .i64 0]) :=
 (new_own f hf hL ht).weak fun x O h => by
  obtain ⟨⟨fr, hfr, rfl⟩, rfl⟩ := h
  refine ⟨Z, fun I v hv => ?_⟩
  obtain ⟨vs, e, w0, us, e2, h0, hr⟩ := hv
  obtain ⟨b, off, ws, e3, hl, hk⟩ := h0
  obtain ⟨u0, t0, f0, a0, u1, t1, f1, a1, u2, t2, f2, a2, u3, t3, f3, a3, hz⟩ := hl
  exact ⟨vs, e, w0, us, e2, ⟨b, off, ws, e3, ⟨u0, t0, f0, a0, u1, t1, f1, a1, u2, t2, f2, a2, u3, t3, f3, trivial, hz⟩, hk⟩, hr⟩
end Go.Proofs.YtiojekbkamegdaaGreatDoor
