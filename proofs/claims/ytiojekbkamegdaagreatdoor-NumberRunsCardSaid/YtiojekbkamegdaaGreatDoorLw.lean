/- Inputs of a program, and small numbers, out of what a call is handed. No conditions. -/
import Derived.Test.YtiojekbkamegdaaGreatDoorLv
import Derived.Test.YtiojekbkamegdaaGreatDoorLs
import Derived.Test.YtiojekbkamegdaaGreatDoorLf
import Derived.Test.YtiojekbkamegdaaGreatDoorLg
import Derived.Lib.LaidRTab
import Derived.Test.YtiojekbkamegdaaGreatDoorRows
import Derived.Test.YtiojekbkamegdaaGreatDoorChecked
import Derived.ProofKit
import Derived.JoinedOf
import Derived.Test.YtiojekbkamegdaaGreatDoorLh
set_option linter.unusedVariables false
set_option linter.unusedSimpArgs false
set_option linter.unusedSectionVars false
namespace Go.Proofs.YtiojekbkamegdaaGreatDoor
open Go.Proofs.Tryz
open Go.Proofs Go.Lib Go.Shelf Go.RowKit
variable {E : World}
set_option maxRecDepth 20000
def ckL (s : GS) : List AV := [.int .i64 (s.ck 0), .int .i64 (s.ck 1), .int .i64 (s.ck 2), .int .i64 (s.ck 3), .int .i64 (s.ck 4), .int .i64 (s.ck 5), .int .i64 (s.ck 6), .int .i64 (s.ck 7)]
theorem ckL_drop (s : GS) : ∀ k : Nat, k < 8 → (ckL s).drop (k * 1) = .int .i64 (s.ck k) :: (ckL s).drop (k + 1)
 | 0, _ => rfl
 | 1, _ => rfl
 | 2, _ => rfl
 | 3, _ => rfl
 | 4, _ => rfl
 | 5, _ => rfl
 | 6, _ => rfl
 | 7, _ => rfl
 | _ + 8, h => absurd h (by omega)
def FewP (a b : GS) (same : Bool) : Prop := ∀ k, k < 8 → b.ck k ≤ a.ck k ∧ (same = true → b.ck k = a.ck k)
theorem fewer_spec (a b : GS) (same : Bool) (h : FewP a b same) : AFun prog E 53 [.agg (encOut a), .agg (encOut b), .bool same] (.bool true) := by
 refine zp func53 Z (by decide) Z<|zSr<|yc (cs := _) Z Z Z<|yc (cs := _) Z Z Z<|zVzAb Z<|z2<|zc<|zSr<|zVzMi Z<|z2<|zi<|y7 (γ := Nat) [2, 3, 4] (fun k => [(8, .int .i64 k)]) (fun k => []) (fun k => k ≤ 8) (fun k => 8 - k) 0 zR1 zLe (qt _) ?_
 rintro k hk
 refine zSr<|zVGvlss Z Z<|z2<|zc<|zo Z (fun ck=>?_) (fun ck=>?_)
 ·have hk2 : k < 8 := by omega
  obtain ⟨h1, h2⟩ := h k hk2
  refine zf<|zc<|zi<|zSr<|zVzMi Z<|zVzAi Z<|z2<|zc<|zr (fun j => false) (by kernel_rfl) Z (zm (.rest _))<|zTk 0 Z (zMi Z)<|zTk 1 Z (zFF ju Z Y6 Z Z)<|zTk 2 Z (yu (j := k) (cs' := .int .i64 (b.ck k) :: (ckL b).drop (k + 1)) Zf j7 Z Z Z hk2 (ckL_drop b k hk2))<|zTk 3 Z (zLi j9 Z)<|zTk 4 Z (zMi Z)<|zTk 5 Z (zFF ju Z Y6 Z Z)<|zTk 6 Z (yu (j := k) (cs' := .int .i64 (a.ck k) :: (ckL a).drop (k + 1)) Zf j7 Z Z Z hk2 (ckL_drop a k hk2))<|zTk 7 Z (zLi j9 Z)<|zTk 8 Z (Gv.gtr Z Z)<|zTk 9 Z (zMb Z)<|AAny.case (s := 20) Z (fun c1=>?_) (fun c1=>?_)
  ·exfalso; have := of_decide_eq_true c1; omega
  ·refine zTt 10 Z Z Z c1 (zMb Z)<|zTt 11 Z Z Z c1 (zMb Z)<|AAny.case (s := 22) Z (fun c2=>?_) (fun c2=>?_)
   ·refine zTt 12 Z Z Z c2 (zMi Z)<|zTt 13 Z Z Z c2 (zFF ju Z Y6 Z Z)<|zTt 14 Z Z Z c2 (yu (j := k) (cs' := .int .i64 (b.ck k) :: (ckL b).drop (k + 1)) Zf j7 Z Z Z hk2 (ckL_drop b k hk2))<|zTt 15 Z Z Z c2 (zLi j9 Z)<|zTt 16 Z Z Z c2 (zMi Z)<|zTt 17 Z Z Z c2 (zFF ju Z Y6 Z Z)<|zTt 18 Z Z Z c2 (yu (j := k) (cs' := .int .i64 (a.ck k) :: (ckL a).drop (k + 1)) Zf j7 Z Z Z hk2 (ckL_drop a k hk2))<|zTt 19 Z Z Z c2 (zLi j9 Z)<|zTt 20 Z Z Z c2 (Gv.neqI Z Z)<|zTt 21 Z Z Z c1 (zPt Z c2 Z)<|zTk 22 Z (zPf Z c1 Z)<|zDn<|yj Z (by rw [h2 c2]; simp)<|zf<|zRg<|zVzAd Z Z<|zVzMi Z<|z2 ?_
    exact ⟨k + 1, zR3, zR1, zLe, hk2, by omega⟩
   ·refine zTf 12 Z Z Z c2<|zTf 13 Z Z Z c2<|zTf 14 Z Z Z c2<|zTf 15 Z Z Z c2<|zTf 16 Z Z Z c2<|zTf 17 Z Z Z c2<|zTf 18 Z Z Z c2<|zTf 19 Z Z Z c2<|zTf 20 Z Z Z c2<|zTt 21 Z Z Z c1 (zPf Z c2 Z)<|zTk 22 Z (zPf Z c1 Z)<|zDn<|yj Z Z<|zf<|zRg<|zVzAd Z Z<|zVzMi Z<|z2 ?_
    exact ⟨k + 1, zR3, zR1, zLe, hk2, by omega⟩
 ·refine y6<|zSr<|zVzAb Z<|z2<|zj<|zk (x := .bool _) Z ?_
  rfl
theorem insts_sum (f : PFunc) (hf : small f) : AFun prog E 22 [.agg (encF f)] (.int .i64 ((f.blocks.map fun b => b.phis.length + b.insts.length).sum : Nat)) := by
 obtain ⟨hf1, hf2, hf3, hf4, hf5⟩ := hf
 refine zp func22 Z (by decide) Z<|zSr<|yc (cs := _) Z Z Z<|zVzAi Z<|z2<|zSr<|zVzAi Z<|z2<|zc<|zSr<|zVzFF jh Z Z1 Z Z<|zVzLf Z8 Z<|zVGvlenM jl Z<|zVzMi Z<|z2<|zi<|y7 (γ := Nat) [7, 8] (fun k => [(9, .int .i64 k), (3, .int .i64 (((f.blocks.take k).map fun b => b.phis.length + b.insts.length).sum : Nat))]) (fun k => []) (fun k => k ≤ f.blocks.length ∧ ((f.blocks.take k).map fun b => b.phis.length + b.insts.length).sum ≤ k * 2000) (fun k => f.blocks.length - k) 0 zR2 zLe (⟨qt _, qt _⟩) ?_
 rintro k ⟨hk, hsum⟩
 refine zSr<|zVGvlss Z Z<|z2<|zc<|zo Z (fun ck=>?_) (fun ck=>?_)
 ·have hk2 : k < f.blocks.length := by omega
  obtain ⟨hb0, hb1, hb2, hb3, hb4⟩ := hf5 _ (qu hk2)
  have hsu : ((f.blocks.take (k + 1)).map fun b => b.phis.length + b.insts.length).sum = ((f.blocks.take k).map fun b => b.phis.length + b.insts.length).sum + (f.blocks[k].phis.length + f.blocks[k].insts.length) := by
   rw [qr hk2, w2, List.sum_append]; simp
  refine zf<|zc<|zi<|zSr<|z8 (zIM k jl jw Z Z Z (qq hk2))<|zVGvloadWF Yc jw Z Z<|zt (cs := [.str ⟨#[]⟩, .raw (.slice none 0 0), .raw (.slice none 0 0), .int .i64 0, .int .i64 0, .int .i64 0, .int .i64 0]) Zd Z Z<|fun i5 => zn jw Z Z Z Z Z Z .head Z<|zd (yf (t := 5) Z .head)<|z2<|zRg<|zVzMi Z<|zVzFF je Z Zn Z Z<|zVzLf Y4 Z<|zVGvlenM jx Z<|zVzAd Z Z<|zVzFF je Z Zb Z Z<|zVzLf Zw Z<|zVGvlenM jv Z<|zVzAd Z Z<|zVzAi Z<|z2<|zRg<|zVzAd Z Z<|zVzMi Z<|z2 ?_
  exact ⟨k + 1, zR2, ⟨rfl, congrArg (AV.int .i64) (by rw [hsu]; push_cast; omega), trivial⟩, zLe, ⟨hk2, by rw [hsu]; omega⟩, by omega⟩
 ·obtain rfl : k = f.blocks.length := by omega
  rw [qv]
  refine y6<|zSr<|zVzMi Z<|zVzAi Z<|z2<|zj<|zk (x := .int _ _) Z ?_
  rfl
set_option maxHeartbeats 4000000 in
theorem keeps_spec (f g : PFunc) (i : PIn) (n forth back : Nat) (same : Bool) (A B : Nat → GS) (hA : ∀ k : Nat, k ≤ 1000000000 → AFun prog E 19 [.agg (encF f), .agg (encIn i), .int .i64 k] (.agg (encOut (A k)))) (hB : ∀ k : Nat, k ≤ 1000000000 → AFun prog E 19 [.agg (encF g), .agg (encIn i), .int .i64 k] (.agg (encOut (B k))))
  (hn : n ≤ 1000) (hf : forth ≤ 100000) (hb : back ≤ 100000) (lA : ∀ k, (A k).trace.length ≤ 281474976710656) (hfw : (A n).en ≠ 3 → alikeG (A n) (B (forth * (n + 1))) = true ∧ FewP (A n) (B (forth * (n + 1))) same) (hbw : (B n).en ≠ 3 → alikeG (A (back * (n + 1))) (B n) = true ∧ FewP (A (back * (n + 1))) (B n) same) :
  AFun prog E 21 [.agg (encF f), .agg (encF g), .agg (encIn i), .int .i64 n, .int .i64 forth, .int .i64 back, .bool same] (.bool true) := by
 have m1 : forth * (n + 1) ≤ 100000 * 1001 := Nat.mul_le_mul hf (by omega)
 have m2 : back * (n + 1) ≤ 100000 * 1001 := Nat.mul_le_mul hb (by omega)
 have c1 : ((forth * (n + 1) : Nat) : Int) = (forth : Int) * ((n : Int) + 1) := by push_cast; rfl
 have c2 : ((back * (n + 1) : Nat) : Int) = (back : Int) * ((n : Int) + 1) := by push_cast; rfl
 have rA := hA n (by omega)
 have rB := hB n (by omega)
 have rC := hB (forth * (n + 1)) (by omega)
 have rD := hA (back * (n + 1)) (by omega)
 rw [c1] at rC
 rw [c2] at rD
 refine zp func21 Z (by decide) Z<|zSr<|yc (cs := _) Z Z Z<|yc (cs := _) Z Z Z<|yc (cs := _) Z Z Z<|zVzAb Z<|z2<|zc<|yn (γ := Nat × Nat) [3, 4, 5, 6, 7, 8, 9] (fun g => [(15, .po g.1 0), (16, .po g.2 0)]) (fun g => [(g.1, .cells 45 (encOut (A n))), (g.2, .cells 45 (encOut (B n)))]) (fun g => True) ?_ (fun _ _ h => h) ?_
 ·refine zr (fun j => Nat.beq j 10 || Nat.beq j 11) (by kernel_rfl) Z (zm (.rest _))<|zTk 0 Z (yl jq jj Z Z)<|zTk 1 Z (yl X4 Yv Z Z)<|zTk 2 Z (zMi Z)<|yo (i := 4) Z (by kernel_rfl) (by kernel_rfl) (by kernel_rfl) (by kernel_rfl) (yl jq jj Z Z)<|yo (i := 5) Z (by kernel_rfl) (by kernel_rfl) (by kernel_rfl) (by kernel_rfl) (yl X4 Yv Z Z)<|yo (i := 6) Z (by kernel_rfl) (by kernel_rfl) (by kernel_rfl) (by kernel_rfl) (zMi Z)<|qg (i := 3) (j := 8) (m := 9) Z Z Z (by kernel_rfl) ?_ ?_ ?_
  ·refine zg (rA) Z<|z2<|qg (i := 7) (j := 8) (m := 9) Z Z Z (by kernel_rfl) ?_ ?_ ?_
   ·refine zg (rB) Z<|z2<|yi (i := 8) (j := 9) Z Z (by kernel_rfl) ?_ ?_
    ·refine zt (cs := [.int .i64 0, .int .i64 0, .int .i64 0, .raw (.slice none 0 0), .int .i64 0, .int .i64 0, .int .i64 0, .int .i64 0, .int .i64 0, .int .i64 0, .int .i64 0, .int .i64 0, .int .i64 0]) jz Z Z<|fun i15 => z2<|zOn 9 Z<|zt (cs := [.int .i64 0, .int .i64 0, .int .i64 0, .raw (.slice none 0 0), .int .i64 0, .int .i64 0, .int .i64 0, .int .i64 0, .int .i64 0, .int .i64 0, .int .i64 0, .int .i64 0, .int .i64 0]) jz Z Z<|fun i16 => z2<|yb<|y8 (i := 10) Z (by kernel_rfl) (by kernel_rfl)<|zn jn Z Z Z Z Z Z .t1 Z<|z2<|y8 (i := 11) Z (by kernel_rfl) (by kernel_rfl)<|zn jn Z Z Z Z Z Z .head Z<|zd (za (zb .head))<|zd (za (zb .t1))<|z2<|ye (by kernel_rfl) ?_
     exact ⟨(i15, i16), zR7, zR2, zLe, trivial⟩
    ·refine zt (cs := [.int .i64 0, .int .i64 0, .int .i64 0, .raw (.slice none 0 0), .int .i64 0, .int .i64 0, .int .i64 0, .int .i64 0, .int .i64 0, .int .i64 0, .int .i64 0, .int .i64 0, .int .i64 0]) jz Z Z<|fun i16 => z2<|zOn 8 Z<|zt (cs := [.int .i64 0, .int .i64 0, .int .i64 0, .raw (.slice none 0 0), .int .i64 0, .int .i64 0, .int .i64 0, .int .i64 0, .int .i64 0, .int .i64 0, .int .i64 0, .int .i64 0, .int .i64 0]) jz Z Z<|fun i15 => z2<|yb<|y8 (i := 10) Z (by kernel_rfl) (by kernel_rfl)<|zn jn Z Z Z Z Z Z .head Z<|z2<|y8 (i := 11) Z (by kernel_rfl) (by kernel_rfl)<|zn jn Z Z Z Z Z Z .t1 Z<|z2<|ye (by kernel_rfl) ?_
     exact ⟨(i15, i16), zR7, zR2, zLe, trivial⟩
   ·refine zt (cs := [.int .i64 0, .int .i64 0, .int .i64 0, .raw (.slice none 0 0), .int .i64 0, .int .i64 0, .int .i64 0, .int .i64 0, .int .i64 0, .int .i64 0, .int .i64 0, .int .i64 0, .int .i64 0]) jz Z Z<|fun i15 => z2<|yi (i := 7) (j := 9) Z Z (by kernel_rfl) ?_ ?_
    ·refine zg (rB) Z<|z2<|zOn 9 Z<|zt (cs := [.int .i64 0, .int .i64 0, .int .i64 0, .raw (.slice none 0 0), .int .i64 0, .int .i64 0, .int .i64 0, .int .i64 0, .int .i64 0, .int .i64 0, .int .i64 0, .int .i64 0, .int .i64 0]) jz Z Z<|fun i16 => z2<|yb<|y8 (i := 10) Z (by kernel_rfl) (by kernel_rfl)<|zn jn Z Z Z Z Z Z .t1 Z<|z2<|y8 (i := 11) Z (by kernel_rfl) (by kernel_rfl)<|zn jn Z Z Z Z Z Z .head Z<|zd (za (zb .head))<|zd (za (zb .t1))<|z2<|ye (by kernel_rfl) ?_
     exact ⟨(i15, i16), zR7, zR2, zLe, trivial⟩
    ·refine zt (cs := [.int .i64 0, .int .i64 0, .int .i64 0, .raw (.slice none 0 0), .int .i64 0, .int .i64 0, .int .i64 0, .int .i64 0, .int .i64 0, .int .i64 0, .int .i64 0, .int .i64 0, .int .i64 0]) jz Z Z<|fun i16 => z2<|zOn 7 Z<|zg (rB) Z<|z2<|yb<|y8 (i := 10) Z (by kernel_rfl) (by kernel_rfl)<|zn jn Z Z Z Z Z Z .t1 Z<|z2<|y8 (i := 11) Z (by kernel_rfl) (by kernel_rfl)<|zn jn Z Z Z Z Z Z .head Z<|zd (za (zb .head))<|zd (za (zb .t1))<|z2<|ye (by kernel_rfl) ?_
     exact ⟨(i15, i16), zR7, zR2, zLe, trivial⟩
   ·refine zt (cs := [.int .i64 0, .int .i64 0, .int .i64 0, .raw (.slice none 0 0), .int .i64 0, .int .i64 0, .int .i64 0, .int .i64 0, .int .i64 0, .int .i64 0, .int .i64 0, .int .i64 0, .int .i64 0]) jz Z Z<|fun i16 => z2<|yi (i := 7) (j := 8) Z Z (by kernel_rfl) ?_ ?_
    ·refine zg (rB) Z<|z2<|zOn 8 Z<|zt (cs := [.int .i64 0, .int .i64 0, .int .i64 0, .raw (.slice none 0 0), .int .i64 0, .int .i64 0, .int .i64 0, .int .i64 0, .int .i64 0, .int .i64 0, .int .i64 0, .int .i64 0, .int .i64 0]) jz Z Z<|fun i15 => z2<|yb<|y8 (i := 10) Z (by kernel_rfl) (by kernel_rfl)<|zn jn Z Z Z Z Z Z .head Z<|z2<|y8 (i := 11) Z (by kernel_rfl) (by kernel_rfl)<|zn jn Z Z Z Z Z Z .t1 Z<|z2<|ye (by kernel_rfl) ?_
     exact ⟨(i15, i16), zR7, zR2, zLe, trivial⟩
    ·refine zt (cs := [.int .i64 0, .int .i64 0, .int .i64 0, .raw (.slice none 0 0), .int .i64 0, .int .i64 0, .int .i64 0, .int .i64 0, .int .i64 0, .int .i64 0, .int .i64 0, .int .i64 0, .int .i64 0]) jz Z Z<|fun i15 => z2<|zOn 7 Z<|zg (rB) Z<|z2<|yb<|y8 (i := 10) Z (by kernel_rfl) (by kernel_rfl)<|zn jn Z Z Z Z Z Z .head Z<|z2<|y8 (i := 11) Z (by kernel_rfl) (by kernel_rfl)<|zn jn Z Z Z Z Z Z .t1 Z<|z2<|ye (by kernel_rfl) ?_
     exact ⟨(i15, i16), zR7, zR2, zLe, trivial⟩
  ·refine zt (cs := [.int .i64 0, .int .i64 0, .int .i64 0, .raw (.slice none 0 0), .int .i64 0, .int .i64 0, .int .i64 0, .int .i64 0, .int .i64 0, .int .i64 0, .int .i64 0, .int .i64 0, .int .i64 0]) jz Z Z<|fun i15 => z2<|yi (i := 3) (j := 9) Z Z (by kernel_rfl) ?_ ?_
   ·refine zg (rA) Z<|z2<|yi (i := 7) (j := 9) Z Z (by kernel_rfl) ?_ ?_
    ·refine zg (rB) Z<|z2<|zOn 9 Z<|zt (cs := [.int .i64 0, .int .i64 0, .int .i64 0, .raw (.slice none 0 0), .int .i64 0, .int .i64 0, .int .i64 0, .int .i64 0, .int .i64 0, .int .i64 0, .int .i64 0, .int .i64 0, .int .i64 0]) jz Z Z<|fun i16 => z2<|yb<|y8 (i := 10) Z (by kernel_rfl) (by kernel_rfl)<|zn jn Z Z Z Z Z Z .t1 Z<|z2<|y8 (i := 11) Z (by kernel_rfl) (by kernel_rfl)<|zn jn Z Z Z Z Z Z .head Z<|zd (za (zb .head))<|zd (za (zb .t1))<|z2<|ye (by kernel_rfl) ?_
     exact ⟨(i15, i16), zR7, zR2, zLe, trivial⟩
    ·refine zt (cs := [.int .i64 0, .int .i64 0, .int .i64 0, .raw (.slice none 0 0), .int .i64 0, .int .i64 0, .int .i64 0, .int .i64 0, .int .i64 0, .int .i64 0, .int .i64 0, .int .i64 0, .int .i64 0]) jz Z Z<|fun i16 => z2<|zOn 7 Z<|zg (rB) Z<|z2<|yb<|y8 (i := 10) Z (by kernel_rfl) (by kernel_rfl)<|zn jn Z Z Z Z Z Z .t1 Z<|z2<|y8 (i := 11) Z (by kernel_rfl) (by kernel_rfl)<|zn jn Z Z Z Z Z Z .head Z<|zd (za (zb .head))<|zd (za (zb .t1))<|z2<|ye (by kernel_rfl) ?_
     exact ⟨(i15, i16), zR7, zR2, zLe, trivial⟩
   ·refine zt (cs := [.int .i64 0, .int .i64 0, .int .i64 0, .raw (.slice none 0 0), .int .i64 0, .int .i64 0, .int .i64 0, .int .i64 0, .int .i64 0, .int .i64 0, .int .i64 0, .int .i64 0, .int .i64 0]) jz Z Z<|fun i16 => z2<|zOn 3 Z<|zg (rA) Z<|z2<|zOn 7 Z<|zg (rB) Z<|z2<|yb<|y8 (i := 10) Z (by kernel_rfl) (by kernel_rfl)<|zn jn Z Z Z Z Z Z .t1 Z<|z2<|y8 (i := 11) Z (by kernel_rfl) (by kernel_rfl)<|zn jn Z Z Z Z Z Z .head Z<|zd (za (zb .head))<|zd (za (zb .t1))<|z2<|ye (by kernel_rfl) ?_
    exact ⟨(i15, i16), zR7, zR2, zLe, trivial⟩
  ·refine zt (cs := [.int .i64 0, .int .i64 0, .int .i64 0, .raw (.slice none 0 0), .int .i64 0, .int .i64 0, .int .i64 0, .int .i64 0, .int .i64 0, .int .i64 0, .int .i64 0, .int .i64 0, .int .i64 0]) jz Z Z<|fun i16 => z2<|yi (i := 3) (j := 8) Z Z (by kernel_rfl) ?_ ?_
   ·refine zg (rA) Z<|z2<|yi (i := 7) (j := 8) Z Z (by kernel_rfl) ?_ ?_
    ·refine zg (rB) Z<|z2<|zOn 8 Z<|zt (cs := [.int .i64 0, .int .i64 0, .int .i64 0, .raw (.slice none 0 0), .int .i64 0, .int .i64 0, .int .i64 0, .int .i64 0, .int .i64 0, .int .i64 0, .int .i64 0, .int .i64 0, .int .i64 0]) jz Z Z<|fun i15 => z2<|yb<|y8 (i := 10) Z (by kernel_rfl) (by kernel_rfl)<|zn jn Z Z Z Z Z Z .head Z<|z2<|y8 (i := 11) Z (by kernel_rfl) (by kernel_rfl)<|zn jn Z Z Z Z Z Z .t1 Z<|z2<|ye (by kernel_rfl) ?_
     exact ⟨(i15, i16), zR7, zR2, zLe, trivial⟩
    ·refine zt (cs := [.int .i64 0, .int .i64 0, .int .i64 0, .raw (.slice none 0 0), .int .i64 0, .int .i64 0, .int .i64 0, .int .i64 0, .int .i64 0, .int .i64 0, .int .i64 0, .int .i64 0, .int .i64 0]) jz Z Z<|fun i15 => z2<|zOn 7 Z<|zg (rB) Z<|z2<|yb<|y8 (i := 10) Z (by kernel_rfl) (by kernel_rfl)<|zn jn Z Z Z Z Z Z .head Z<|z2<|y8 (i := 11) Z (by kernel_rfl) (by kernel_rfl)<|zn jn Z Z Z Z Z Z .t1 Z<|z2<|ye (by kernel_rfl) ?_
     exact ⟨(i15, i16), zR7, zR2, zLe, trivial⟩
   ·refine zt (cs := [.int .i64 0, .int .i64 0, .int .i64 0, .raw (.slice none 0 0), .int .i64 0, .int .i64 0, .int .i64 0, .int .i64 0, .int .i64 0, .int .i64 0, .int .i64 0, .int .i64 0, .int .i64 0]) jz Z Z<|fun i15 => z2<|zOn 3 Z<|zg (rA) Z<|z2<|zOn 7 Z<|zg (rB) Z<|z2<|yb<|y8 (i := 10) Z (by kernel_rfl) (by kernel_rfl)<|zn jn Z Z Z Z Z Z .head Z<|z2<|y8 (i := 11) Z (by kernel_rfl) (by kernel_rfl)<|zn jn Z Z Z Z Z Z .t1 Z<|z2<|ye (by kernel_rfl) ?_
    exact ⟨(i15, i16), zR7, zR2, zLe, trivial⟩
 ·rintro ⟨i15, i16⟩ _
  refine zw (yf (t := 15) Z .head)<|zw (yf (t := 16) Z .head)<|zc<|zSr<|zVzFF ju Z X7 Z Z<|zVzLi isAgg40 Z<|zVGvneqI Z Z<|z2<|yn (γ := Unit) [3, 5, 6, 7, 9, 16] (fun u => []) (fun u => []) (fun u => True) ?_ (fun _ _ h => h) ?_
  ·refine zu Z (fun e1=>?_) (fun e1=>?_)
   ·obtain ⟨q1, q2⟩ := hfw (by simpa using e1)
    have hq := alike_spec (E := E) (A n) (B (forth * (n + 1))) (lA n)
    rw [q1] at hq
    refine zSr<|zVGvloadWF jq jj Z Z<|zVGvloadWF X4 Yv Z Z<|zVzMi Z<|zVzMi Z<|zVzAd Z Z<|z8 (Gv.mul Z Z (by unfold I64; omega))<|zg (rC) Z<|zt (cs := [.int .i64 0, .int .i64 0, .int .i64 0, .raw (.slice none 0 0), .int .i64 0, .int .i64 0, .int .i64 0, .int .i64 0, .int .i64 0, .int .i64 0, .int .i64 0, .int .i64 0, .int .i64 0]) jz Z Z<|fun i17 => zn jn Z Z Z Z Z Z .head Z<|zd (yf (t := 17) Z .head)<|z2<|zSr<|zVGvloadWF Yr jn Z Z<|zVGvloadWF Yr jn Z Z<|zg (hq) Z<|zVGvnot Z<|zVzMb Z<|z7 Z Z Z<|zVGvloadWF Yr jn Z Z<|z7 Z Z Z<|zVGvloadWF Yr jn Z Z<|z7 Z Z Z<|zVzMb Z<|z7 Z Z Z<|zg (fewer_spec _ _ same q2) Z<|z7 Z Z Z<|zVGvnot Z<|zVzPf Z Z Z<|z2<|yj Z Z<|zf ?_
    exact ⟨(), zR6, trivial, zLe, trivial⟩
   ·refine zf ?_
    exact ⟨(), zR6, trivial, zLe, trivial⟩
  ·rintro _ _
   refine zc<|zSr<|zVzFF ju Z X7 Z Z<|zVzLi isAgg40 Z<|zVGvneqI Z Z<|z2<|zu Z (fun e2=>?_) (fun e2=>?_)
   ·obtain ⟨q1, q2⟩ := hbw (by simpa using e2)
    have hq := alike_spec (E := E) (A (back * (n + 1))) (B n) (lA _)
    rw [q1] at hq
    refine zSr<|zVGvloadWF jq jj Z Z<|zVGvloadWF X4 Yv Z Z<|zVzMi Z<|zVzMi Z<|zVzAd Z Z<|z8 (Gv.mul Z Z (by unfold I64; omega))<|zg (rD) Z<|zt (cs := [.int .i64 0, .int .i64 0, .int .i64 0, .raw (.slice none 0 0), .int .i64 0, .int .i64 0, .int .i64 0, .int .i64 0, .int .i64 0, .int .i64 0, .int .i64 0, .int .i64 0, .int .i64 0]) jz Z Z<|fun i18 => zn jn Z Z Z Z Z Z .head Z<|zd (yf (t := 18) Z .head)<|z2<|zSr<|zVGvloadWF Yr jn Z Z<|zVGvloadWF Yr jn Z Z<|zg (hq) Z<|zVGvnot Z<|zVzMb Z<|z7 Z Z Z<|zVGvloadWF Yr jn Z Z<|z7 Z Z Z<|zVGvloadWF Yr jn Z Z<|z7 Z Z Z<|zVzMb Z<|z7 Z Z Z<|zg (fewer_spec _ _ same q2) Z<|z7 Z Z Z<|zVGvnot Z<|zVzPf Z Z Z<|z2<|yj Z Z<|zf<|zSr<|zVzAb Z<|z2<|zj<|zk (x := .bool _) Z ?_
    rfl
   ·refine zf<|zSr<|zVzAb Z<|z2<|zj<|zk (x := .bool _) Z ?_
    rfl
def smallIn (i : PIn) : Bool := decide (i.args.length ≤ 20) && (decide (i.arrays.length ≤ 40) && i.arrays.all fun r => decide (r.length ≤ 100))
theorem smallIn_spec (i : PIn) (hl : i.args.length ≤ 9223372036854775807) (hl2 : i.arrays.length ≤ 9223372036854775807) : AFun prog E 16 [.agg (encIn i)] (.bool (smallIn i)) := by
 refine zp func16 Z (by decide) Z<|zSr<|yc (cs := _) Z Z Z<|zVzAb Z<|z2<|zc<|zSr<|zVzFF Y5 Z sizeOf34 Z Z<|zVzLf isAgg34 Z<|zVGvlenM Yq Z<|zVGvgtr Z Z<|zVzMb Z<|zq (s := 9) Z (fun c1=>?_) (fun c1=>?_)
 ·refine z6 Z Z c1<|z6 Z Z c1<|z6 Z Z c1<|z6 Z Z c1<|zVzPt Z c1 Z<|z2<|yq Z Z<|zSr<|zVzAb Z<|z2<|zj<|zk (x := .bool _) Z ?_
  unfold smallIn; rw [w5 (fun h => by simp at c1; omega)]; rfl
 ·have h1 : i.args.length ≤ 20 := by simp at c1; omega
  refine z7 Z Z c1<|zVzFF Y5 Z Y2 Z Z<|z7 Z Z c1<|zVzLf Ym Z<|z7 Z Z c1<|zVGvlenM Za Z<|z7 Z Z c1<|zVGvgtr Z Z<|zVzPf Z c1 Z<|z2<|zu Z (fun c2=>?_) (fun c2=>?_)
  ·refine zSr<|zVzAb Z<|z2<|zj<|zk (x := .bool _) Z ?_
   unfold smallIn; rw [w4 h1, w5 (fun h => by simp at c2; omega)]; rfl
  ·have h2 : i.arrays.length ≤ 40 := by simp at c2; omega
   refine zf<|zc<|zSr<|zVzFF Y5 Z Y2 Z Z<|zVzLf Ym Z<|zVGvlenM Za Z<|zVzMi Z<|z2<|zi<|y7 (γ := Nat) [16, 17] (fun k => [(18, .int .i64 k)]) (fun k => []) (fun k => k ≤ i.arrays.length ∧ ∀ r ∈ i.arrays.take k, r.length ≤ 100) (fun k => i.arrays.length - k) 0 zR1 zLe (⟨qt _, fun _ h => by cases h⟩) ?_
   rintro k ⟨hk, hall⟩
   refine zSr<|zVGvlss Z Z<|z2<|zc<|zo Z (fun ck=>?_) (fun ck=>?_)
   ·have hk2 : k < i.arrays.length := by omega
    refine zf<|zc<|zi<|zSr<|z8 (zIM k Za Zc Z Z Z (qq hk2))<|zVzLf Zm Z<|z8 (zAf Z)<|z2<|zSr<|zVzMf Z<|zVGvlenM jp Z<|zVGvgtr Z Z<|z2<|zo Z (fun cr=>?_) (fun cr=>?_)
    ·refine zSr<|zVzAb Z<|z2<|zj<|zk (x := .bool _) Z ?_
     unfold smallIn; rw [w4 h1, w4 h2, Bool.true_and, Bool.true_and]; exact jb (List.all_eq_false.2 ⟨i.arrays[k], qu hk2, by simp; omega⟩).symm
    ·have hall2 : ∀ r ∈ i.arrays.take (k + 1), r.length ≤ 100 := fun r hr => by
      rw [qr hk2] at hr
      rcases List.mem_append.1 hr with h | h
      ·exact hall r h
      ·rw [List.mem_singleton.1 h]; omega
     refine zf<|zRg<|zVzAd Z Z<|zVzMi Z<|z2 ?_
     exact ⟨k + 1, zR2, zR1, zLe, ⟨hk2, hall2⟩, by omega⟩
   ·obtain rfl : k = i.arrays.length := by omega
    rw [qv] at hall
    refine y6<|zSr<|zVzAb Z<|z2<|zj<|zk (x := .bool _) Z ?_
    unfold smallIn; rw [w4 h1, w4 h2, Bool.true_and, Bool.true_and]; exact jb (List.all_eq_true.2 fun r hr => w4 (hall r hr)).symm
end Go.Proofs.YtiojekbkamegdaaGreatDoor
namespace Go.Proofs.YtiojekbkamegdaaGreatDoor
open Go.Proofs.Tryz
open Go.Proofs Go.Lib Go.Shelf Go.RowKit
variable {E : World}
set_option maxRecDepth 20000
theorem shaped_run {f : PFunc} (h : ShapedP f) (h64 : ∀ b ∈ f.blocks, ∀ x ∈ b.insts, is64 x.num) : RunP f := by
 have h1 := h.1
 unfold bad1 at h1
 simp only [Bool.or_eq_false_iff, decide_eq_false_iff_not] at h1
 obtain ⟨_, _, _, _, _, h6⟩ := h
 exact ⟨by omega, fun b hb => (h6 b hb).1, fun b hb x hx => ⟨instP_F ((h6 b hb).2.1 x hx), h64 b hb x hx⟩, fun b hb => (h6 b hb).2.2⟩
theorem shaped_pars {f : PFunc} (h : ShapedP f) : f.params.length ≤ f.vars.length := by
 have h1 := h.1
 unfold bad1 at h1
 simp only [Bool.or_eq_false_iff, decide_eq_false_iff_not] at h1
 omega
theorem shaped_tys {f : PFunc} (h : ShapedP f) (j : Nat) : 0 ≤ tyL f j ∧ tyL f j ≤ 2 := by
 obtain ⟨_, _, h3, _⟩ := h
 unfold tyL
 by_cases hj : j < f.vars.length
 ·rw [qq hj]; exact ⟨(h3 j hj).2.1, (h3 j hj).2.2.1⟩
 ·rw [List.getElem?_eq_none (by omega)]; exact ⟨by decide, by decide⟩
theorem ginv_run {f : PFunc} (hR : RunP f) : ∀ (k : Nat) (s : GS), GInv f s → GInv f (runG f k s)
 | 0, _, h => h
 | k + 1, s, h => by
  unfold runG
  split
  ·exact h
  ·exact ginv_run hR k _ (h.step hR)
theorem num_64s {f : PFunc} (h : ∀ b ∈ f.blocks, ∀ x ∈ b.insts, is64 x.num) (r : Int → Int) : ∀ b ∈ (numF f r).blocks, ∀ x ∈ b.insts, is64 x.num := fun b hb x hx => by
 obtain ⟨c, hc, rfl⟩ := List.mem_map.1 hb
 obtain ⟨z, hz, rfl⟩ := List.mem_map.1 hx
 exact h c hc z (List.mem_filter.1 hz).1
theorem le_sum {f : PFunc} {b : PBlock} (hb : b ∈ f.blocks) : b.insts.length ≤ (f.blocks.map fun b => b.phis.length + b.insts.length).sum := by
 have : ∀ l : List PBlock, b ∈ l → b.insts.length ≤ (l.map fun b => b.phis.length + b.insts.length).sum := by
  intro l
  induction l with
  | nil => intro h; cases h
  | cons c l ih =>
   intro h
   rw [List.map_cons, List.sum_cons]
   rcases List.mem_cons.1 h with rfl | h
   ·omega
   ·have := ih h; omega
 exact this _ hb
set_option maxHeartbeats 16000000 in
theorem numberRuns_law (f : PFunc) (hw : wFunc f) (h64 : ∀ b ∈ f.blocks, ∀ x ∈ b.insts, is64 x.num) (hL : Letters E) (i : PIn) (hi64 : in64 i) (hil : i.args.length ≤ 9223372036854775807) (hil2 : i.arrays.length ≤ 9223372036854775807) (m : Int) (hm : 0 ≤ m ∧ m ≤ 255) : AFun prog E 4 [.agg (encF f), .agg (encIn i), .int .u8 m] (.bool true) := by
 have hlv := lives31_spec (E := E) hL
 refine zp func4 Z (by decide) Z<|zSr<|yc (cs := _) Z Z Z<|yc (cs := _) Z Z Z<|zVzAb Z<|z2<|zc<|zSr<|zg (hlv) Z<|zVGvnot Z<|zVzMb Z<|z7 Z Z Z<|zVGvloadWF jq jj Z Z<|z7 Z Z Z<|zg (lawSingle_spec f hw hL) Z<|z7 Z Z Z<|zVGvnot Z<|zVzPf Z Z Z<|zVzMb Z<|zq (s := 19) Z (fun c1=>?_) (fun c1=>?_)
 ·refine z6 Z Z c1<|z6 Z Z c1<|z6 Z Z c1<|zVzPt Z c1 Z<|zVzMb Z<|z6 Z Z Z<|z6 Z Z Z<|z6 Z Z Z<|z6 Z Z Z<|zVzPt Z Z Z<|z2<|yq Z Z<|zSr<|zg (hlv) Z<|zVzAb Z<|z2<|zj<|zk (x := .bool _) Z ?_
  rfl
 ·have hls : lawSing f = true := by cases h : lawSing f; rw [h] at c1; cases c1; rfl
  have hfew : fewB f = true ∧ (typedB f = true ∧ singB f = true) := by unfold lawSing at hls; simp only [w6] at hls; exact ⟨hls.1.1, hls.1.2, hls.2⟩
  obtain ⟨hfew, ht, hs⟩ := hfew
  have hlit := (fewB_iff f).1 hfew
  have hsm := hlit.small
  have hS := typedB_shaped ht
  refine z7 Z Z c1<|zVGvloadWF X4 Yv Z Z<|z7 Z Z c1<|zg (smallIn_spec i hil hil2) Z<|z7 Z Z c1<|zVGvnot Z<|zVzPf Z c1 Z<|zVzMb Z<|zq (s := 24) Z (fun c2=>?_) (fun c2=>?_)
  ·refine z6 Z Z c2<|z6 Z Z c2<|z6 Z Z c2<|z6 Z Z c2<|zVzPt Z c2 Z<|z2<|yq Z Z<|zSr<|zg (hlv) Z<|zVzAb Z<|z2<|zj<|zk (x := .bool _) Z ?_
   rfl
  ·have hsi : smallIn i = true := by cases h : smallIn i; rw [h] at c2; cases c2; rfl
   have hsi2 : i.args.length ≤ 20 ∧ i.arrays.length ≤ 40 := by unfold smallIn at hsi; simp only [w6, w9] at hsi; exact ⟨hsi.1, hsi.2.1⟩
   refine z7 Z Z c2<|zVGvloadWF jq jj Z Z<|z7 Z Z c2<|zVGvloadWF X4 Yv Z Z<|z7 Z Z c2<|zg (rightG_spec f i (shaped_pars hS) (by omega) (by omega)) Z<|z7 Z Z c2<|zVGvneqI Z Z<|zVzPf Z c2 Z<|z2<|zu Z (fun c3=>?_) (fun c3=>?_)
   ·refine zSr<|zg (hlv) Z<|zVzAb Z<|z2<|zj<|zk (x := .bool _) Z ?_
    rfl
   ·have hri : rightG f i = 0 := by simpa using c3
    have hE := typedB_ends ht
    have hSg := (singB_iff hE).1 hs
    obtain ⟨rk, hok, hN⟩ := num_all hsm hS hE hSg
    obtain ⟨r, hr⟩ := roots_ex hok
    have hnum := numF_spec (E := E) f hL ht hs (hN r hr) (phi_args hS)
    have hK := root_kind ht hr
    have hO := oneV_of hSg.2.2.1 (fun b hb x hx => (inst_dst hS hb hx).1) fun b hb p hp => by
     have := has_lt ((hS.2.2.2.2.2 b hb).1 p hp).1
     exact ⟨this.2, this.1⟩
    have htg : typedB (numF f r) = true := typed_num hK ht
    have hsmg := small_num hsm r
    have h64g : ∀ b ∈ (numF f r).blocks, ∀ x ∈ b.insts, is64 x.num := num_64s h64 r
    have hRR := shaped_run hS h64
    have hRG := shaped_run (shaped_num hK hS) h64g
    have hR : NumR f r rk := ⟨hS, hE, hSg, hO, hok, hr, hRR, hRG⟩
    have hsim := sim_begin hR (shaped_pars hS) (shaped_tys hS) hri hi64
    obtain ⟨hgi, hia⟩ := GInv.beg hRR (shaped_pars hS) (shaped_tys hS) hri hi64
    have hgig : GInv (numF f r) (begG (numF f r) i) := hsim.gt
    obtain ⟨s0, hs0⟩ : ∃ s0, begG f i = s0 := ⟨_, rfl⟩
    obtain ⟨k, hk⟩ : ∃ k : Nat, m.tmod 201 = (k : Int) := ⟨(m.tmod 201).toNat, by have := Int.tmod_nonneg 201 hm.1; omega⟩
    have hk2 : k ≤ 200 := by have := Int.tmod_lt_of_pos m (show (0 : Int) < 201 by decide); omega
    have hI : ∀ b ∈ f.blocks, b.insts.length ≤ (f.blocks.map fun b => b.phis.length + b.insts.length).sum := fun b hb => le_sum hb
    have hIs := insts_sum (E := E) f hsm
    have hI2 : (f.blocks.map fun b => b.phis.length + b.insts.length).sum ≤ 1024 := hS.2.2.2.2.1
    obtain ⟨I, hIe⟩ : ∃ I, (f.blocks.map fun b => b.phis.length + b.insts.length).sum = I := ⟨_, rfl⟩
    rw [hIe] at hI hIs hI2
    have hA := fun (k : Nat) hk => wrun_spec (E := E) f i k hRR hsm.1 hsm hgi hia hk
    have hB := fun (k : Nat) hk => wrun_spec (E := E) (numF f r) i k hRG hsmg.1 hsmg hgig hia hk
    rw [show begG (numF f r) i = begG f i from rfl] at hB
    rw [hs0] at hA hB hsim
    have hrs := num_runs hR hsim (by rw [← hs0]; rfl) (by rw [← hs0]; rfl) hI k
    have hlt : ∀ k, (runG f k s0).trace.length ≤ 281474976710656 := fun k => by have := (ginv_run hRR k s0 (hs0 ▸ hgi)).lt; omega
    have few : ∀ {a b : GS}, SameO a b → FewP a b true := fun {a b} h q _ => ⟨by rw [h.ck]; exact Nat.le_refl _, fun _ => by rw [h.ck]⟩
    have hkp := keeps_spec (E := E) f (numF f r) i k 1 (1 + I) true (fun k => runG f k s0) (fun k => runG (numF f r) k s0) hA hB (by omega) (by omega) (by omega) hlt
     (fun h => by rw [Nat.one_mul]; exact ⟨(hrs.1 h).2.2.alike, few (hrs.1 h).2.2⟩) (fun h => ⟨(hrs.2 h).alike, few (hrs.2 h)⟩)
    rw [show (((1 + I : Nat) : Int)) = 1 + (I : Int) by push_cast; rfl] at hkp
    have hl2 := lawTyped8_spec (E := E) (numF f r) hsmg hL
    rw [htg] at hl2
    have hAk := hA k (by omega)
    have hBk := hB k (by omega)
    have hkw : IntKind.i64.wrap (m.tmod 201) = (k : Int) := by rw [hk]; unfold IntKind.wrap; simp [IntKind.bits, IntKind.signed]; omega
    rw [← hkw] at hAk hBk hkp
    refine zf<|zSr<|zVGvloadWF jq jj Z Z<|zg (hnum) Z<|z8 (zMu Z)<|z8 (Gv.extract (v := .agg _) Z Z)<|z8 (zXi Z Z)<|zt (cs := [.raw (.slice none 0 0), .raw (.slice none 0 0), .raw (.slice none 0 0)]) Yj Z Z<|fun i7 => zn jj Z Z Z Z Z Z .head Z<|zd (yf (t := 7) Z .head)<|zVzAi Z<|z2<|zc<|zSr<|zVzMi Z<|zVGvneqI Z Z<|zVzMb Z<|z7 Z Z Z<|zVGvloadWF jq jj Z Z<|z7 Z Z Z<|zg (hl2) Z<|z7 Z Z Z<|zVGvnot Z<|zVzPf Z Z Z<|zVzMb Z<|z7 Z Z Z<|zVzFF jh Z jd Z Z<|z7 Z Z Z<|zVzLf jk Z<|z7 Z Z Z<|zVGvlenM j6 Z<|z7 Z Z Z<|zVzFF jh Z jd Z Z<|z7 Z Z Z<|zVzLf jk Z<|z7 Z Z Z<|zVGvlenM j6 Z<|z7 Z Z Z<|zVGvneqI Z Z<|zVzPf Z Z Z ?_
    refine z2<|yj Z (by show (!decide (_ = _)) = false; simp; rfl)<|zf<|zSr<|zVzMi Z<|z8 (Gv.rem Z Z (by decide))<|z8 (qk underlying5 Y7 Z)<|zVzAi Z<|z2<|zc<|yn (γ := Nat × Nat) [3, 4, 7, 9] (fun g => [(10, .po g.1 0), (11, .po g.2 0)]) (fun g => [(g.1, .cells 45 (encOut (runG f k s0))), (g.2, .cells 45 (encOut (runG (numF f r) k s0)))]) (fun g => True) ?_ (fun _ _ h => h) ?_
    ·refine zr (fun j => Nat.beq j 10 || Nat.beq j 11) (by kernel_rfl) Z (zm (.rest _))<|zTk 0 Z (yl jq jj Z Z)<|zTk 1 Z (yl X4 Yv Z Z)<|zTk 2 Z (zMi Z)<|yo (i := 4) Z (by kernel_rfl) (by kernel_rfl) (by kernel_rfl) (by kernel_rfl) (yl jq jj Z Z)<|yo (i := 5) Z (by kernel_rfl) (by kernel_rfl) (by kernel_rfl) (by kernel_rfl) (yl X4 Yv Z Z)<|yo (i := 6) Z (by kernel_rfl) (by kernel_rfl) (by kernel_rfl) (by kernel_rfl) (zMi Z)<|qg (i := 3) (j := 8) (m := 9) Z Z Z (by kernel_rfl) ?_ ?_ ?_
     ·refine zg (hAk) Z<|z2<|qg (i := 7) (j := 8) (m := 9) Z Z Z (by kernel_rfl) ?_ ?_ ?_
      ·refine zg (hBk) Z<|z2<|yi (i := 8) (j := 9) Z Z (by kernel_rfl) ?_ ?_
       ·refine zt (cs := [.int .i64 0, .int .i64 0, .int .i64 0, .raw (.slice none 0 0), .int .i64 0, .int .i64 0, .int .i64 0, .int .i64 0, .int .i64 0, .int .i64 0, .int .i64 0, .int .i64 0, .int .i64 0]) jz Z Z<|fun i10 => z2<|zOn 9 Z<|zt (cs := [.int .i64 0, .int .i64 0, .int .i64 0, .raw (.slice none 0 0), .int .i64 0, .int .i64 0, .int .i64 0, .int .i64 0, .int .i64 0, .int .i64 0, .int .i64 0, .int .i64 0, .int .i64 0]) jz Z Z<|fun i11 => z2<|yb<|y8 (i := 10) Z (by kernel_rfl) (by kernel_rfl)<|zn jn Z Z Z Z Z Z .t1 Z<|z2<|y8 (i := 11) Z (by kernel_rfl) (by kernel_rfl)<|zn jn Z Z Z Z Z Z .head Z<|zd (za (zb .head))<|zd (za (zb .t1))<|z2<|ye (by kernel_rfl) ?_
        exact ⟨(i10, i11), zR4, zR2, zLe, trivial⟩
       ·refine zt (cs := [.int .i64 0, .int .i64 0, .int .i64 0, .raw (.slice none 0 0), .int .i64 0, .int .i64 0, .int .i64 0, .int .i64 0, .int .i64 0, .int .i64 0, .int .i64 0, .int .i64 0, .int .i64 0]) jz Z Z<|fun i11 => z2<|zOn 8 Z<|zt (cs := [.int .i64 0, .int .i64 0, .int .i64 0, .raw (.slice none 0 0), .int .i64 0, .int .i64 0, .int .i64 0, .int .i64 0, .int .i64 0, .int .i64 0, .int .i64 0, .int .i64 0, .int .i64 0]) jz Z Z<|fun i10 => z2<|yb<|y8 (i := 10) Z (by kernel_rfl) (by kernel_rfl)<|zn jn Z Z Z Z Z Z .head Z<|z2<|y8 (i := 11) Z (by kernel_rfl) (by kernel_rfl)<|zn jn Z Z Z Z Z Z .t1 Z<|z2<|ye (by kernel_rfl) ?_
        exact ⟨(i10, i11), zR4, zR2, zLe, trivial⟩
      ·refine zt (cs := [.int .i64 0, .int .i64 0, .int .i64 0, .raw (.slice none 0 0), .int .i64 0, .int .i64 0, .int .i64 0, .int .i64 0, .int .i64 0, .int .i64 0, .int .i64 0, .int .i64 0, .int .i64 0]) jz Z Z<|fun i10 => z2<|yi (i := 7) (j := 9) Z Z (by kernel_rfl) ?_ ?_
       ·refine zg (hBk) Z<|z2<|zOn 9 Z<|zt (cs := [.int .i64 0, .int .i64 0, .int .i64 0, .raw (.slice none 0 0), .int .i64 0, .int .i64 0, .int .i64 0, .int .i64 0, .int .i64 0, .int .i64 0, .int .i64 0, .int .i64 0, .int .i64 0]) jz Z Z<|fun i11 => z2<|yb<|y8 (i := 10) Z (by kernel_rfl) (by kernel_rfl)<|zn jn Z Z Z Z Z Z .t1 Z<|z2<|y8 (i := 11) Z (by kernel_rfl) (by kernel_rfl)<|zn jn Z Z Z Z Z Z .head Z<|zd (za (zb .head))<|zd (za (zb .t1))<|z2<|ye (by kernel_rfl) ?_
        exact ⟨(i10, i11), zR4, zR2, zLe, trivial⟩
       ·refine zt (cs := [.int .i64 0, .int .i64 0, .int .i64 0, .raw (.slice none 0 0), .int .i64 0, .int .i64 0, .int .i64 0, .int .i64 0, .int .i64 0, .int .i64 0, .int .i64 0, .int .i64 0, .int .i64 0]) jz Z Z<|fun i11 => z2<|zOn 7 Z<|zg (hBk) Z<|z2<|yb<|y8 (i := 10) Z (by kernel_rfl) (by kernel_rfl)<|zn jn Z Z Z Z Z Z .t1 Z<|z2<|y8 (i := 11) Z (by kernel_rfl) (by kernel_rfl)<|zn jn Z Z Z Z Z Z .head Z<|zd (za (zb .head))<|zd (za (zb .t1))<|z2<|ye (by kernel_rfl) ?_
        exact ⟨(i10, i11), zR4, zR2, zLe, trivial⟩
      ·refine zt (cs := [.int .i64 0, .int .i64 0, .int .i64 0, .raw (.slice none 0 0), .int .i64 0, .int .i64 0, .int .i64 0, .int .i64 0, .int .i64 0, .int .i64 0, .int .i64 0, .int .i64 0, .int .i64 0]) jz Z Z<|fun i11 => z2<|yi (i := 7) (j := 8) Z Z (by kernel_rfl) ?_ ?_
       ·refine zg (hBk) Z<|z2<|zOn 8 Z<|zt (cs := [.int .i64 0, .int .i64 0, .int .i64 0, .raw (.slice none 0 0), .int .i64 0, .int .i64 0, .int .i64 0, .int .i64 0, .int .i64 0, .int .i64 0, .int .i64 0, .int .i64 0, .int .i64 0]) jz Z Z<|fun i10 => z2<|yb<|y8 (i := 10) Z (by kernel_rfl) (by kernel_rfl)<|zn jn Z Z Z Z Z Z .head Z<|z2<|y8 (i := 11) Z (by kernel_rfl) (by kernel_rfl)<|zn jn Z Z Z Z Z Z .t1 Z<|z2<|ye (by kernel_rfl) ?_
        exact ⟨(i10, i11), zR4, zR2, zLe, trivial⟩
       ·refine zt (cs := [.int .i64 0, .int .i64 0, .int .i64 0, .raw (.slice none 0 0), .int .i64 0, .int .i64 0, .int .i64 0, .int .i64 0, .int .i64 0, .int .i64 0, .int .i64 0, .int .i64 0, .int .i64 0]) jz Z Z<|fun i10 => z2<|zOn 7 Z<|zg (hBk) Z<|z2<|yb<|y8 (i := 10) Z (by kernel_rfl) (by kernel_rfl)<|zn jn Z Z Z Z Z Z .head Z<|z2<|y8 (i := 11) Z (by kernel_rfl) (by kernel_rfl)<|zn jn Z Z Z Z Z Z .t1 Z<|z2<|ye (by kernel_rfl) ?_
        exact ⟨(i10, i11), zR4, zR2, zLe, trivial⟩
     ·refine zt (cs := [.int .i64 0, .int .i64 0, .int .i64 0, .raw (.slice none 0 0), .int .i64 0, .int .i64 0, .int .i64 0, .int .i64 0, .int .i64 0, .int .i64 0, .int .i64 0, .int .i64 0, .int .i64 0]) jz Z Z<|fun i10 => z2<|yi (i := 3) (j := 9) Z Z (by kernel_rfl) ?_ ?_
      ·refine zg (hAk) Z<|z2<|yi (i := 7) (j := 9) Z Z (by kernel_rfl) ?_ ?_
       ·refine zg (hBk) Z<|z2<|zOn 9 Z<|zt (cs := [.int .i64 0, .int .i64 0, .int .i64 0, .raw (.slice none 0 0), .int .i64 0, .int .i64 0, .int .i64 0, .int .i64 0, .int .i64 0, .int .i64 0, .int .i64 0, .int .i64 0, .int .i64 0]) jz Z Z<|fun i11 => z2<|yb<|y8 (i := 10) Z (by kernel_rfl) (by kernel_rfl)<|zn jn Z Z Z Z Z Z .t1 Z<|z2<|y8 (i := 11) Z (by kernel_rfl) (by kernel_rfl)<|zn jn Z Z Z Z Z Z .head Z<|zd (za (zb .head))<|zd (za (zb .t1))<|z2<|ye (by kernel_rfl) ?_
        exact ⟨(i10, i11), zR4, zR2, zLe, trivial⟩
       ·refine zt (cs := [.int .i64 0, .int .i64 0, .int .i64 0, .raw (.slice none 0 0), .int .i64 0, .int .i64 0, .int .i64 0, .int .i64 0, .int .i64 0, .int .i64 0, .int .i64 0, .int .i64 0, .int .i64 0]) jz Z Z<|fun i11 => z2<|zOn 7 Z<|zg (hBk) Z<|z2<|yb<|y8 (i := 10) Z (by kernel_rfl) (by kernel_rfl)<|zn jn Z Z Z Z Z Z .t1 Z<|z2<|y8 (i := 11) Z (by kernel_rfl) (by kernel_rfl)<|zn jn Z Z Z Z Z Z .head Z<|zd (za (zb .head))<|zd (za (zb .t1))<|z2<|ye (by kernel_rfl) ?_
        exact ⟨(i10, i11), zR4, zR2, zLe, trivial⟩
      ·refine zt (cs := [.int .i64 0, .int .i64 0, .int .i64 0, .raw (.slice none 0 0), .int .i64 0, .int .i64 0, .int .i64 0, .int .i64 0, .int .i64 0, .int .i64 0, .int .i64 0, .int .i64 0, .int .i64 0]) jz Z Z<|fun i11 => z2<|zOn 3 Z<|zg (hAk) Z<|z2<|zOn 7 Z<|zg (hBk) Z<|z2<|yb<|y8 (i := 10) Z (by kernel_rfl) (by kernel_rfl)<|zn jn Z Z Z Z Z Z .t1 Z<|z2<|y8 (i := 11) Z (by kernel_rfl) (by kernel_rfl)<|zn jn Z Z Z Z Z Z .head Z<|zd (za (zb .head))<|zd (za (zb .t1))<|z2<|ye (by kernel_rfl) ?_
       exact ⟨(i10, i11), zR4, zR2, zLe, trivial⟩
     ·refine zt (cs := [.int .i64 0, .int .i64 0, .int .i64 0, .raw (.slice none 0 0), .int .i64 0, .int .i64 0, .int .i64 0, .int .i64 0, .int .i64 0, .int .i64 0, .int .i64 0, .int .i64 0, .int .i64 0]) jz Z Z<|fun i11 => z2<|yi (i := 3) (j := 8) Z Z (by kernel_rfl) ?_ ?_
      ·refine zg (hAk) Z<|z2<|yi (i := 7) (j := 8) Z Z (by kernel_rfl) ?_ ?_
       ·refine zg (hBk) Z<|z2<|zOn 8 Z<|zt (cs := [.int .i64 0, .int .i64 0, .int .i64 0, .raw (.slice none 0 0), .int .i64 0, .int .i64 0, .int .i64 0, .int .i64 0, .int .i64 0, .int .i64 0, .int .i64 0, .int .i64 0, .int .i64 0]) jz Z Z<|fun i10 => z2<|yb<|y8 (i := 10) Z (by kernel_rfl) (by kernel_rfl)<|zn jn Z Z Z Z Z Z .head Z<|z2<|y8 (i := 11) Z (by kernel_rfl) (by kernel_rfl)<|zn jn Z Z Z Z Z Z .t1 Z<|z2<|ye (by kernel_rfl) ?_
        exact ⟨(i10, i11), zR4, zR2, zLe, trivial⟩
       ·refine zt (cs := [.int .i64 0, .int .i64 0, .int .i64 0, .raw (.slice none 0 0), .int .i64 0, .int .i64 0, .int .i64 0, .int .i64 0, .int .i64 0, .int .i64 0, .int .i64 0, .int .i64 0, .int .i64 0]) jz Z Z<|fun i10 => z2<|zOn 7 Z<|zg (hBk) Z<|z2<|yb<|y8 (i := 10) Z (by kernel_rfl) (by kernel_rfl)<|zn jn Z Z Z Z Z Z .head Z<|z2<|y8 (i := 11) Z (by kernel_rfl) (by kernel_rfl)<|zn jn Z Z Z Z Z Z .t1 Z<|z2<|ye (by kernel_rfl) ?_
        exact ⟨(i10, i11), zR4, zR2, zLe, trivial⟩
      ·refine zt (cs := [.int .i64 0, .int .i64 0, .int .i64 0, .raw (.slice none 0 0), .int .i64 0, .int .i64 0, .int .i64 0, .int .i64 0, .int .i64 0, .int .i64 0, .int .i64 0, .int .i64 0, .int .i64 0]) jz Z Z<|fun i10 => z2<|zOn 3 Z<|zg (hAk) Z<|z2<|zOn 7 Z<|zg (hBk) Z<|z2<|yb<|y8 (i := 10) Z (by kernel_rfl) (by kernel_rfl)<|zn jn Z Z Z Z Z Z .head Z<|z2<|y8 (i := 11) Z (by kernel_rfl) (by kernel_rfl)<|zn jn Z Z Z Z Z Z .t1 Z<|z2<|ye (by kernel_rfl) ?_
       exact ⟨(i10, i11), zR4, zR2, zLe, trivial⟩
    ·rintro ⟨i10, i11⟩ _
     refine zw (yf (t := 10) Z .head)<|zw (yf (t := 11) Z .head)<|zc<|zSr<|zVzFF ju Z X7 Z Z<|zVzLi isAgg40 Z<|zVGvneqI Z Z<|zVzMb Z<|zq (s := 66) Z (fun e1=>?_) (fun e1=>?_)
     ·obtain ⟨q1, q2, _⟩ := hrs.1 (by simpa using e1)
      have hq := alike_spec (E := E) (runG f k s0) (runG (numF f r) k s0) (hlt k)
      rw [q1.alike] at hq
      refine z7 Z Z e1<|zVGvloadWF Yr jn Z Z<|z7 Z Z e1<|zVGvloadWF Yr jn Z Z<|z7 Z Z e1<|zg (hq) Z<|z7 Z Z e1<|zVGvnot Z<|z7 Z Z e1<|zVzMb Z<|z7 Z Z Z<|zVzFF ju Z j7 Z Z<|z7 Z Z Z<|zVzLi j9 Z<|z7 Z Z Z<|zVzFF ju Z j7 Z Z<|z7 Z Z Z<|zVzLi j9 Z<|z7 Z Z Z<|zVGvgtr Z Z<|z7 Z Z e1<|zVzPf Z Z Z<|zVzPt Z e1 Z<|z2<|yj Z (w5 (by omega))<|zf<|zc<|zr (fun j => false) (by kernel_rfl) Z (zm (.rest _))<|zTk 0 Z (yl jq jj Z Z)<|zTk 1 Z (yl jq jj Z Z)<|zTk 2 Z (yl X4 Yv Z Z)<|zTk 3 Z (zMi Z)<|zTk 4 Z (yl jq jj Z Z)<|zOn 5 Z<|zg (hIs) Z<|z2<|zTk 6 Z (zAd Z Z)<|zOn 7 Z<|zg (hkp) Z<|z2<|zTk 8 Z (zAb Z) ?_
      refine zDn<|zj<|zk (x := .bool _) Z ?_
      rfl
     ·refine z6 Z Z e1<|z6 Z Z e1<|z6 Z Z e1<|z6 Z Z e1<|z6 Z Z e1<|zh Z Z<|zh Z Z<|zh Z Z<|zh Z Z<|zh Z Z<|z6 Z Z e1<|zVzPf Z e1 Z<|z2<|yj Z Z<|zf<|zc<|zr (fun j => false) (by kernel_rfl) Z (zm (.rest _))<|zTk 0 Z (yl jq jj Z Z)<|zTk 1 Z (yl jq jj Z Z)<|zTk 2 Z (yl X4 Yv Z Z)<|zTk 3 Z (zMi Z)<|zTk 4 Z (yl jq jj Z Z)<|zOn 5 Z<|zg (hIs) Z<|z2<|zTk 6 Z (zAd Z Z)<|zOn 7 Z<|zg (hkp) Z<|z2<|zTk 8 Z (zAb Z)<|zDn<|zj<|zk (x := .bool _) Z ?_
      rfl
end Go.Proofs.YtiojekbkamegdaaGreatDoor
namespace Go.Proofs.YtiojekbkamegdaaGreatDoor
open Go.Proofs.Tryz
open Go.Proofs Go.Lib Go.Shelf Go.RowKit Go.WideShapes
set_option maxRecDepth 20000
variable {W : World}
theorem decI : Dec prog W 3 encI (fun x => (Lit.int .i64 x).wf = true) := Dec.int Y7
theorem decIs : Dec prog W 23 (fun l : List Int => [.fro 1 (l.map encI)]) wL := fun en held fuel cs x h => by
 obtain ⟨l, hl, r⟩ := Dec.slice (k := 1) j6 decI (by kernel_rfl) (by decide) en held fuel cs x h
 exact ⟨l, hl.2, r⟩
theorem decVar : Dec prog W 79 encVar (fun _ => True) := fun en held fuel cs x h => by
 obtain ⟨xs, n, _, _, hl, hxl, hf⟩ := DataW.trod_struct Zl h
 have hl : cs.length = 2 := hl.trans (by kernel_rfl)
 have hxl : xs.length = 2 := hxl
 obtain ⟨a, _, ra⟩ := qh (o := 0) (k := 1) (hf 0 _ rfl) (Dec.str Zi) (by omega) rfl (by kernel_rfl)
 obtain ⟨b, _, rb⟩ := qh (o := 1) (k := 1) (hf 1 _ rfl) (Dec.int underlying77) (by omega) rfl (by kernel_rfl)
 exact ⟨⟨a, b⟩, trivial, q6 (o := 0) ra (q6 rb (RepL.fin hl))⟩
theorem decPhi : Dec prog W 81 encPhi wPhi := fun en held fuel cs x h => by
 obtain ⟨xs, n, _, _, hl, hxl, hf⟩ := DataW.trod_struct js h
 have hl : cs.length = 3 := hl.trans (by kernel_rfl)
 have hxl : xs.length = 3 := hxl
 obtain ⟨a, _, ra⟩ := qh (o := 0) (k := 1) (hf 0 _ rfl) decI (by omega) rfl (by kernel_rfl)
 obtain ⟨b, hb, rb⟩ := qh (o := 1) (k := 1) (hf 1 _ rfl) decIs (by omega) rfl (by kernel_rfl)
 obtain ⟨c, hc, rc⟩ := qh (o := 2) (k := 1) (hf 2 _ rfl) decIs (by omega) rfl (by kernel_rfl)
 exact ⟨⟨a, b, c⟩, ⟨hb, hc⟩, q6 (o := 0) ra (q6 rb (q6 rc (RepL.fin hl)))⟩
def wInst (x : PInst) : Prop := wL x.args ∧ (Lit.int .i64 x.num).wf = true
theorem decInst : Dec prog W 61 encInst wInst := fun en held fuel cs x h => by
 obtain ⟨xs, n, _, _, hl, hxl, hf⟩ := DataW.trod_struct ji h
 have hl : cs.length = 4 := hl.trans (by kernel_rfl)
 have hxl : xs.length = 4 := hxl
 obtain ⟨a, _, ra⟩ := qh (o := 0) (k := 1) (hf 0 _ rfl) (Dec.int underlying59) (by omega) rfl (by kernel_rfl)
 obtain ⟨b, _, rb⟩ := qh (o := 1) (k := 1) (hf 1 _ rfl) decI (by omega) rfl (by kernel_rfl)
 obtain ⟨c, hc, rc⟩ := qh (o := 2) (k := 1) (hf 2 _ rfl) decIs (by omega) rfl (by kernel_rfl)
 obtain ⟨d, hd, rd⟩ := qh (o := 3) (k := 1) (hf 3 _ rfl) (Dec.int Zj) (by omega) rfl (by kernel_rfl)
 exact ⟨⟨a, b, c, d⟩, ⟨hc, hd⟩, q6 (o := 0) ra (q6 rb (q6 rc (q6 rd (RepL.fin hl))))⟩
theorem decTerm : Dec prog W 56 encTerm (fun _ => True) := fun en held fuel cs x h => by
 obtain ⟨xs, n, _, _, hl, hxl, hf⟩ := DataW.trod_struct jf h
 have hl : cs.length = 4 := hl.trans (by kernel_rfl)
 have hxl : xs.length = 3 := hxl
 obtain ⟨a, _, ra⟩ := qh (o := 0) (k := 1) (hf 0 _ rfl) (Dec.int underlying53) (by omega) rfl (by kernel_rfl)
 obtain ⟨b, _, rb⟩ := qh (o := 1) (k := 1) (hf 1 _ rfl) decI (by omega) rfl (by kernel_rfl)
 obtain ⟨c, _, rc⟩ := qh (o := 2) (k := 2) (hf 2 _ rfl) (Dec.pair (k := 1) jy decI (by kernel_rfl) (by kernel_rfl)) (by omega) rfl (by kernel_rfl)
 exact ⟨⟨a, b, c.1, c.2⟩, trivial, q6 (o := 0) ra (q6 rb (q6 rc (RepL.fin hl)))⟩
def NumsI (f : PFunc) : Prop := ∀ b ∈ f.blocks, ∀ x ∈ b.insts, is64 x.num
def wBlkN (b : PBlock) : Prop := wBlk b ∧ ∀ x ∈ b.insts, -9223372036854775808 ≤ x.num ∧ x.num ≤ 9223372036854775807
theorem decBlkN : Dec prog W 58 encBlk wBlkN := fun en held fuel cs x h => by
 obtain ⟨xs, n, _, _, hl, hxl, hf⟩ := DataW.trod_struct je h
 have hl : cs.length = 7 := hl.trans (by kernel_rfl)
 have hxl : xs.length = 4 := hxl
 obtain ⟨a, _, ra⟩ := qh (o := 0) (k := 1) (hf 0 _ rfl) (Dec.str Zi) (by omega) rfl (by kernel_rfl)
 obtain ⟨b, hb, rb⟩ := qh (o := 1) (k := 1) (hf 1 _ rfl) (Dec.slice (k := 3) jx decPhi (by kernel_rfl) (by decide)) (by omega) rfl (by kernel_rfl)
 obtain ⟨c, hc, rc⟩ := qh (o := 2) (k := 1) (hf 2 _ rfl) (Dec.slice (k := 4) jv decInst (by kernel_rfl) (by decide)) (by omega) rfl (by kernel_rfl)
 obtain ⟨d, _, rd⟩ := qh (o := 3) (k := 4) (hf 3 _ rfl) decTerm (by omega) rfl (by kernel_rfl)
 exact ⟨⟨a, b, c, d⟩, ⟨⟨hb.2, hc.2, hb.1, fun x hx => (hc.1 x hx).1⟩, fun x hx => by simpa [Lit.wf, IntKind.min, IntKind.max, IntKind.signed, IntKind.bits] using (hc.1 x hx).2⟩, q6 (o := 0) ra (q6 rb (q6 rc (q6 rd (RepL.fin hl))))⟩
theorem decFN : Dec prog W 26 encF (fun f => wFunc f ∧ NumsI f) := fun en held fuel cs x h => by
 obtain ⟨xs, n, _, _, hl, hxl, hf⟩ := DataW.trod_struct jh h
 have hl : cs.length = 3 := hl.trans (by kernel_rfl)
 have hxl : xs.length = 3 := hxl
 obtain ⟨a, ha, ra⟩ := qh (o := 0) (k := 1) (hf 0 _ rfl) (Dec.slice (k := 2) Z4 decVar (by kernel_rfl) (by decide)) (by omega) rfl (by kernel_rfl)
 obtain ⟨b, hb, rb⟩ := qh (o := 1) (k := 1) (hf 1 _ rfl) decIs (by omega) rfl (by kernel_rfl)
 obtain ⟨c, hc, rc⟩ := qh (o := 2) (k := 1) (hf 2 _ rfl) (Dec.slice (k := 7) jl decBlkN (by kernel_rfl) (by decide)) (by omega) rfl (by kernel_rfl)
 exact ⟨⟨a, b, c⟩, ⟨⟨ha.2, hb, hc.2, fun x hx => (hc.1 x hx).1⟩, fun x hx => (hc.1 x hx).2⟩, q6 (o := 0) ra (q6 rb (q6 rc (RepL.fin hl)))⟩
theorem of_struct {H : Type} {enc : TypeId × Value → H} {held : Bool} {α : Type} {T : TypeId} {e : α → List AV} {ok : α → Prop} {fs : Array Field} {base : Nat} {v : Value} {d : DataW H} {p : List MemPlace} (hd : Dec prog W T e ok) (ht : prog.underlying T = some (.struct fs))
  (hv : Value.okWide prog W .any base T v) (h : DataW.Trod enc prog W 0 (fun _ => true) held T v d p) : ∃ a, ok a ∧ RepV (I0 W) (.agg (e a)) v := by
 obtain ⟨cs, rfl, _⟩ := okWide_struct ht hv
 obtain ⟨fuel, h⟩ := h
 obtain ⟨a, h1, h2⟩ := hd enc held fuel _ _ h
 exact ⟨a, h1, cs.toList, by simp, h2⟩
theorem xTab : RExtra prog Tryz.lays200_ren := ⟨by kernel_rfl, by kernel_rfl, by kernel_rfl, by kernel_rfl, by kernel_rfl, by kernel_rfl, by kernel_rfl, by kernel_rfl⟩
theorem letters_of (h : Lib.VarReads prog W "unicode.properties" (Lib.tabData .u8 Lib.propertiesTab)) (h2 : Lib.VarReads prog W "unicode.Letter" (Lib.rtabData letterT)) : Letters W :=
 ⟨tabIs_of_reads (g := 0) (by kernel_rfl) (by kernel_rfl) underlying300 underlying5 (by kernel_rfl) (by kernel_rfl) h,
  rvar_of_reads { Tryz.lays200 with } xTab (name := "unicode.Letter") (g := 1) (by kernel_rfl) (by kernel_rfl) h2⟩
end Go.Proofs.YtiojekbkamegdaaGreatDoor
namespace Go.Proofs.YtiojekbkamegdaaGreatDoor
open Go.Proofs.Tryz
open Go.Proofs
theorem fMay : prog.mayEnter = true := by kernel_rfl
theorem fLift : (Rows.numberRunsRow.lifted == prog.liftsFinal) = true := by kernel_rfl
theorem fMake : (prog.make == some Rows.numberRunsRow.make) = true := by kernel_rfl
theorem fLaid : laidOutB prog = true := by kernel_rfl
theorem fRow : mapsRowed prog = true := by kernel_rfl
theorem fStop : (prog.stops == []) = true := by kernel_rfl
theorem fKnob : (prog.stopKnobs == []) = true := by kernel_rfl
theorem fKeys : (Rows.numberRunsRow.plainKeys == prog.plainKeys) = true := by kernel_rfl
theorem fHeard : prog.stopsHeard = true := by kernel_rfl
theorem gIn : (Rows.numberRunsRow.inPlace == prog.inPlace 4) = true := by kernel_rfl
theorem gUn : (Rows.numberRunsRow.unfollowed == prog.unfollowed 4) = true := by kernel_rfl
theorem gRec : (Rows.numberRunsRow.recurses == prog.recurses 4) = true := by kernel_rfl
theorem gNam : (Rows.numberRunsRow.named == prog.varsNamed 4) = true := by kernel_rfl
theorem closed : joinedFacts prog 4 Tryz.f4 Rows.numberRunsSpec Rows.numberRunsRow = true := by
 unfold joinedFacts
 rw [fLaid, fRow, fStop, fKnob, gIn, gUn, gRec, gNam, fKeys, fHeard, fMay, fLift, fMake]
 kernel_rfl
end Go.Proofs.YtiojekbkamegdaaGreatDoor
namespace Go.Proofs.YtiojekbkamegdaaGreatDoor
open Go.Proofs.Tryz
open Go.Proofs Go.Lib Go.Shelf Go.RowKit Go.WideShapes
set_option maxRecDepth 20000
variable {W : World}
theorem fit64 {n : Int} (h : (Lit.int .i64 n).wf = true) : is64 n := by simpa [is64, Lit.wf, IntKind.min, IntKind.max, IntKind.signed, IntKind.bits] using h
theorem decArg : Dec prog W 66 encArg (fun a => is64 a.int) := fun en held fuel cs x h => by
 obtain ⟨xs, n, _, _, hl, hxl, hf⟩ := DataW.trod_struct X2 h
 have hl : cs.length = 3 := hl.trans (by kernel_rfl)
 have hxl : xs.length = 3 := hxl
 obtain ⟨a, ha, ra⟩ := qh (o := 0) (k := 1) (hf 0 _ rfl) (Dec.int Zj) (by omega) rfl (by kernel_rfl)
 obtain ⟨b, _, rb⟩ := qh (o := 1) (k := 1) (hf 1 _ rfl) (Dec.bool Yw) (by omega) rfl (by kernel_rfl)
 obtain ⟨c, _, rc⟩ := qh (o := 2) (k := 1) (hf 2 _ rfl) decI (by omega) rfl (by kernel_rfl)
 exact ⟨⟨a, b, c⟩, fit64 ha, q6 (o := 0) ra (q6 rb (q6 rc (RepL.fin hl)))⟩
theorem decArr : Dec prog W 42 encArr (fun r => ∀ x ∈ r, is64 x) := fun en held fuel cs x h => by
 obtain ⟨l, hl, r⟩ := Dec.slice (k := 1) jp (Dec.int Zj) (by kernel_rfl) (by decide) en held fuel cs x h
 exact ⟨l, fun x hx => fit64 (hl.1 x hx), r⟩
theorem decIn : Dec prog W 37 encIn (fun i => in64 i ∧ i.args.length ≤ 9223372036854775807 ∧ i.arrays.length ≤ 9223372036854775807) := fun en held fuel cs x h => by
 obtain ⟨xs, n, _, _, hl, hxl, hf⟩ := DataW.trod_struct Y5 h
 have hl : cs.length = 2 := hl.trans (by kernel_rfl)
 have hxl : xs.length = 2 := hxl
 obtain ⟨a, ha, ra⟩ := qh (o := 0) (k := 1) (hf 0 _ rfl) (Dec.slice (k := 3) Yq decArg (by kernel_rfl) (by decide)) (by omega) rfl (by kernel_rfl)
 obtain ⟨b, hb, rb⟩ := qh (o := 1) (k := 1) (hf 1 _ rfl) (Dec.slice (k := 1) Za decArr (by kernel_rfl) (by decide)) (by omega) rfl (by kernel_rfl)
 exact ⟨⟨a, b⟩, ⟨⟨ha.1, hb.1⟩, ha.2, hb.2⟩, q6 (o := 0) ra (q6 rb (RepL.fin hl))⟩
theorem of_u8 {H : Type} {enc : TypeId × Value → H} {held : Bool} {T : TypeId} {base : Nat} {v : Value} {d : DataW H} {p : List MemPlace} (ht : prog.underlying T = some (.int .u8))
  (hv : Value.okWide prog W .any base T v) (h : DataW.Trod enc prog W 0 (fun _ => true) held T v d p) : ∃ n : Int, (0 ≤ n ∧ n ≤ 255) ∧ v = .int .u8 n := by
 obtain ⟨n, rfl⟩ := okWide_int ht hv
 obtain ⟨fuel, h⟩ := h
 obtain ⟨m, h1, h2⟩ := Dec.int ht enc held fuel _ _ h
 obtain ⟨v, _, e, h2, h3⟩ := h2
 cases e
 cases h2
 exact ⟨n, by simpa [Lit.wf, IntKind.min, IntKind.max, IntKind.signed, IntKind.bits] using h1, rfl⟩
end Go.Proofs.YtiojekbkamegdaaGreatDoor
