/- What an operation that only gives comes to, over a heap told exactly. No conditions. -/
import Derived.Test.YtoicilchhkndmaaGreatDoorJj
import Derived.Test.YtoicilchhkndmaaGreatDoorJf
import Derived.Test.YtoicilchhkndmaaGreatDoorJi
import Derived.Test.YtoicilchhkndmaaGreatDoorJd
set_option linter.unusedVariables false
set_option linter.unusedSimpArgs false
set_option linter.unusedSectionVars false
namespace Go.Proofs.YtoicilchhkndmaaGreatDoor
open Go.Proofs.Tryz
open Go.Proofs Go.Lib Go.Shelf Go.RowKit
variable {E : World}
set_option maxRecDepth 20000
theorem eq8o (a b c d e f g h : Int) (w : World) : (Op.equalIn 10000 38 (.agg [.int .i64 a, .int .i64 b, .int .i64 c, .int .i64 d, .int .i64 e, .int .i64 f, .int .i64 g, .int .i64 h].toArray) (.agg [.int .i64 a, .int .i64 b, .int .i64 c, .int .i64 d, .int .i64 e, .int .i64 f, .int .i64 g, .int .i64 h].toArray)).run prog w = .ok true w := by
 rw [Op.equalIn]
 simp only [Sem.run_bind, run_underlying jy, Result.andThen_ok]
 simp only [Std.Legacy.Range.forIn_eq_forIn_range', Std.Legacy.Range.size, Nat.sub_zero, Nat.add_sub_cancel, Nat.div_one, List.range'_succ, List.range'_zero, List.forIn_cons, List.forIn_nil]
 simp [part, je, j6, run_equalIn_int, Z7]
theorem sameO_spec (s : GS) (hl : s.trace.length ≤ 281474976710656) : AFun prog E 9 [.agg (encOut s), .agg (encOut s)] (.bool true) := by
 have ha := alike_spec (E := E) s s hl
 rw [show alikeG s s = true by unfold alikeG; simp] at ha
 refine zn func9 Z (by decide) Z<|zSr<|zz (cs := _) Z Z Z<|zz (cs := _) Z Z Z<|zVzAb Z<|z6<|zSr<|zVGvloadWF Zk j3 Z Z<|zVGvloadWF Zk j3 Z Z<|zd (ha) Z<|zVzMb Z<|za Z Z Z<|zVzFF j4 Z j6 Z Z<|za Z Z Z<|zVzLi je Z<|za Z Z Z<|zVzFF j4 Z j6 Z Z<|za Z Z Z<|zVzLi je Z<|za Z Z Z<|zVGveqlI Z Z<|zVzPt Z Z Z<|zVzMb Z<|za Z Z (by simp)<|zVzFF j4 Z Za Z Z<|za Z Z (by simp)<|zVGvloadWF isAgg38 Za Z Z<|za Z Z (by simp)<|zVzFF j4 Z Za Z Z<|za Z Z (by simp)<|zVGvloadWF isAgg38 Za Z Z<|za Z Z (by simp)<|z7 (Gv.eqlP (xs := [.int _ _, .int _ _, .int _ _, .int _ _, .int _ _, .int _ _, .int _ _, .int _ _]) (ys := [.int _ _, .int _ _, .int _ _, .int _ _, .int _ _, .int _ _, .int _ _, .int _ _]) (by kernel_rfl) Z Z (fun w => eq8o _ _ _ _ _ _ _ _ w))<|z7 (zPt Z (by simp) Z)<|zVzAb Z<|z6<|ze<|zk (x := .bool _) Z ?_
 rfl
def gsOf (s : PS) : GS := ⟨[], [], [], [], 0, 0, s.en, s.val, s.tr, s.trace, s.st, fun k => (vi s.ck k).toNat, s.ended⟩
theorem encP_eq {s : PS} (h : ∀ x ∈ s.ck, 0 ≤ x) : encOutP s = encOut (gsOf s) := by
 have hv : ∀ k : Int, vi s.ck k = ((vi s.ck k).toNat : Int) := fun k => by
  have : 0 ≤ vi s.ck k := by
   unfold vi
   cases e : s.ck[k.toNat]? with
   | none => exact Int.le_refl 0
   | some x => exact h x (List.mem_of_getElem? e)
  omega
 unfold encOutP encOut gsOf
 dsimp only
 simp only [← hv]
 rfl
theorem ckP_get (s : PS) : ∀ k : Nat, k < 8 → ([.int .i64 (vi s.ck 0), .int .i64 (vi s.ck 1), .int .i64 (vi s.ck 2), .int .i64 (vi s.ck 3), .int .i64 (vi s.ck 4), .int .i64 (vi s.ck 5), .int .i64 (vi s.ck 6), .int .i64 (vi s.ck 7)] : List AV)[k]? = some (.int .i64 (vi s.ck k))
 | 0, _ => rfl
 | 1, _ => rfl
 | 2, _ => rfl
 | 3, _ => rfl
 | 4, _ => rfl
 | 5, _ => rfl
 | 6, _ => rfl
 | 7, _ => rfl
 | _ + 8, h => absurd h (by omega)
theorem sum_le {l : List Int} {m : Int} (h : ∀ x ∈ l, 0 ≤ x ∧ x ≤ m) : 0 ≤ l.sum ∧ l.sum ≤ l.length * m := by
 induction l with
 | nil => simp
 | cons x l ih =>
  have h1 := h x (.head _)
  have h2 := ih fun y hy => h y (.tail _ hy)
  rw [List.sum_cons, List.length_cons, Int.natCast_add, Int.add_mul]
  constructor
  ·omega
  ·have : ((1 : Nat) : Int) * m = m := by simp
   omega
theorem ssum_spec (s : PS) (h8 : s.ck.length = 8) (hb : ∀ x ∈ s.ck, 0 ≤ x ∧ x ≤ 1000000) : AFun prog E 10 [.agg (encOutP s)] (.int .i64 s.ck.sum) := by
 refine zn func10 Z (by decide) Z<|zSr<|zz (cs := _) Z Z Z<|zVzAi Z<|z6<|zSr<|zVzAi Z<|z6<|zc<|zSr<|zVzFF j4 Z Za Z Z<|zVGvloadWF isAgg38 Za Z Z<|zVzMi Z<|z6<|zi<|yg (γ := Nat) [7] (fun k => [(8, .int .i64 k), (3, .int .i64 (s.ck.take k).sum)]) (fun k => []) (fun k => k ≤ 8) (fun k => 8 - k) 0 zR2 zLe (q5 _) ?_
 rintro k hk
 refine zSr<|zVGvlss Z Z<|z6<|zc<|y9 Z (fun ck=>?_) (fun ck=>?_)
 ·have hk2 : k < 8 := by omega
  have hx : s.ck[k]? = some (vi s.ck k) := by unfold vi; rw [Int.toNat_natCast, q3 (by omega)]; rfl
  obtain ⟨hkl, hxe⟩ := List.getElem?_eq_some_iff.1 hx
  have hsum : (s.ck.take (k + 1)).sum = (s.ck.take k).sum + vi s.ck k := by rw [q4 hkl, List.sum_append, hxe]; simp
  have hs1 := sum_le (l := s.ck.take k) (m := 1000000) fun x hx => hb x (List.mem_of_mem_take hx)
  have hs2 := hb _ (List.mem_of_getElem? hx)
  have hs3 : ((s.ck.take k).length : Int) ≤ 8 := by rw [List.length_take]; omega
  have hs4 : ((s.ck.take k).length : Int) * 1000000 ≤ 8000000 := by omega
  refine zj<|zc<|zi<|zSr<|z7 (Gv.index1 (j := k) (v := .int .i64 (vi s.ck k)) jy je j6 Z Z Z hk2 (ckP_get s k hk2))<|zVzAi Z<|z6<|zRg<|zVzMi Z<|zVzMi Z<|zVzAd Z Z<|zVzAi Z<|z6<|zRg<|zVzAd Z Z<|zVzMi Z<|z6 ?_
  exact ⟨k + 1, zR1, ⟨rfl, congrArg (AV.int .i64) hsum.symm, trivial⟩, zLe, hk2, by omega⟩
 ·obtain rfl : k = 8 := by omega
  rw [List.take_of_length_le (by omega)]
  refine yf<|zSr<|zVzMi Z<|zVzAi Z<|z6<|ze<|zk (x := .int _ _) Z ?_
  rfl
theorem sended_spec (s : PS) : AFun prog E 8 [.agg (encOutP s)] (.bool (decide (0 ≤ s.en) && decide (s.en ≤ 2))) := by
 refine zn func8 Z (by decide) Z<|zSr<|zz (cs := _) Z Z Z<|zVzAb Z<|z6<|zSr<|zVzFF j4 Z Y6 Z Z<|zVzLi isAgg35 Z<|z7 (Gv.geq Z Z)<|zVzMb Z<|zx (s := 6) Z (fun c=>?_) (fun c=>?_)
 ·have d : 0 ≤ s.en := by simpa using c
  refine za Z Z c<|zVzFF j4 Z Y6 Z Z<|za Z Z c<|zVzLi isAgg35 Z<|za Z Z c<|z7 (Gv.leq Z Z)<|zVzPt Z c Z<|zVzAb Z<|z6<|ze<|zk (x := .bool _) Z ?_
  exact jb (by simp [d])
 ·have d : ¬ 0 ≤ s.en := by simpa using c
  refine z8 Z Z c<|z8 Z Z c<|z8 Z Z c<|zVzPf Z c Z<|zVzAb Z<|z6<|ze<|zk (x := .bool _) Z ?_
  exact jb (by simp [d])
theorem out_more (f : PFunc) (i : PIn) (n k : Nat) (hb : begBad f i = false) : PEnd (runP f n (begP f i)) ∧ PEnd (runP f (n + k) (begP f i)) ∧ Grow (runP f n (begP f i)) (runP f (n + k) (begP f i)) ∧
  (((runP f n (begP f i)).en ≤ 2 ∨ (runP f n (begP f i)).st < n) → runP f (n + k) (begP f i) = runP f n (begP f i)) := by
 have h0 : PEnd (begP f i) := ⟨fun _ => rfl, by show (0 : Int) ≤ 3 ∧ (3 : Int) ≤ 3; decide⟩
 have h1 := PEnd.runs f n _ h0
 refine ⟨h1, PEnd.runs f (n + k) _ h0, ?_, fun h=>?_⟩
 ·rw [runP_add]; exact run_grow f k _ _ (Grow.refl _)
 ·rw [runP_add]
  refine runP_end f k _ ?_
  rcases h with h | h
  ·cases e : (runP f n (begP f i)).ended with
   | true => rfl
   | false => have := h1.run e; omega
  ·rcases run_st f n (begP f i) with h2 | h2
   ·exact h2
   ·have : (begP f i).st = 0 := rfl
    omega
set_option maxHeartbeats 8000000 in
theorem runMore_law (f : PFunc) (hw : wFunc f) (h64f : ∀ b ∈ f.blocks, ∀ x ∈ b.insts, is64 x.num) (hL : Letters E) (hlv : AFun prog E 4 [] (.bool true)) (i : PIn) (hi64 : in64 i) (hil : i.args.length ≤ 9223372036854775807) (hil2 : i.arrays.length ≤ 9223372036854775807) (m : Int) (hm : 0 ≤ m ∧ m ≤ 65535) (m2 : Int) (hm2 : 0 ≤ m2 ∧ m2 ≤ 65535) : AFun prog E 3 [.agg (encF f), .agg (encIn i), .int .u16 m, .int .u16 m2] (.bool true) := by
 refine zn func3 Z (by decide) Z<|zSr<|zz (cs := _) Z Z Z<|zz (cs := _) Z Z Z<|zVzAb Z<|z6<|zc<|zSr<|zd (hlv) Z<|zVGvnot Z<|zVzMb Z<|za Z Z Z<|zVGvloadWF jp jf Z Z<|za Z Z Z<|zd (fewT_spec f hw) Z<|za Z Z Z<|zVGvnot Z<|zVzPf Z Z Z<|zVzMb Z<|zx (s := 21) Z (fun c1=>?_) (fun c1=>?_)
 ·refine z8 Z Z c1<|z8 Z Z c1<|z8 Z Z c1<|zVzPt Z c1 Z<|z6<|zy Z Z<|zSr<|zd (hlv) Z<|zVzAb Z<|z6<|ze<|zk (x := .bool _) Z ?_
  rfl
 ·have d1 : fewB f = true := by cases h : fewB f; rw [h] at c1; cases c1; rfl
  have hsm := ((fewB_iff f).1 d1).small
  refine za Z Z c1<|zVGvloadWF isAgg30 sizeOf30 Z Z<|za Z Z c1<|zd (smallIn_spec i hil hil2) Z<|za Z Z c1<|zVGvnot Z<|zVzPf Z c1 Z<|z6<|yb Z (fun c2=>?_) (fun c2=>?_)
  ·refine zSr<|zd (hlv) Z<|zVzAb Z<|z6<|ze<|zk (x := .bool _) Z ?_
   rfl
  ·have hsi : smallIn i = true := by simpa using c2
   have hsi2 : i.args.length ≤ 20 ∧ i.arrays.length ≤ 40 := by unfold smallIn at hsi; simp only [q9, decide_eq_true_eq] at hsi; exact ⟨hsi.1, hsi.2.1⟩
   obtain ⟨k, hk⟩ : ∃ k : Nat, m.tmod 1000 = (k : Int) := ⟨(m.tmod 1000).toNat, by have := Int.tmod_nonneg 1000 hm.1; omega⟩
   have hk2 : k ≤ 999 := by have := Int.tmod_lt_of_pos m (show (0 : Int) < 1000 by decide); omega
   obtain ⟨k', hk'⟩ : ∃ k : Nat, m2.tmod 1000 = (k : Int) := ⟨(m2.tmod 1000).toNat, by have := Int.tmod_nonneg 1000 hm2.1; omega⟩
   have hk2' : k' ≤ 999 := by have := Int.tmod_lt_of_pos m2 (show (0 : Int) < 1000 by decide); omega
   have hkw : IntKind.i64.wrap (m.tmod 1000) = (k : Int) := by rw [hk]; unfold IntKind.wrap; simp [IntKind.bits, IntKind.signed]; omega
   have hkw' : IntKind.i64.wrap (m2.tmod 1000) = (k' : Int) := by rw [hk']; unfold IntKind.wrap; simp [IntKind.bits, IntKind.signed]; omega
   have hks : IntKind.i64.wrap (m.tmod 1000) + IntKind.i64.wrap (m2.tmod 1000) = ((k + k' : Nat) : Int) := by rw [hkw, hkw']; omega
   by_cases hb : begBad f i = true
   ·have hA := srun_bad (E := E) f i k hsm hL (by omega) (by omega) hb (by omega)
    have hB := srun_bad (E := E) f i (k + k') hsm hL (by omega) (by omega) hb (by omega)
    rw [← hkw] at hA
    rw [← hks] at hB
    refine zj<|zSr<|zVzMi Z<|z7 (Gv.rem Z Z (by decide))<|z7 (Gv.conv underlying31 Z7 Z)<|zVzMi Z<|z7 (Gv.rem Z Z (by decide))<|z7 (Gv.conv underlying31 Z7 Z)<|zVzAi Z<|zVzAi Z<|z6<|zc<|AWP.cutS (γ := Nat × Nat) [9] (fun g => [(11, .po g.1 0), (12, .po g.2 0)]) (fun g => [(g.1, .cells 40 (encOutP refP)), (g.2, .cells 40 (encOutP refP))]) (fun g => True) ?_ (fun _ _ h => h) ?_
    ·refine zw (fun j => Nat.beq j 12 || Nat.beq j 13) (by kernel_rfl) Z (zr (.rest _))<|zTk 0 Z (yk jp jf Z Z)<|zTk 1 Z (yk isAgg30 sizeOf30 Z Z)<|zTk 2 Z (zMi Z)<|yc (i := 4) Z (by kernel_rfl) (by kernel_rfl) (by kernel_rfl) (by kernel_rfl) (yk jp jf Z Z)<|yc (i := 5) Z (by kernel_rfl) (by kernel_rfl) (by kernel_rfl) (by kernel_rfl) (yk isAgg30 sizeOf30 Z Z)<|yc (i := 6) Z (by kernel_rfl) (by kernel_rfl) (by kernel_rfl) (by kernel_rfl) (zMi Z)<|yc (i := 7) Z (by kernel_rfl) (by kernel_rfl) (by kernel_rfl) (by kernel_rfl) (zMi Z)<|yc (i := 8) Z (by kernel_rfl) (by kernel_rfl) (by kernel_rfl) (by kernel_rfl) (Gv.add Z Z (by rw [hks]; unfold I64; omega))<|AAny.three (i := 3) (j := 10) (m := 11) Z Z Z (by kernel_rfl) ?_ ?_ ?_
     ·refine zd (hA) Z<|z6<|AAny.three (i := 9) (j := 10) (m := 11) Z Z Z (by kernel_rfl) ?_ ?_ ?_
      ·refine zd (hB) Z<|z6<|q2 (i := 10) (j := 11) Z Z (by kernel_rfl) ?_ ?_
       ·refine zo (cs := [.int .i64 0, .int .i64 0, .int .i64 0, .raw (.slice none 0 0), .int .i64 0, .int .i64 0, .int .i64 0, .int .i64 0, .int .i64 0, .int .i64 0, .int .i64 0, .int .i64 0, .int .i64 0]) j7 Z Z<|fun i11 => z6<|zOn 11 Z<|zo (cs := [.int .i64 0, .int .i64 0, .int .i64 0, .raw (.slice none 0 0), .int .i64 0, .int .i64 0, .int .i64 0, .int .i64 0, .int .i64 0, .int .i64 0, .int .i64 0, .int .i64 0, .int .i64 0]) j7 Z Z<|fun i12 => z6<|y8<|zu (i := 12) Z (by kernel_rfl) (by kernel_rfl)<|zg j3 Z Z Z Z Z Z .t1 Z<|z6<|zu (i := 13) Z (by kernel_rfl) (by kernel_rfl)<|zg j3 Z Z Z Z Z Z .head Z<|ye (zh (zm .head))<|ye (zh (zm .t1))<|z6<|ya (by kernel_rfl) ?_
        exact ⟨(i11, i12), zR1, zR2, zLe, trivial⟩
       ·refine zo (cs := [.int .i64 0, .int .i64 0, .int .i64 0, .raw (.slice none 0 0), .int .i64 0, .int .i64 0, .int .i64 0, .int .i64 0, .int .i64 0, .int .i64 0, .int .i64 0, .int .i64 0, .int .i64 0]) j7 Z Z<|fun i12 => z6<|zOn 10 Z<|zo (cs := [.int .i64 0, .int .i64 0, .int .i64 0, .raw (.slice none 0 0), .int .i64 0, .int .i64 0, .int .i64 0, .int .i64 0, .int .i64 0, .int .i64 0, .int .i64 0, .int .i64 0, .int .i64 0]) j7 Z Z<|fun i11 => z6<|y8<|zu (i := 12) Z (by kernel_rfl) (by kernel_rfl)<|zg j3 Z Z Z Z Z Z .head Z<|z6<|zu (i := 13) Z (by kernel_rfl) (by kernel_rfl)<|zg j3 Z Z Z Z Z Z .t1 Z<|z6<|ya (by kernel_rfl) ?_
        exact ⟨(i11, i12), zR1, zR2, zLe, trivial⟩
      ·refine zo (cs := [.int .i64 0, .int .i64 0, .int .i64 0, .raw (.slice none 0 0), .int .i64 0, .int .i64 0, .int .i64 0, .int .i64 0, .int .i64 0, .int .i64 0, .int .i64 0, .int .i64 0, .int .i64 0]) j7 Z Z<|fun i11 => z6<|q2 (i := 9) (j := 11) Z Z (by kernel_rfl) ?_ ?_
       ·refine zd (hB) Z<|z6<|zOn 11 Z<|zo (cs := [.int .i64 0, .int .i64 0, .int .i64 0, .raw (.slice none 0 0), .int .i64 0, .int .i64 0, .int .i64 0, .int .i64 0, .int .i64 0, .int .i64 0, .int .i64 0, .int .i64 0, .int .i64 0]) j7 Z Z<|fun i12 => z6<|y8<|zu (i := 12) Z (by kernel_rfl) (by kernel_rfl)<|zg j3 Z Z Z Z Z Z .t1 Z<|z6<|zu (i := 13) Z (by kernel_rfl) (by kernel_rfl)<|zg j3 Z Z Z Z Z Z .head Z<|ye (zh (zm .head))<|ye (zh (zm .t1))<|z6<|ya (by kernel_rfl) ?_
        exact ⟨(i11, i12), zR1, zR2, zLe, trivial⟩
       ·refine zo (cs := [.int .i64 0, .int .i64 0, .int .i64 0, .raw (.slice none 0 0), .int .i64 0, .int .i64 0, .int .i64 0, .int .i64 0, .int .i64 0, .int .i64 0, .int .i64 0, .int .i64 0, .int .i64 0]) j7 Z Z<|fun i12 => z6<|zOn 9 Z<|zd (hB) Z<|z6<|y8<|zu (i := 12) Z (by kernel_rfl) (by kernel_rfl)<|zg j3 Z Z Z Z Z Z .t1 Z<|z6<|zu (i := 13) Z (by kernel_rfl) (by kernel_rfl)<|zg j3 Z Z Z Z Z Z .head Z<|ye (zh (zm .head))<|ye (zh (zm .t1))<|z6<|ya (by kernel_rfl) ?_
        exact ⟨(i11, i12), zR1, zR2, zLe, trivial⟩
      ·refine zo (cs := [.int .i64 0, .int .i64 0, .int .i64 0, .raw (.slice none 0 0), .int .i64 0, .int .i64 0, .int .i64 0, .int .i64 0, .int .i64 0, .int .i64 0, .int .i64 0, .int .i64 0, .int .i64 0]) j7 Z Z<|fun i12 => z6<|q2 (i := 9) (j := 10) Z Z (by kernel_rfl) ?_ ?_
       ·refine zd (hB) Z<|z6<|zOn 10 Z<|zo (cs := [.int .i64 0, .int .i64 0, .int .i64 0, .raw (.slice none 0 0), .int .i64 0, .int .i64 0, .int .i64 0, .int .i64 0, .int .i64 0, .int .i64 0, .int .i64 0, .int .i64 0, .int .i64 0]) j7 Z Z<|fun i11 => z6<|y8<|zu (i := 12) Z (by kernel_rfl) (by kernel_rfl)<|zg j3 Z Z Z Z Z Z .head Z<|z6<|zu (i := 13) Z (by kernel_rfl) (by kernel_rfl)<|zg j3 Z Z Z Z Z Z .t1 Z<|z6<|ya (by kernel_rfl) ?_
        exact ⟨(i11, i12), zR1, zR2, zLe, trivial⟩
       ·refine zo (cs := [.int .i64 0, .int .i64 0, .int .i64 0, .raw (.slice none 0 0), .int .i64 0, .int .i64 0, .int .i64 0, .int .i64 0, .int .i64 0, .int .i64 0, .int .i64 0, .int .i64 0, .int .i64 0]) j7 Z Z<|fun i11 => z6<|zOn 9 Z<|zd (hB) Z<|z6<|y8<|zu (i := 12) Z (by kernel_rfl) (by kernel_rfl)<|zg j3 Z Z Z Z Z Z .head Z<|z6<|zu (i := 13) Z (by kernel_rfl) (by kernel_rfl)<|zg j3 Z Z Z Z Z Z .t1 Z<|z6<|ya (by kernel_rfl) ?_
        exact ⟨(i11, i12), zR1, zR2, zLe, trivial⟩
     ·refine zo (cs := [.int .i64 0, .int .i64 0, .int .i64 0, .raw (.slice none 0 0), .int .i64 0, .int .i64 0, .int .i64 0, .int .i64 0, .int .i64 0, .int .i64 0, .int .i64 0, .int .i64 0, .int .i64 0]) j7 Z Z<|fun i11 => z6<|q2 (i := 3) (j := 11) Z Z (by kernel_rfl) ?_ ?_
      ·refine zd (hA) Z<|z6<|q2 (i := 9) (j := 11) Z Z (by kernel_rfl) ?_ ?_
       ·refine zd (hB) Z<|z6<|zOn 11 Z<|zo (cs := [.int .i64 0, .int .i64 0, .int .i64 0, .raw (.slice none 0 0), .int .i64 0, .int .i64 0, .int .i64 0, .int .i64 0, .int .i64 0, .int .i64 0, .int .i64 0, .int .i64 0, .int .i64 0]) j7 Z Z<|fun i12 => z6<|y8<|zu (i := 12) Z (by kernel_rfl) (by kernel_rfl)<|zg j3 Z Z Z Z Z Z .t1 Z<|z6<|zu (i := 13) Z (by kernel_rfl) (by kernel_rfl)<|zg j3 Z Z Z Z Z Z .head Z<|ye (zh (zm .head))<|ye (zh (zm .t1))<|z6<|ya (by kernel_rfl) ?_
        exact ⟨(i11, i12), zR1, zR2, zLe, trivial⟩
       ·refine zo (cs := [.int .i64 0, .int .i64 0, .int .i64 0, .raw (.slice none 0 0), .int .i64 0, .int .i64 0, .int .i64 0, .int .i64 0, .int .i64 0, .int .i64 0, .int .i64 0, .int .i64 0, .int .i64 0]) j7 Z Z<|fun i12 => z6<|zOn 9 Z<|zd (hB) Z<|z6<|y8<|zu (i := 12) Z (by kernel_rfl) (by kernel_rfl)<|zg j3 Z Z Z Z Z Z .t1 Z<|z6<|zu (i := 13) Z (by kernel_rfl) (by kernel_rfl)<|zg j3 Z Z Z Z Z Z .head Z<|ye (zh (zm .head))<|ye (zh (zm .t1))<|z6<|ya (by kernel_rfl) ?_
        exact ⟨(i11, i12), zR1, zR2, zLe, trivial⟩
      ·refine zo (cs := [.int .i64 0, .int .i64 0, .int .i64 0, .raw (.slice none 0 0), .int .i64 0, .int .i64 0, .int .i64 0, .int .i64 0, .int .i64 0, .int .i64 0, .int .i64 0, .int .i64 0, .int .i64 0]) j7 Z Z<|fun i12 => z6<|zOn 3 Z<|zd (hA) Z<|z6<|zOn 9 Z<|zd (hB) Z<|z6<|y8<|zu (i := 12) Z (by kernel_rfl) (by kernel_rfl)<|zg j3 Z Z Z Z Z Z .t1 Z<|z6<|zu (i := 13) Z (by kernel_rfl) (by kernel_rfl)<|zg j3 Z Z Z Z Z Z .head Z<|ye (zh (zm .head))<|ye (zh (zm .t1))<|z6<|ya (by kernel_rfl) ?_
       exact ⟨(i11, i12), zR1, zR2, zLe, trivial⟩
     ·refine zo (cs := [.int .i64 0, .int .i64 0, .int .i64 0, .raw (.slice none 0 0), .int .i64 0, .int .i64 0, .int .i64 0, .int .i64 0, .int .i64 0, .int .i64 0, .int .i64 0, .int .i64 0, .int .i64 0]) j7 Z Z<|fun i12 => z6<|q2 (i := 3) (j := 10) Z Z (by kernel_rfl) ?_ ?_
      ·refine zd (hA) Z<|z6<|q2 (i := 9) (j := 10) Z Z (by kernel_rfl) ?_ ?_
       ·refine zd (hB) Z<|z6<|zOn 10 Z<|zo (cs := [.int .i64 0, .int .i64 0, .int .i64 0, .raw (.slice none 0 0), .int .i64 0, .int .i64 0, .int .i64 0, .int .i64 0, .int .i64 0, .int .i64 0, .int .i64 0, .int .i64 0, .int .i64 0]) j7 Z Z<|fun i11 => z6<|y8<|zu (i := 12) Z (by kernel_rfl) (by kernel_rfl)<|zg j3 Z Z Z Z Z Z .head Z<|z6<|zu (i := 13) Z (by kernel_rfl) (by kernel_rfl)<|zg j3 Z Z Z Z Z Z .t1 Z<|z6<|ya (by kernel_rfl) ?_
        exact ⟨(i11, i12), zR1, zR2, zLe, trivial⟩
       ·refine zo (cs := [.int .i64 0, .int .i64 0, .int .i64 0, .raw (.slice none 0 0), .int .i64 0, .int .i64 0, .int .i64 0, .int .i64 0, .int .i64 0, .int .i64 0, .int .i64 0, .int .i64 0, .int .i64 0]) j7 Z Z<|fun i11 => z6<|zOn 9 Z<|zd (hB) Z<|z6<|y8<|zu (i := 12) Z (by kernel_rfl) (by kernel_rfl)<|zg j3 Z Z Z Z Z Z .head Z<|z6<|zu (i := 13) Z (by kernel_rfl) (by kernel_rfl)<|zg j3 Z Z Z Z Z Z .t1 Z<|z6<|ya (by kernel_rfl) ?_
        exact ⟨(i11, i12), zR1, zR2, zLe, trivial⟩
      ·refine zo (cs := [.int .i64 0, .int .i64 0, .int .i64 0, .raw (.slice none 0 0), .int .i64 0, .int .i64 0, .int .i64 0, .int .i64 0, .int .i64 0, .int .i64 0, .int .i64 0, .int .i64 0, .int .i64 0]) j7 Z Z<|fun i11 => z6<|zOn 3 Z<|zd (hA) Z<|z6<|zOn 9 Z<|zd (hB) Z<|z6<|y8<|zu (i := 12) Z (by kernel_rfl) (by kernel_rfl)<|zg j3 Z Z Z Z Z Z .head Z<|z6<|zu (i := 13) Z (by kernel_rfl) (by kernel_rfl)<|zg j3 Z Z Z Z Z Z .t1 Z<|z6<|ya (by kernel_rfl) ?_
       exact ⟨(i11, i12), zR1, zR2, zLe, trivial⟩
    ·rintro ⟨i11, i12⟩ _
     refine zp (yu (t := 11) Z .head)<|zp (yu (t := 12) Z .head)<|zc<|zSr<|zVzFF j4 Z Y6 Z Z<|zVzLi isAgg35 Z<|zVGveqlI Z Z<|z6<|zy Z (by decide)<|zSr<|zVzFF j4 Z Y6 Z Z<|zVzLi isAgg35 Z<|zVGveqlI Z Z<|zVzAb Z<|z6<|ze<|zk (x := .bool _) Z ?_
     rfl
   ·have hb : begBad f i = false := by simpa using hb
    obtain ⟨ct, _, _, _⟩ := begBad_not hb
    have hRR := shaped_run (typedB_shaped ct) h64f
    have hA := srun_good (E := E) f i k hsm hL hb hi64 hRR (by omega)
    have hB := srun_good (E := E) f i (k + k') hsm hL hb hi64 hRR (by omega)
    have hbi := begP_inv hb hi64 hRR
    have hIA := PInv.runs hRR k 0 _ hbi
    have hIB := PInv.runs hRR (k + k') 0 _ hbi
    obtain ⟨hEA, hEB, hG, hsame⟩ := out_more f i k k' hb
    obtain ⟨a, ha⟩ : ∃ a, runP f k (begP f i) = a := ⟨_, rfl⟩
    obtain ⟨b, hbb⟩ : ∃ b, runP f (k + k') (begP f i) = b := ⟨_, rfl⟩
    rw [ha] at hA hIA hEA hG hsame
    rw [hbb] at hB hIB hEB hG hsame
    have hcA : ∀ x ∈ a.ck, 0 ≤ x ∧ x ≤ 1000000 := fun x hx => by have := hIA.c0 x hx; omega
    have hcB : ∀ x ∈ b.ck, 0 ≤ x ∧ x ≤ 1000000 := fun x hx => by have := hIB.c0 x hx; omega
    have hSA := ssum_spec (E := E) a hIA.ck hcA
    have hSB := ssum_spec (E := E) b hIB.ck hcB
    have hna : a.en ≠ 4 := by have := hEA.en; omega
    have hlA := hIA.lt
    have hlB := hIB.lt
    have hSm : a = b → AFun prog E 9 [.agg (encOutP a), .agg (encOutP b)] (.bool true) := fun e => by
     subst e
     rw [encP_eq fun x hx => (hcA x hx).1]
     exact sameO_spec (gsOf a) (by show a.trace.length ≤ _; omega)
    rw [← hkw] at hA
    rw [← hks] at hB
    refine zj<|zSr<|zVzMi Z<|z7 (Gv.rem Z Z (by decide))<|z7 (Gv.conv underlying31 Z7 Z)<|zVzMi Z<|z7 (Gv.rem Z Z (by decide))<|z7 (Gv.conv underlying31 Z7 Z)<|zVzAi Z<|zVzAi Z<|z6<|zc<|AWP.cutS (γ := Nat × Nat) [9] (fun g => [(11, .po g.1 0), (12, .po g.2 0)]) (fun g => [(g.1, .cells 40 (encOutP a)), (g.2, .cells 40 (encOutP b))]) (fun g => True) ?_ (fun _ _ h => h) ?_
    ·refine zw (fun j => Nat.beq j 12 || Nat.beq j 13) (by kernel_rfl) Z (zr (.rest _))<|zTk 0 Z (yk jp jf Z Z)<|zTk 1 Z (yk isAgg30 sizeOf30 Z Z)<|zTk 2 Z (zMi Z)<|yc (i := 4) Z (by kernel_rfl) (by kernel_rfl) (by kernel_rfl) (by kernel_rfl) (yk jp jf Z Z)<|yc (i := 5) Z (by kernel_rfl) (by kernel_rfl) (by kernel_rfl) (by kernel_rfl) (yk isAgg30 sizeOf30 Z Z)<|yc (i := 6) Z (by kernel_rfl) (by kernel_rfl) (by kernel_rfl) (by kernel_rfl) (zMi Z)<|yc (i := 7) Z (by kernel_rfl) (by kernel_rfl) (by kernel_rfl) (by kernel_rfl) (zMi Z)<|yc (i := 8) Z (by kernel_rfl) (by kernel_rfl) (by kernel_rfl) (by kernel_rfl) (Gv.add Z Z (by rw [hks]; unfold I64; omega))<|AAny.three (i := 3) (j := 10) (m := 11) Z Z Z (by kernel_rfl) ?_ ?_ ?_
     ·refine zd (hA) Z<|z6<|AAny.three (i := 9) (j := 10) (m := 11) Z Z Z (by kernel_rfl) ?_ ?_ ?_
      ·refine zd (hB) Z<|z6<|q2 (i := 10) (j := 11) Z Z (by kernel_rfl) ?_ ?_
       ·refine zo (cs := [.int .i64 0, .int .i64 0, .int .i64 0, .raw (.slice none 0 0), .int .i64 0, .int .i64 0, .int .i64 0, .int .i64 0, .int .i64 0, .int .i64 0, .int .i64 0, .int .i64 0, .int .i64 0]) j7 Z Z<|fun i11 => z6<|zOn 11 Z<|zo (cs := [.int .i64 0, .int .i64 0, .int .i64 0, .raw (.slice none 0 0), .int .i64 0, .int .i64 0, .int .i64 0, .int .i64 0, .int .i64 0, .int .i64 0, .int .i64 0, .int .i64 0, .int .i64 0]) j7 Z Z<|fun i12 => z6<|y8<|zu (i := 12) Z (by kernel_rfl) (by kernel_rfl)<|zg j3 Z Z Z Z Z Z .t1 Z<|z6<|zu (i := 13) Z (by kernel_rfl) (by kernel_rfl)<|zg j3 Z Z Z Z Z Z .head Z<|ye (zh (zm .head))<|ye (zh (zm .t1))<|z6<|ya (by kernel_rfl) ?_
        exact ⟨(i11, i12), zR1, zR2, zLe, trivial⟩
       ·refine zo (cs := [.int .i64 0, .int .i64 0, .int .i64 0, .raw (.slice none 0 0), .int .i64 0, .int .i64 0, .int .i64 0, .int .i64 0, .int .i64 0, .int .i64 0, .int .i64 0, .int .i64 0, .int .i64 0]) j7 Z Z<|fun i12 => z6<|zOn 10 Z<|zo (cs := [.int .i64 0, .int .i64 0, .int .i64 0, .raw (.slice none 0 0), .int .i64 0, .int .i64 0, .int .i64 0, .int .i64 0, .int .i64 0, .int .i64 0, .int .i64 0, .int .i64 0, .int .i64 0]) j7 Z Z<|fun i11 => z6<|y8<|zu (i := 12) Z (by kernel_rfl) (by kernel_rfl)<|zg j3 Z Z Z Z Z Z .head Z<|z6<|zu (i := 13) Z (by kernel_rfl) (by kernel_rfl)<|zg j3 Z Z Z Z Z Z .t1 Z<|z6<|ya (by kernel_rfl) ?_
        exact ⟨(i11, i12), zR1, zR2, zLe, trivial⟩
      ·refine zo (cs := [.int .i64 0, .int .i64 0, .int .i64 0, .raw (.slice none 0 0), .int .i64 0, .int .i64 0, .int .i64 0, .int .i64 0, .int .i64 0, .int .i64 0, .int .i64 0, .int .i64 0, .int .i64 0]) j7 Z Z<|fun i11 => z6<|q2 (i := 9) (j := 11) Z Z (by kernel_rfl) ?_ ?_
       ·refine zd (hB) Z<|z6<|zOn 11 Z<|zo (cs := [.int .i64 0, .int .i64 0, .int .i64 0, .raw (.slice none 0 0), .int .i64 0, .int .i64 0, .int .i64 0, .int .i64 0, .int .i64 0, .int .i64 0, .int .i64 0, .int .i64 0, .int .i64 0]) j7 Z Z<|fun i12 => z6<|y8<|zu (i := 12) Z (by kernel_rfl) (by kernel_rfl)<|zg j3 Z Z Z Z Z Z .t1 Z<|z6<|zu (i := 13) Z (by kernel_rfl) (by kernel_rfl)<|zg j3 Z Z Z Z Z Z .head Z<|ye (zh (zm .head))<|ye (zh (zm .t1))<|z6<|ya (by kernel_rfl) ?_
        exact ⟨(i11, i12), zR1, zR2, zLe, trivial⟩
       ·refine zo (cs := [.int .i64 0, .int .i64 0, .int .i64 0, .raw (.slice none 0 0), .int .i64 0, .int .i64 0, .int .i64 0, .int .i64 0, .int .i64 0, .int .i64 0, .int .i64 0, .int .i64 0, .int .i64 0]) j7 Z Z<|fun i12 => z6<|zOn 9 Z<|zd (hB) Z<|z6<|y8<|zu (i := 12) Z (by kernel_rfl) (by kernel_rfl)<|zg j3 Z Z Z Z Z Z .t1 Z<|z6<|zu (i := 13) Z (by kernel_rfl) (by kernel_rfl)<|zg j3 Z Z Z Z Z Z .head Z<|ye (zh (zm .head))<|ye (zh (zm .t1))<|z6<|ya (by kernel_rfl) ?_
        exact ⟨(i11, i12), zR1, zR2, zLe, trivial⟩
      ·refine zo (cs := [.int .i64 0, .int .i64 0, .int .i64 0, .raw (.slice none 0 0), .int .i64 0, .int .i64 0, .int .i64 0, .int .i64 0, .int .i64 0, .int .i64 0, .int .i64 0, .int .i64 0, .int .i64 0]) j7 Z Z<|fun i12 => z6<|q2 (i := 9) (j := 10) Z Z (by kernel_rfl) ?_ ?_
       ·refine zd (hB) Z<|z6<|zOn 10 Z<|zo (cs := [.int .i64 0, .int .i64 0, .int .i64 0, .raw (.slice none 0 0), .int .i64 0, .int .i64 0, .int .i64 0, .int .i64 0, .int .i64 0, .int .i64 0, .int .i64 0, .int .i64 0, .int .i64 0]) j7 Z Z<|fun i11 => z6<|y8<|zu (i := 12) Z (by kernel_rfl) (by kernel_rfl)<|zg j3 Z Z Z Z Z Z .head Z<|z6<|zu (i := 13) Z (by kernel_rfl) (by kernel_rfl)<|zg j3 Z Z Z Z Z Z .t1 Z<|z6<|ya (by kernel_rfl) ?_
        exact ⟨(i11, i12), zR1, zR2, zLe, trivial⟩
       ·refine zo (cs := [.int .i64 0, .int .i64 0, .int .i64 0, .raw (.slice none 0 0), .int .i64 0, .int .i64 0, .int .i64 0, .int .i64 0, .int .i64 0, .int .i64 0, .int .i64 0, .int .i64 0, .int .i64 0]) j7 Z Z<|fun i11 => z6<|zOn 9 Z<|zd (hB) Z<|z6<|y8<|zu (i := 12) Z (by kernel_rfl) (by kernel_rfl)<|zg j3 Z Z Z Z Z Z .head Z<|z6<|zu (i := 13) Z (by kernel_rfl) (by kernel_rfl)<|zg j3 Z Z Z Z Z Z .t1 Z<|z6<|ya (by kernel_rfl) ?_
        exact ⟨(i11, i12), zR1, zR2, zLe, trivial⟩
     ·refine zo (cs := [.int .i64 0, .int .i64 0, .int .i64 0, .raw (.slice none 0 0), .int .i64 0, .int .i64 0, .int .i64 0, .int .i64 0, .int .i64 0, .int .i64 0, .int .i64 0, .int .i64 0, .int .i64 0]) j7 Z Z<|fun i11 => z6<|q2 (i := 3) (j := 11) Z Z (by kernel_rfl) ?_ ?_
      ·refine zd (hA) Z<|z6<|q2 (i := 9) (j := 11) Z Z (by kernel_rfl) ?_ ?_
       ·refine zd (hB) Z<|z6<|zOn 11 Z<|zo (cs := [.int .i64 0, .int .i64 0, .int .i64 0, .raw (.slice none 0 0), .int .i64 0, .int .i64 0, .int .i64 0, .int .i64 0, .int .i64 0, .int .i64 0, .int .i64 0, .int .i64 0, .int .i64 0]) j7 Z Z<|fun i12 => z6<|y8<|zu (i := 12) Z (by kernel_rfl) (by kernel_rfl)<|zg j3 Z Z Z Z Z Z .t1 Z<|z6<|zu (i := 13) Z (by kernel_rfl) (by kernel_rfl)<|zg j3 Z Z Z Z Z Z .head Z<|ye (zh (zm .head))<|ye (zh (zm .t1))<|z6<|ya (by kernel_rfl) ?_
        exact ⟨(i11, i12), zR1, zR2, zLe, trivial⟩
       ·refine zo (cs := [.int .i64 0, .int .i64 0, .int .i64 0, .raw (.slice none 0 0), .int .i64 0, .int .i64 0, .int .i64 0, .int .i64 0, .int .i64 0, .int .i64 0, .int .i64 0, .int .i64 0, .int .i64 0]) j7 Z Z<|fun i12 => z6<|zOn 9 Z<|zd (hB) Z<|z6<|y8<|zu (i := 12) Z (by kernel_rfl) (by kernel_rfl)<|zg j3 Z Z Z Z Z Z .t1 Z<|z6<|zu (i := 13) Z (by kernel_rfl) (by kernel_rfl)<|zg j3 Z Z Z Z Z Z .head Z<|ye (zh (zm .head))<|ye (zh (zm .t1))<|z6<|ya (by kernel_rfl) ?_
        exact ⟨(i11, i12), zR1, zR2, zLe, trivial⟩
      ·refine zo (cs := [.int .i64 0, .int .i64 0, .int .i64 0, .raw (.slice none 0 0), .int .i64 0, .int .i64 0, .int .i64 0, .int .i64 0, .int .i64 0, .int .i64 0, .int .i64 0, .int .i64 0, .int .i64 0]) j7 Z Z<|fun i12 => z6<|zOn 3 Z<|zd (hA) Z<|z6<|zOn 9 Z<|zd (hB) Z<|z6<|y8<|zu (i := 12) Z (by kernel_rfl) (by kernel_rfl)<|zg j3 Z Z Z Z Z Z .t1 Z<|z6<|zu (i := 13) Z (by kernel_rfl) (by kernel_rfl)<|zg j3 Z Z Z Z Z Z .head Z<|ye (zh (zm .head))<|ye (zh (zm .t1))<|z6<|ya (by kernel_rfl) ?_
       exact ⟨(i11, i12), zR1, zR2, zLe, trivial⟩
     ·refine zo (cs := [.int .i64 0, .int .i64 0, .int .i64 0, .raw (.slice none 0 0), .int .i64 0, .int .i64 0, .int .i64 0, .int .i64 0, .int .i64 0, .int .i64 0, .int .i64 0, .int .i64 0, .int .i64 0]) j7 Z Z<|fun i12 => z6<|q2 (i := 3) (j := 10) Z Z (by kernel_rfl) ?_ ?_
      ·refine zd (hA) Z<|z6<|q2 (i := 9) (j := 10) Z Z (by kernel_rfl) ?_ ?_
       ·refine zd (hB) Z<|z6<|zOn 10 Z<|zo (cs := [.int .i64 0, .int .i64 0, .int .i64 0, .raw (.slice none 0 0), .int .i64 0, .int .i64 0, .int .i64 0, .int .i64 0, .int .i64 0, .int .i64 0, .int .i64 0, .int .i64 0, .int .i64 0]) j7 Z Z<|fun i11 => z6<|y8<|zu (i := 12) Z (by kernel_rfl) (by kernel_rfl)<|zg j3 Z Z Z Z Z Z .head Z<|z6<|zu (i := 13) Z (by kernel_rfl) (by kernel_rfl)<|zg j3 Z Z Z Z Z Z .t1 Z<|z6<|ya (by kernel_rfl) ?_
        exact ⟨(i11, i12), zR1, zR2, zLe, trivial⟩
       ·refine zo (cs := [.int .i64 0, .int .i64 0, .int .i64 0, .raw (.slice none 0 0), .int .i64 0, .int .i64 0, .int .i64 0, .int .i64 0, .int .i64 0, .int .i64 0, .int .i64 0, .int .i64 0, .int .i64 0]) j7 Z Z<|fun i11 => z6<|zOn 9 Z<|zd (hB) Z<|z6<|y8<|zu (i := 12) Z (by kernel_rfl) (by kernel_rfl)<|zg j3 Z Z Z Z Z Z .head Z<|z6<|zu (i := 13) Z (by kernel_rfl) (by kernel_rfl)<|zg j3 Z Z Z Z Z Z .t1 Z<|z6<|ya (by kernel_rfl) ?_
        exact ⟨(i11, i12), zR1, zR2, zLe, trivial⟩
      ·refine zo (cs := [.int .i64 0, .int .i64 0, .int .i64 0, .raw (.slice none 0 0), .int .i64 0, .int .i64 0, .int .i64 0, .int .i64 0, .int .i64 0, .int .i64 0, .int .i64 0, .int .i64 0, .int .i64 0]) j7 Z Z<|fun i11 => z6<|zOn 3 Z<|zd (hA) Z<|z6<|zOn 9 Z<|zd (hB) Z<|z6<|y8<|zu (i := 12) Z (by kernel_rfl) (by kernel_rfl)<|zg j3 Z Z Z Z Z Z .head Z<|z6<|zu (i := 13) Z (by kernel_rfl) (by kernel_rfl)<|zg j3 Z Z Z Z Z Z .t1 Z<|z6<|ya (by kernel_rfl) ?_
       exact ⟨(i11, i12), zR1, zR2, zLe, trivial⟩
    ·rintro ⟨i11, i12⟩ _
     refine zp (yu (t := 11) Z .head)<|zp (yu (t := 12) Z .head)<|zc<|zSr<|zVzFF j4 Z Y6 Z Z<|zVzLi isAgg35 Z<|zVGveqlI Z Z<|z6<|zb Z (by simpa using hna)<|zj<|zc<|zSr<|zVGvloadWF Zk j3 Z Z<|zd (sended_spec a) Z<|zVzMb Z<|zx (s := 51) Z (fun c3=>?_) (fun c3=>?_)
     ·have d3 : 0 ≤ a.en ∧ a.en ≤ 2 := by simpa using c3
      have hab := (hsame (.inl d3.2)).symm
      refine z8 Z Z c3<|z8 Z Z c3<|z8 Z Z c3<|z8 Z Z c3<|zVzPt Z c3 Z<|z6<|zy Z Z<|zSr<|zVGvloadWF Zk j3 Z Z<|zVGvloadWF Zk j3 Z Z<|zd (hSm hab) Z<|zVzAb Z<|z6<|ze<|zk (x := .bool _) Z ?_
      rfl
     ·have d3 : ¬ a.en ≤ 2 := fun h => by have := hEA.en; simp at c3; omega
      refine za Z Z c3<|zVzFF j4 Z j6 Z Z<|za Z Z c3<|zVzLi je Z<|za Z Z c3<|zVzMi Z<|za Z Z c3<|zVGvlss Z Z<|zVzPf Z c3 Z<|z6<|y9 Z (fun c4=>?_) (fun c4=>?_)
      ·have c4 : (a.st : Int) < IntKind.i64.wrap (m.tmod 1000) := by simpa using c4
       have hab := (hsame (.inr (by rw [hkw] at c4; omega))).symm
       refine zSr<|zVGvloadWF Zk j3 Z Z<|zVGvloadWF Zk j3 Z Z<|zd (hSm hab) Z<|zVzAb Z<|z6<|ze<|zk (x := .bool _) Z ?_
       rfl
      ·have hpre := hG.tr.length_le
       have hst := hG.st
       have hck := hG.ck
       refine zj<|zc<|zc<|zw (fun j => false) (by kernel_rfl) Z (zr (.rest _))<|zTk 0 Z (zFF j4 Z Z0 Z Z)<|zTk 1 Z (zLf Zg Z)<|zTk 2 Z (Gv.lenM ji Z)<|zTk 3 Z (zFF j4 Z Z0 Z Z)<|zTk 4 Z (zLf Zg Z)<|zTk 5 Z (Gv.lenM ji Z)<|zTk 6 Z (Gv.lss Z Z)<|zTk 7 Z (zMb Z)<|zTt 8 Z Z Z (by simp; omega) (zFF j4 Z j6 Z Z)<|zTt 9 Z Z Z (by simp; omega) (zLi je Z)<|zTt 10 Z Z Z (by simp; omega) (zFF j4 Z j6 Z Z)<|zTt 11 Z Z Z (by simp; omega) (zLi je Z)<|zTt 12 Z Z Z (by simp; omega) (Gv.lss Z Z)<|zTk 13 Z (zPf Z (by simp; omega) Z)<|zTk 14 Z (zMb Z)<|zTt 15 Z Z Z (by simp; omega) (yk Zk j3 Z Z)<|zTt 17 Z Z Z (by simp; omega) (yk Zk j3 Z Z)<|zOn 16 Z<|za Z Z (by simp; omega)<|zd (hSB) Z<|z6<|zOn 18 Z<|za Z Z (by simp; omega)<|zd (hSA) Z<|z6<|zTt 19 Z Z Z (by simp; omega) (Gv.lss Z Z)<|zTk 20 Z (zPf Z (by simp; omega) Z)<|zDn<|zb Z (by simp; omega)<|zj<|zc<|zSr<|zVzFF j4 Z Z0 Z Z<|zVzLf Zg Z<|zVGvlenM ji Z<|zVzMi Z<|z6 ?_
       refine zi<|yg (γ := Nat) [11, 12, 83] (fun j => [(84, .int .i64 j)]) (fun j => []) (fun j => j ≤ a.trace.length) (fun j => a.trace.length - j) 0 zR1 zLe (q5 _) ?_
       rintro j hj
       refine zSr<|zVGvlss Z Z<|z6<|zc<|y9 Z (fun cj=>?_) (fun cj=>?_)
       ·have hj2 : j < a.trace.length := by simp at cj; omega
        obtain ⟨v, hv⟩ : ∃ v, a.trace[j]? = some v := ⟨_, q3 hj2⟩
        have hv2 : b.trace[j]? = some v := by
         obtain ⟨t, ht⟩ := hG.tr
         rw [← ht, List.getElem?_append_left hj2]; exact hv
        refine zj<|zc<|zi<|zSr<|zVzMi Z<|zVzAi Z<|z6<|zc<|zw (fun j => false) (by kernel_rfl) Z (zr (.rest _))<|zTk 0 Z (zFF j4 Z Z0 Z Z)<|zTk 1 Z (zLf Zg Z)<|zTk 2 Z (zMi Z)<|zTk 3 Z (zIM j ji jm Z Z Z hv)<|zTk 4 Z (zLi Z5 Z)<|zTk 5 Z (zFF j4 Z Z0 Z Z)<|zTk 6 Z (zLf Zg Z)<|zTk 7 Z (zMi Z)<|zTk 8 Z (zIM j ji jm Z Z Z hv2)<|zTk 9 Z (zLi Z5 Z)<|zTk 10 Z (yq Z Z)<|zDn<|zb Z (by simp)<|zj<|zRg<|zVzAd Z Z<|zVzMi Z<|z6 ?_
        exact ⟨j + 1, zR3, zR1, zLe, hj2, by omega⟩
       ·refine yf<|zSr<|zVzAb Z<|z6<|ze<|zk (x := .bool _) Z ?_
        rfl
end Go.Proofs.YtoicilchhkndmaaGreatDoor
namespace Go.Proofs.YtoicilchhkndmaaGreatDoor
open Go.Proofs.Tryz
inductive Tr (α : Type) where
 | lf
 | nd (v : Option α) (l r : Tr α)
 deriving Inhabited
section
variable {α : Type}
def Tr.get : Tr α → Nat → Option α
 | .lf, _ => none
 | .nd v l r, k => bif Nat.beq k 0 then v else bif Nat.beq (k % 2) 1 then l.get (k / 2) else r.get (k / 2 - 1)
def Tr.setF : Nat → Tr α → Nat → Option α → Tr α
 | 0, t, _, _ => t
 | n + 1, .lf, k, v => bif Nat.beq k 0 then .nd v .lf .lf else bif Nat.beq (k % 2) 1 then .nd none (setF n .lf (k / 2) v) .lf else .nd none .lf (setF n .lf (k / 2 - 1) v)
 | n + 1, .nd u l r, k, v => bif Nat.beq k 0 then .nd v l r else bif Nat.beq (k % 2) 1 then .nd u (setF n l (k / 2) v) r else .nd u l (setF n r (k / 2 - 1) v)
def Tr.set (t : Tr α) (k : Nat) (v : Option α) : Tr α := t.setF (k + 1) k v
theorem beq_ite {β : Type} (a b : Nat) (x y : β) : (bif Nat.beq a b then x else y) = if a = b then x else y := by
 by_cases h : a = b
 ·rw [if_pos h, h, show Nat.beq b b = true from Nat.beq_refl b]; rfl
 ·rw [if_neg h, show Nat.beq a b = false from by cases e : Nat.beq a b <;> simp_all]; rfl
theorem Tr.get_lf (k : Nat) : (Tr.lf : Tr α).get k = none := rfl
theorem Tr.get_setF : ∀ (n : Nat) (t : Tr α) (k : Nat) (v : Option α) (j : Nat), k < n → (t.setF n k v).get j = if j = k then v else t.get j
 | 0, _, _, _, _, h => absurd h (Nat.not_lt_zero _)
 | n + 1, .lf, k, v, j, h => by
  unfold Tr.setF
  simp only [beq_ite]
  by_cases h0 : k = 0
  ·rw [if_pos h0]; subst h0
   unfold Tr.get
   simp only [beq_ite, Tr.get_lf]
   by_cases j0 : j = 0
   ·rw [if_pos j0, if_pos j0]
   ·rw [if_neg j0, if_neg j0]; simp
  ·rw [if_neg h0]
   by_cases h1 : k % 2 = 1
   ·rw [if_pos h1]
    unfold Tr.get
    simp only [beq_ite, Tr.get_lf]
    rw [Tr.get_setF n .lf (k / 2) v (j / 2) (by omega)]
    by_cases j0 : j = 0
    ·rw [if_pos j0, if_neg (by omega)]
    ·rw [if_neg j0]
     by_cases j1 : j % 2 = 1
     ·rw [if_pos j1]
      by_cases e : j = k
      ·rw [if_pos e, if_pos (by omega)]
      ·rw [if_neg e, if_neg (by omega)]; rfl
     ·rw [if_neg j1, if_neg (by omega)]
   ·rw [if_neg h1]
    unfold Tr.get
    simp only [beq_ite, Tr.get_lf]
    rw [Tr.get_setF n .lf (k / 2 - 1) v (j / 2 - 1) (by omega)]
    by_cases j0 : j = 0
    ·rw [if_pos j0, if_neg (by omega)]
    ·rw [if_neg j0]
     by_cases j1 : j % 2 = 1
     ·rw [if_pos j1, if_neg (by omega)]
     ·rw [if_neg j1]
      by_cases e : j = k
      ·rw [if_pos e, if_pos (by omega)]
      ·rw [if_neg e, if_neg (by omega)]; rfl
 | n + 1, .nd u l r, k, v, j, h => by
  unfold Tr.setF
  simp only [beq_ite]
  by_cases h0 : k = 0
  ·rw [if_pos h0]; subst h0
   unfold Tr.get
   simp only [beq_ite]
   by_cases j0 : j = 0
   ·rw [if_pos j0, if_pos j0]
   ·rw [if_neg j0, if_neg j0, if_neg j0]
  ·rw [if_neg h0]
   by_cases h1 : k % 2 = 1
   ·rw [if_pos h1]
    unfold Tr.get
    simp only [beq_ite]
    rw [Tr.get_setF n l (k / 2) v (j / 2) (by omega)]
    by_cases j0 : j = 0
    ·rw [if_pos j0, if_neg (by omega), if_pos j0]
    ·rw [if_neg j0, if_neg j0]
     by_cases j1 : j % 2 = 1
     ·rw [if_pos j1, if_pos j1]
      by_cases e : j = k
      ·rw [if_pos e, if_pos (by omega)]
      ·rw [if_neg e, if_neg (by omega)]
     ·rw [if_neg j1, if_neg (by omega), if_neg j1]
   ·rw [if_neg h1]
    unfold Tr.get
    simp only [beq_ite]
    rw [Tr.get_setF n r (k / 2 - 1) v (j / 2 - 1) (by omega)]
    by_cases j0 : j = 0
    ·rw [if_pos j0, if_neg (by omega), if_pos j0]
    ·rw [if_neg j0, if_neg j0]
     by_cases j1 : j % 2 = 1
     ·rw [if_pos j1, if_neg (by omega), if_pos j1]
     ·rw [if_neg j1, if_neg j1]
      by_cases e : j = k
      ·rw [if_pos e, if_pos (by omega)]
      ·rw [if_neg e, if_neg (by omega)]
theorem Tr.get_set (t : Tr α) (k : Nat) (v : Option α) (j : Nat) : (t.set k v).get j = if j = k then v else t.get j := Tr.get_setF _ _ _ _ _ (by omega)
end
inductive Cp where
 | ex (m : Nat)
 | en
 | un
inductive EV where
 | u
 | b (x : Bool)
 | i (k : IntKind) (n : Int)
 | s (x : ByteArray)
 | np
 | p (b off : Nat)
 | ns
 | sl (b off n k : Nat) (c : Cp)
 | ag (l : List EV)
 | tu (l : List EV)
 | fn (f : Nat) (a c : List EV)
 | nf
 | ifc (t : Nat) (v : EV)
 | ni
 | m (b : Nat)
 | nm
instance : Inhabited EV := ⟨.u⟩
structure PBk where
 r : Nat
 sh : Nat
 κ : Nat
abbrev Phi := Nat → Option PBk
def Phi.le (φ ψ : Phi) : Prop := ∀ b q, φ b = some q → ψ b = some q
theorem Phi.le.refl (φ : Phi) : φ.le φ := fun _ _ h => h
theorem Phi.le.trans {φ ψ χ : Phi} (h : φ.le ψ) (k : ψ.le χ) : φ.le χ := fun b q e => k b q (h b q e)
def Phi.put (φ : Phi) (b : Nat) (q : PBk) : Phi := fun x => if x = b then some q else φ x
theorem Phi.put_same (φ : Phi) (b : Nat) (q : PBk) : φ.put b q b = some q := if_pos rfl
theorem Phi.le_put {φ : Phi} {b : Nat} (h : φ b = none) (q : PBk) : φ.le (φ.put b q) := fun x q' e => by
 unfold Phi.put; split
 ·rename_i e'; subst e'; rw [h] at e; cases e
 ·exact e
def CapR (q : PBk) (off k : Nat) : Cp → Nat → Prop
 | .ex m, cap => cap = m
 | .en, cap => q.sh + off + cap * k = q.κ
 | .un, _ => True
mutual
def RelV (φ : Phi) : EV → Value → Prop
 | .u, _ => True
 | .b x, v => v = .bool x
 | .i k n, v => v = .int k n
 | .s x, v => v = .string x
 | .np, v => v = .pointer none
 | .p b off, v => ∃ q, φ b = some q ∧ v = .pointer (some ⟨q.r, q.sh + off, none⟩)
 | .ns, v => v = .slice none 0 0
 | .sl b off n k c, v => ∃ q o cap, φ b = some q ∧ v = .slice (some ⟨q.r, o, none⟩) n cap ∧ n ≤ cap ∧ (cap ≠ 0 → o = q.sh + off) ∧ CapR q off k c cap
 | .ag l, v => ∃ vs : List Value, v = .agg vs.toArray ∧ RelVs φ l vs
 | .tu l, v => ∃ vs : List Value, v = .tuple vs.toArray ∧ RelVs φ l vs
 | .fn f a c, v => ∃ vs us : List Value, v = .func (.func f) vs.toArray us.toArray ∧ RelVs φ a vs ∧ RelVs φ c us
 | .nf, v => v = .nilFunc
 | .ifc t x, v => ∃ u, v = .iface t u ∧ RelV φ x u
 | .ni, v => v = .nilIface
 | .m b, v => ∃ q, φ b = some q ∧ v = .map (some q.r)
 | .nm, v => v = .map none
def RelVs (φ : Phi) : List EV → List Value → Prop
 | [], vs => vs = []
 | x :: xs, vs => ∃ v us, vs = v :: us ∧ RelV φ x v ∧ RelVs φ xs us
end
mutual
theorem RelV.mono {φ ψ : Phi} (h : φ.le ψ) : ∀ (x : EV) (v : Value), RelV φ x v → RelV ψ x v
 | .u, _, _ => trivial
 | .b _, _, e => e
 | .i _ _, _, e => e
 | .s _, _, e => e
 | .np, _, e => e
 | .p _ _, _, ⟨q, a, e⟩ => ⟨q, h _ _ a, e⟩
 | .ns, _, e => e
 | .sl _ _ _ _ _, _, ⟨q, o, cap, a, e⟩ => ⟨q, o, cap, h _ _ a, e⟩
 | .ag l, _, ⟨vs, e, k⟩ => ⟨vs, e, RelVs.mono h l vs k⟩
 | .tu l, _, ⟨vs, e, k⟩ => ⟨vs, e, RelVs.mono h l vs k⟩
 | .fn _ a c, _, ⟨vs, us, e, k1, k2⟩ => ⟨vs, us, e, RelVs.mono h a vs k1, RelVs.mono h c us k2⟩
 | .nf, _, e => e
 | .ifc _ x, _, ⟨u, e, k⟩ => ⟨u, e, RelV.mono h x u k⟩
 | .ni, _, e => e
 | .m _, _, ⟨q, a, e⟩ => ⟨q, h _ _ a, e⟩
 | .nm, _, e => e
theorem RelVs.mono {φ ψ : Phi} (h : φ.le ψ) : ∀ (x : List EV) (v : List Value), RelVs φ x v → RelVs ψ x v
 | [], _, e => e
 | x :: xs, _, ⟨v, us, e, h1, h2⟩ => ⟨v, us, e, RelV.mono h x v h1, RelVs.mono h xs us h2⟩
end
section
variable {φ ψ : Phi}
theorem RelVs.length : ∀ {xs : List EV} {vs : List Value}, RelVs φ xs vs → vs.length = xs.length
 | [], _, e => by simp [RelVs] at e; simp [e]
 | x :: xs, _, ⟨v, us, e, _, h2⟩ => by subst e; simp [RelVs.length h2]
theorem RelVs.get : ∀ {xs : List EV} {vs : List Value}, RelVs φ xs vs → ∀ {j : Nat} {x : EV}, xs[j]? = some x → ∃ v, vs[j]? = some v ∧ RelV φ x v
 | [], _, _, j, x, hj => by simp at hj
 | y :: ys, _, ⟨v, us, e, h1, h2⟩, j, x, hj => by
  subst e
  cases j with
  | zero => simp at hj; subst hj; exact ⟨v, rfl, h1⟩
  | succ j => simp at hj; simpa using RelVs.get h2 hj
theorem RelVs.take : ∀ {xs : List EV} {vs : List Value}, RelVs φ xs vs → ∀ n, RelVs φ (xs.take n) (vs.take n)
 | [], _, e, n => by simp [RelVs] at e; simp [e, RelVs]
 | y :: ys, _, ⟨v, us, e, h1, h2⟩, n => by
  subst e
  cases n with
  | zero => simp [RelVs]
  | succ n => exact ⟨v, us.take n, by simp, h1, RelVs.take h2 n⟩
theorem RelVs.drop : ∀ {xs : List EV} {vs : List Value}, RelVs φ xs vs → ∀ n, RelVs φ (xs.drop n) (vs.drop n)
 | [], _, e, n => by simp [RelVs] at e; simp [e, RelVs]
 | y :: ys, _, ⟨v, us, e, h1, h2⟩, n => by
  subst e
  cases n with
  | zero => exact ⟨v, us, rfl, h1, h2⟩
  | succ n => simpa using RelVs.drop h2 n
theorem RelVs.append : ∀ {xs ys : List EV} {vs us : List Value}, RelVs φ xs vs → RelVs φ ys us → RelVs φ (xs ++ ys) (vs ++ us)
 | [], _, _, _, e, h => by simp [RelVs] at e; simpa [e] using h
 | y :: ys, _, _, _, ⟨v, us, e, h1, h2⟩, h => by subst e; exact ⟨v, _, rfl, h1, RelVs.append h2 h⟩
theorem RelVs.one {x : EV} {v : Value} (h : RelV φ x v) : RelVs φ [x] [v] := ⟨v, [], rfl, h, rfl⟩
def EV.cell : EV → Bool
 | .u | .ag _ | .tu _ => false
 | _ => true
theorem EV.cell_rel {x : EV} {v : Value} (h : RelV φ x v) (hc : x.cell = true) : v.oneCell' = true := by
 cases x <;> simp only [RelV, EV.cell] at h hc
 all_goals first
  | (cases hc; done)
  | (subst h; rfl)
  | (obtain ⟨_, _, _, _, e, _⟩ := h; subst e; rfl)
  | (obtain ⟨_, _, e, _⟩ := h; subst e; rfl)
  | (obtain ⟨_, e, _⟩ := h; subst e; rfl)
  | (obtain ⟨_, _, e⟩ := h; subst e; rfl)
theorem EV.cells_rel {xs : List EV} {vs : List Value} (h : RelVs φ xs vs) (hc : xs.all EV.cell = true) : ∀ u ∈ vs, u.oneCell' = true := by
 intro u hu
 obtain ⟨j, hj⟩ := List.getElem?_of_mem hu
 have hlt := (List.getElem?_eq_some_iff.1 hj).1
 rw [h.length] at hlt
 obtain ⟨v, hv, hr⟩ := h.get (q3 hlt)
 rw [hj] at hv; cases hv
 exact EV.cell_rel hr (List.all_eq_true.1 hc _ (q6 hlt))
def EV.cs : EV → List EV
 | .ag l => l
 | x => [x]
def EV.sto : EV → Bool
 | .u | .tu _ => false
 | _ => true
theorem EV.cs_rel {x : EV} {v : Value} (h : RelV φ x v) (hs : x.sto = true) : RelVs φ x.cs v.cells.toList := by
 cases x <;> simp only [EV.sto] at hs
 all_goals first
  | (cases hs; done)
  | (obtain ⟨vs, rfl, h2⟩ := h; simpa [EV.cs, Value.cells] using h2)
  | skip
 all_goals (
  have hc := EV.cell_rel h rfl
  have hv : v.cells = #[v] := by cases v <;> first | rfl | (simp [Value.oneCell'] at hc)
  rw [hv]; exact RelVs.one h)
end
inductive VO where
 | cells (ex : Bool) (cs : List EV)
 | kn (cs : List EV)
 | it (s : ByteArray) (p : Nat)
 | mp (es : List (EV × EV))
abbrev Hp := Tr VO
def RelE2 (φ : Phi) : List (EV × EV) → List MapEntry → Prop
 | [], es => es = []
 | x :: xs, es => ∃ e r, es = e :: r ∧ RelV φ x.1 e.key ∧ RelV φ x.2 e.val ∧ RelE2 φ xs r
theorem RelE2.mono {φ ψ : Phi} (h : φ.le ψ) : ∀ {x : List (EV × EV)} {v : List MapEntry}, RelE2 φ x v → RelE2 ψ x v
 | [], _, e => e
 | _ :: _, _, ⟨e, r, a, b, c, d⟩ => ⟨e, r, a, b.mono h, c.mono h, RelE2.mono h d⟩
def RepB (I : Ghost) (φ : Phi) (k : Nat) (o : VO) (A : List (Nat × Obj)) : Prop :=
 match o with
 | .cells ex cs => ∃ q T vs junk, φ k = some q ∧ q.sh = 0 ∧ RelVs φ cs vs ∧ (∀ u ∈ vs ++ junk, u.oneCell' = true) ∧ (vs ++ junk).length = q.κ ∧ (ex = true → junk = []) ∧ A = [(q.r, .cells (vs ++ junk).toArray T (0, 0))]
 | .kn cs => ∃ q vs, φ k = some q ∧ RelVs φ cs vs ∧ (∀ u ∈ vs, u.oneCell' = true) ∧ (∀ (j : Nat) u, vs[j]? = some u → KAt I q.r (q.sh + j) u) ∧ A = []
 | .it s p => ∃ q, φ k = some q ∧ q.sh = 0 ∧ A = [(q.r, .stringIter s p)]
 | .mp es => ∃ q ms clock, φ k = some q ∧ RelE2 φ es ms ∧ A = [(q.r, .map ms.toArray clock)]
theorem RepB.mono {I J : Ghost} {φ ψ : Phi} (hI : I.le J) (h : φ.le ψ) {k : Nat} {o : VO} {A : List (Nat × Obj)} (hb : RepB I φ k o A) : RepB J ψ k o A := by
 cases o <;> simp only [RepB] at *
 ·obtain ⟨q, T, vs, junk, h1, h2, h3, h4⟩ := hb; exact ⟨q, T, vs, junk, h _ _ h1, h2, h3.mono h, h4⟩
 ·obtain ⟨q, vs, h1, h2, h3, h4, h5⟩ := hb; exact ⟨q, vs, h _ _ h1, h2.mono h, h3, fun j u e => (h4 j u e).mono hI, h5⟩
 ·obtain ⟨q, h1, h2⟩ := hb; exact ⟨q, h _ _ h1, h2⟩
 ·obtain ⟨q, ms, c, h1, h2, h3⟩ := hb; exact ⟨q, ms, c, h _ _ h1, h2.mono h, h3⟩
theorem RepB.phi {I : Ghost} {φ : Phi} {k : Nat} {o : VO} {A : List (Nat × Obj)} (hb : RepB I φ k o A) : ∃ q, φ k = some q := by
 cases o <;> simp only [RepB] at hb
 ·obtain ⟨q, T, vs, junk, h1, _⟩ := hb; exact ⟨q, h1⟩
 ·obtain ⟨q, vs, h1, _⟩ := hb; exact ⟨q, h1⟩
 ·obtain ⟨q, h1, _⟩ := hb; exact ⟨q, h1⟩
 ·obtain ⟨q, ms, c, h1, _⟩ := hb; exact ⟨q, h1⟩
def RepM (I : Ghost) (φ : Phi) : List (Nat × VO) → List (Nat × Obj) → Prop
 | [], L => L = []
 | x :: xs, L => ∃ A B, L = A ++ B ∧ RepB I φ x.1 x.2 A ∧ RepM I φ xs B
theorem RepM.mono {I J : Ghost} {φ ψ : Phi} (hI : I.le J) (h : φ.le ψ) : ∀ {M : List (Nat × VO)} {L : List (Nat × Obj)}, RepM I φ M L → RepM J ψ M L
 | [], _, e => e
 | _ :: _, _, ⟨A, B, e, h1, h2⟩ => ⟨A, B, e, h1.mono hI h, RepM.mono hI h h2⟩
theorem RepM.perm {I : Ghost} {φ : Phi} {M M' : List (Nat × VO)} (h : M.Perm M') : ∀ {L}, RepM I φ M L → ∃ L', RepM I φ M' L' ∧ L.Perm L' := by
 induction h with
 | nil => exact fun h => ⟨_, h, .refl _⟩
 | cons x _ ih =>
  rintro L ⟨A, B, rfl, h1, h2⟩
  obtain ⟨B', h3, h4⟩ := ih h2
  exact ⟨A ++ B', ⟨A, B', rfl, h1, h3⟩, h4.append_left A⟩
 | swap x y _ =>
  rintro L ⟨A, B, rfl, h1, C, D, rfl, h2, h3⟩
  exact ⟨C ++ (A ++ D), ⟨C, A ++ D, rfl, h2, A, D, rfl, h1, h3⟩, by
   rw [← List.append_assoc, ← List.append_assoc]
   exact List.perm_append_comm.append_right D⟩
 | trans _ _ ih1 ih2 =>
  intro L h
  obtain ⟨L1, h1, p1⟩ := ih1 h
  obtain ⟨L2, h2, p2⟩ := ih2 h1
  exact ⟨L2, h2, p1.trans p2⟩
theorem RepM.phi {I : Ghost} {φ : Phi} : ∀ {M : List (Nat × VO)} {L : List (Nat × Obj)}, RepM I φ M L → ∀ x ∈ M, ∃ q, φ x.1 = some q
 | _ :: _, _, ⟨_, _, _, h1, h2⟩, x, hx => by
  rcases List.mem_cons.1 hx with rfl | hx
  ·exact h1.phi
  ·exact RepM.phi h2 x hx
def Rest (I : Ghost) (φ : Phi) (H : Hp) (k : Nat) (L : List (Nat × Obj)) : Prop :=
 ∃ M, (M.map (·.1)).Nodup ∧ (∀ j o, (j, o) ∈ M ↔ j ≠ k ∧ H.get j = some o) ∧ RepM I φ M L
structure Rel (I : Ghost) (φ : Phi) (H : Hp) (nx : Nat) (F : List (Nat × Obj)) (E w : World) : Prop where
 top : ∀ j, nx ≤ j → φ j = none
 ex : ∃ M L, (M.map (·.1)).Nodup ∧ (∀ j o, (j, o) ∈ M ↔ H.get j = some o) ∧ RepM I φ M L ∧ SL I (L ++ F) E w
section
variable {I J : Ghost} {φ ψ : Phi} {H : Hp} {nx : Nat} {F : List (Nat × Obj)} {E w : World} {k : Nat} {o : VO} {L A : List (Nat × Obj)}
theorem Rest.mono (hI : I.le J) (h : φ.le ψ) (hr : Rest I φ H k L) : Rest J ψ H k L := let ⟨M, a, b, c⟩ := hr; ⟨M, a, b, c.mono hI h⟩
theorem Rel.pick (h : Rel I φ H nx F E w) (hk : H.get k = some o) : ∃ A L, RepB I φ k o A ∧ Rest I φ H k L ∧ SL I (A ++ (L ++ F)) E w := by
 obtain ⟨M, L, hn, hm, hr, hS⟩ := h.ex
 have hmem := (hm k o).2 hk
 obtain ⟨M1, M2, rfl⟩ := List.append_of_mem hmem
 obtain ⟨L', hr', hp⟩ := hr.perm (M' := (k, o) :: (M1 ++ M2)) List.perm_middle
 obtain ⟨A, B, rfl, h1, h2⟩ := hr'
 have hn2 : (((k, o) :: (M1 ++ M2)).map (·.1)).Nodup := ((List.perm_middle (a := (k, o)) (l₁ := M1) (l₂ := M2)).map (·.1)).nodup_iff.1 hn
 simp only [List.map_cons, List.nodup_cons] at hn2
 refine ⟨A, B, h1, ⟨M1 ++ M2, hn2.2, fun j o' => ?_, h2⟩, hS.perm ?_⟩
 ·rw [← hm j o']
  constructor
  ·intro hj
   refine ⟨fun e => hn2.1 (List.mem_map.2 ⟨(j, o'), hj, e⟩), ?_⟩
   rw [(List.perm_middle (a := (k, o)) (l₁ := M1) (l₂ := M2)).mem_iff]
   exact List.mem_cons_of_mem _ hj
  ·rintro ⟨hne, hj⟩
   rw [(List.perm_middle (a := (k, o)) (l₁ := M1) (l₂ := M2)).mem_iff] at hj
   rcases List.mem_cons.1 hj with e | hj
   ·cases e; exact absurd rfl hne
   ·exact hj
 ·rw [← List.append_assoc]; exact (hp.append_right F).symm
theorem Rel.close (hr : Rest I φ H k L) (hb : RepB I φ k o A) (hS : SL I (A ++ (L ++ F)) E w) (ht : ∀ j, nx ≤ j → φ j = none) : Rel I φ (H.set k (some o)) nx F E w := by
 obtain ⟨M, hn, hm, hr⟩ := hr
 refine ⟨ht, (k, o) :: M, A ++ L, ?_, fun j o' => ?_, ⟨A, L, Z, hb, hr⟩, by rw [List.append_assoc]; exact hS⟩
 ·simp only [List.map_cons, List.nodup_cons]
  refine ⟨fun hk=>?_, hn⟩
  obtain ⟨x, hx, e⟩ := List.mem_map.1 hk
  exact ((hm x.1 x.2).1 hx).1 e
 ·rw [Tr.get_set, List.mem_cons, hm j o']
  by_cases e : j = k
  ·rw [if_pos e]; subst e; simp [eq_comm]
  ·rw [if_neg e]; simp [e]
theorem Rel.gone (hr : Rest I φ H k L) (hS : SL I (L ++ F) E w) (ht : ∀ j, nx ≤ j → φ j = none) : Rel I φ (H.set k none) nx F E w := by
 obtain ⟨M, hn, hm, hr⟩ := hr
 refine ⟨ht, M, L, hn, fun j o' => ?_, hr, hS⟩
 rw [Tr.get_set, hm j o']
 by_cases e : j = k
 ·rw [if_pos e]; simp [e]
 ·rw [if_neg e]; simp [e]
theorem Rel.mono (h : Rel I φ H nx F E w) {n' : Nat} (hn : nx ≤ n') : Rel I φ H n' F E w := ⟨fun j hj => h.top j (Nat.le_trans hn hj), h.ex⟩
theorem Rel.drew (h : Rel I φ H nx F E w) : Rel I φ H nx F E w.drew := let ⟨M, L, a, b, c, d⟩ := h.ex; ⟨h.top, M, L, a, b, c, d.drew⟩
theorem Rel.sl (h : Rel I φ H nx F E w) : SL I F E w := let ⟨_, _, _, _, _, d⟩ := h.ex; d.dropAll
def VO.cs? : VO → Option (List EV)
 | .cells _ cs => some cs
 | .kn cs => some cs
 | _ => none
theorem Rel.read (h : Rel I φ H nx F E w) (hk : H.get k = some o) {cs : List EV} (hc : o.cs? = some cs) {q : PBk} (hq : φ k = some q) :
  ∃ vs, RelVs φ cs vs ∧ (∀ u ∈ vs, u.oneCell' = true) ∧ ∀ (j : Nat) v, vs[j]? = some v → w.cell? ⟨q.r, q.sh + j, none⟩ = some v := by
 obtain ⟨A, L, hb, _, hS⟩ := h.pick hk
 cases o <;> simp only [VO.cs?] at hc
 ·cases hc
  obtain ⟨q', T, vs, junk, h1, h2, h3, h4, h5, h6, rfl⟩ := hb
  rw [hq] at h1; cases h1
  refine ⟨vs, h3, fun u hu => h4 u (List.mem_append_left _ hu), fun j v hj => ?_⟩
  rw [SL.cell_own (c := (vs ++ junk).toArray) (T := T) (f := (0, 0)) (O := L ++ F) hS, h2, Nat.zero_add, List.getElem?_toArray, List.getElem?_append_left (List.getElem?_eq_some_iff.1 hj).1]
  exact hj
 ·cases hc
  obtain ⟨q', vs, h1, h2, h3, h4, rfl⟩ := hb
  rw [hq] at h1; cases h1
  exact ⟨vs, h2, h3, fun j v hj => hS.at_ ((h4 j v hj).at_ _)⟩
 ·cases hc
 ·cases hc
end
def RelE (φ : Phi) (g : Nat → EV) (ρ : Env) : Prop := ∀ t, RelV φ (g t) (ρ t)
theorem RelE.mono {φ ψ : Phi} (h : φ.le ψ) {g : Nat → EV} {ρ : Env} (hr : RelE φ g ρ) : RelE ψ g ρ := fun t => (hr t).mono h
end Go.Proofs.YtoicilchhkndmaaGreatDoor
namespace Go.Proofs.YtoicilchhkndmaaGreatDoor
open Go.Proofs.Tryz
structure TI where
 d : TypeDesc
 size : Nat
 bytes : Nat
 z : List EV
 v : EV
 g : Bool
def aggD : TypeDesc → Bool
 | .struct _ => true
 | .array _ _ => true
 | _ => false
structure TIok (P : Program) (t : TypeId) (i : TI) : Prop where
 und : P.underlying t = some i.d
 inf : ∃ f zv, P.info? t = some f ∧ f.size = i.size ∧ f.bytes = i.bytes ∧ f.zero = some zv ∧ (∀ φ, RelVs φ i.z zv.cells.toList) ∧ ∀ φ, RelV φ i.v zv
 z1 : i.z.all EV.cell = true
 zl : i.z.length = i.size
 gd : i.g = true → P.eqGuardType P.depth t = false
abbrev TT := Nat → Option TI
def TTok (P : Program) (T : TT) : Prop := ∀ t i, T t = some i → TIok P t i
section
variable {P : Program} {t : TypeId} {i : TI} (h : TIok P t i)
include h
theorem TIok.sz (w : World) : (sizeOf t).run P w = .ok i.size w := by
 obtain ⟨f, zv, h1, h2, _⟩ := h.inf
 simp [sizeOf, typeInfo, h1, h2]
theorem TIok.agg (w : World) : (isAgg t).run P w = .ok (aggD i.d) w := by
 unfold isAgg
 rw [Sem.run_bind, run_underlying h.und]
 cases i.d <;> rfl
theorem TIok.zero : ∃ zv, (∀ w, (zeroValue t).run P w = .ok zv w) ∧ (∀ φ, RelVs φ i.z zv.cells.toList) ∧ zv.cells.size = i.size := by
 obtain ⟨f, zv, h1, h2, h3, h4, h5⟩ := h.inf
 refine ⟨zv, fun w => by simp [zeroValue, typeInfo, h1, h4], h5.1, ?_⟩
 have := (h5.1 (fun _ => none)).length
 rw [h.zl] at this
 simpa using this
theorem TIok.zeroV : ∃ zv, (∀ w, (zeroValue t).run P w = .ok zv w) ∧ ∀ φ, RelV φ i.v zv := by
 obtain ⟨f, zv, h1, h2, h3, h4, h5⟩ := h.inf
 exact ⟨zv, fun w => by simp [zeroValue, typeInfo, h1, h4], h5.2⟩
end
section
variable {φ : Phi}
theorem RelVs.r1 {x : EV} {a : Value} (h : RelVs φ [x] [a]) : RelV φ x a := by
 obtain ⟨v, us, e, h1, h2⟩ := h; cases e; exact h1
end
def beqS (a b : ByteArray) : Bool := beqL a.data.toList b.data.toList
where
 beqL : List UInt8 → List UInt8 → Bool
  | [], [] => true
  | x :: l, y :: m => Nat.beq x.toNat y.toNat && beqL l m
  | _, _ => false
theorem beqL_eq : ∀ (a b : List UInt8), beqS.beqL a b = decide (a = b)
 | [], [] => rfl
 | [], _ :: _ => rfl
 | _ :: _, [] => rfl
 | x :: l, y :: m => by
  unfold beqS.beqL
  rw [beqL_eq l m]
  by_cases h : x = y
  ·subst h
   rw [show Nat.beq x.toNat x.toNat = true from Nat.beq_refl _]
   by_cases h2 : l = m <;> simp [h2]
  ·have : Nat.beq x.toNat y.toNat = false := by
    cases e : Nat.beq x.toNat y.toNat with
    | false => rfl
    | true => exact absurd (UInt8.toNat_inj.1 (Nat.eq_of_beq_eq_true e)) h
   rw [this]; simp [h]
theorem beqS_eq (a b : ByteArray) : beqS a b = decide (a = b) := by
 unfold beqS
 rw [beqL_eq]
 rw [decide_eq_decide]
 constructor
 ·intro h; cases a; cases b; simp only [ByteArray.mk.injEq]; exact Array.toList_inj.1 h
 ·intro h; rw [h]
def evInt (op : BinOp) (k : IntKind) (a b : Int) : Option EV :=
 match op with
 | .add => some (.i k (k.wrap (a + b)))
 | .sub => some (.i k (k.wrap (a - b)))
 | .mul => some (.i k (k.wrap (a * b)))
 | .quo => if b = 0 then none else some (.i k (k.wrap (a.tdiv b)))
 | .rem => if b = 0 then none else some (.i k (a.tmod b))
 | .and => some (.i k (k.wrap (BitVec.ofInt k.bits a &&& BitVec.ofInt k.bits b).toNat))
 | .or => some (.i k (k.wrap (BitVec.ofInt k.bits a ||| BitVec.ofInt k.bits b).toNat))
 | .xor => some (.i k (k.wrap (BitVec.ofInt k.bits a ^^^ BitVec.ofInt k.bits b).toNat))
 | .andNot => some (.i k (k.wrap (BitVec.ofInt k.bits a &&& ~~~BitVec.ofInt k.bits b).toNat))
 | .eql => some (.b (a == b))
 | .neq => some (.b (a != b))
 | .lss => some (.b (decide (a < b)))
 | .leq => some (.b (decide (a ≤ b)))
 | .gtr => some (.b (decide (b < a)))
 | .geq => some (.b (decide (b ≤ a)))
 | .shl | .shr => none
def evSh (op : BinOp) (k : IntKind) (a b : Int) : Option EV :=
 if b < 0 then none else
 match op with
 | .shl => some (.i k (k.wrap (a * 2 ^ min b.toNat k.bits)))
 | .shr => some (.i k (a.fdiv (2 ^ min b.toNat k.bits)))
 | _ => none
def evStr (op : BinOp) (a b : ByteArray) : Option EV :=
 match op with
 | .eql => some (.b (beqS a b))
 | .neq => some (.b (!beqS a b))
 | .add => if Nat.ble (a.data.toList.length + b.data.toList.length) 1000000 then some (.s ⟨(a.data.toList ++ b.data.toList).toArray⟩) else none
 | _ => none
def evNil (d : TypeDesc) (x y : EV) : Option Bool :=
 match d, x, y with
 | .pointer _, .np, .np => some true
 | .pointer _, .p _ _, .np => some false
 | .slice _, .ns, .ns => some true
 | .slice _, .sl _ _ _ _ _, .ns => some false
 | .map _ _, .nm, .nm => some true
 | .map _ _, .m _, .nm => some false
 | _, _, _ => none
def evBin (T : TT) (op : BinOp) (t : TypeId) (o : Operand) (x y : EV) : Option EV :=
 match x, y with
 | .i k a, .i k' b => match op with
  | .shl => evSh .shl k a b
  | .shr => evSh .shr k a b
  | _ => if k = k' then evInt op k a b else none
 | .s a, .s b => evStr op a b
 | .b a, .b b => match op, (T t).map (·.d) with
  | .eql, some TypeDesc.bool => some (.b (a == b))
  | .neq, some TypeDesc.bool => some (.b (!(a == b)))
  | _, _ => none
 | x, y => match op, T t with
  | .eql, some i => (evNil i.d x y).map EV.b
  | .neq, some i => (evNil i.d x y).map fun z => .b (!z)
  | _, _ => none
def evUn (op : UnOp) (x : EV) : Option EV :=
 match op, x with
 | .not, .b a => some (.b (!a))
 | .neg, .i k a => some (.i k (k.wrap (0 - a)))
 | _, _ => none
section
variable {P : Program} {φ : Phi} {ρ : Env} {w : World} {T : TT} {o : Oper} {t : TypeId}
theorem evInt_ok {op : BinOp} {k : IntKind} {a b : Int} {x : EV} (h : evInt op k a b = some x) : ∃ v, (binOp op t (.int k a) (.int k b)).run P w = .ok v w ∧ RelV φ x v := by
 cases op <;> simp only [evInt] at h
 case quo => split at h <;> first | (cases h; done) | (cases h; rename_i hb; exact ⟨_, by simp [binOp, Op.intDiv, hb], rfl⟩)
 case rem => split at h <;> first | (cases h; done) | (cases h; rename_i hb; exact ⟨_, by simp [binOp, Op.intDiv, hb], rfl⟩)
 case shl => cases h
 case shr => cases h
 case add => cases h; exact ⟨_, by rw [show binOp .add t (.int k a) (.int k b) = Op.intArith .add k a b by simp [binOp]]; rfl, rfl⟩
 case sub => cases h; exact ⟨_, by rw [show binOp .sub t (.int k a) (.int k b) = Op.intArith .sub k a b by simp [binOp]]; rfl, rfl⟩
 case mul => cases h; exact ⟨_, by rw [show binOp .mul t (.int k a) (.int k b) = Op.intArith .mul k a b by simp [binOp]]; rfl, rfl⟩
 case and => cases h; exact ⟨_, by rw [binOp_and]; rfl, rfl⟩
 case or => cases h; exact ⟨_, by rw [binOp_or]; rfl, rfl⟩
 case xor => cases h; exact ⟨_, by rw [binOp_xor]; rfl, rfl⟩
 case andNot => cases h; exact ⟨_, by rw [binOp_andNot]; rfl, rfl⟩
 case eql => cases h; exact ⟨_, by rw [binOp_eql]; rfl, rfl⟩
 case neq => cases h; exact ⟨_, by rw [binOp_neq]; rfl, rfl⟩
 case lss => cases h; exact ⟨_, by rw [binOp_lss]; rfl, rfl⟩
 case leq => cases h; exact ⟨_, by rw [binOp_leq]; rfl, rfl⟩
 case gtr => cases h; exact ⟨_, by rw [binOp_gtr]; rfl, rfl⟩
 case geq => cases h; exact ⟨_, by rw [binOp_geq]; rfl, rfl⟩
theorem evSh_ok {op : BinOp} {k k' : IntKind} {a b : Int} {x : EV} (ho : op = .shl ∨ op = .shr) (h : evSh op k a b = some x) : ∃ v, (binOp op t (.int k a) (.int k' b)).run P w = .ok v w ∧ RelV φ x v := by
 unfold evSh at h
 split at h
 ·cases h
 ·rename_i hb
  rcases ho with rfl | rfl <;> (cases h; exact ⟨_, by simp [binOp, Op.shift, hb], rfl⟩)
theorem bytes_app (a b : ByteArray) : (⟨(a.data.toList ++ b.data.toList).toArray⟩ : ByteArray) = a ++ b := by
 have : (a ++ b).data = a.data ++ b.data := ByteArray.data_append
 cases hab : a ++ b with
 | mk d =>
  rw [hab] at this
  simp only at this
  rw [this]; congr 1; simp
theorem evStr_ok {op : BinOp} {a b : ByteArray} {x : EV} (h : evStr op a b = some x) : ∃ v, (binOp op t (.string a) (.string b)).run P w = .ok v w ∧ RelV φ x v := by
 cases op <;> simp only [evStr] at h
 case add =>
  split at h
  ·rename_i hl
   cases h
   have hl := Nat.le_of_ble_eq_true hl
   refine ⟨.string (a ++ b), ?_, by rw [bytes_app]; rfl⟩
   have h2 : ¬ ((a.size + b.size : Nat) : Int) > IntKind.i64.max := by
    have e1 : a.size = a.data.toList.length := by rw [Array.length_toList]; rfl
    have e2 : b.size = b.data.toList.length := by rw [Array.length_toList]; rfl
    have : IntKind.i64.max = 9223372036854775807 := by decide
    rw [this]; omega
   simp only [binOp, Op.stringOp]
   rw [if_neg h2]; rfl
  ·cases h
 case eql => cases h; refine ⟨.bool (a.toList == b.toList), by rw [binOp_string_eql]; rfl, ?_⟩; show Value.bool _ = Value.bool _; rw [bytes_eq, beqS_eq]
 case neq => cases h; refine ⟨.bool (!a.toList == b.toList), by rw [binOp_string_neq]; rfl, ?_⟩; show Value.bool _ = Value.bool _; rw [bytes_eq, beqS_eq]
 all_goals cases h
theorem evNil_ok {d : TypeDesc} {x y : EV} {a c : Value} {b : Bool} {op : BinOp} {p q : Operand} (h : evNil d x y = some b) (hd : P.underlying t = some d) (hx : RelV φ x a) (hy : RelV φ y c) :
  (eqGuard op t p q a c).run P w = .ok () w ∧ (binOp .eql t a c).run P w = .ok (.bool b) w ∧ (binOp .neq t a c).run P w = .ok (.bool (!b)) w := by
 unfold evNil at h
 split at h
 case h_1 e => 
  have hx : a = .pointer none := hx
  have hy : c = .pointer none := hy
  have hp : P.pointee t = e := by unfold Program.pointee; rw [hd]
  cases h; subst hx hy
  exact ⟨eqGuard_pointer, run_eql_pointer_nil w t none (by rw [hp]; exact hd), run_neq_pointer_nil w t none (by rw [hp]; exact hd)⟩
 case h_2 e _ _ =>
  obtain ⟨_, _, rfl⟩ := hx
  have hy : c = .pointer none := hy
  have hp : P.pointee t = e := by unfold Program.pointee; rw [hd]
  cases h; subst hy
  exact ⟨eqGuard_pointer, run_eql_pointer_nil w t _ (by rw [hp]; exact hd), run_neq_pointer_nil w t _ (by rw [hp]; exact hd)⟩
 case h_3 e =>
  have hx : a = .slice none 0 0 := hx
  have hy : c = .slice none 0 0 := hy
  cases h; subst hx hy
  exact ⟨eqGuard_slice, Lib.run_eql_slice_nil w t e none 0 0 0 0 hd, run_neq_slice_nil_any w t e none 0 0 0 0 hd⟩
 case h_4 e _ _ _ _ _ =>
  obtain ⟨_, _, _, _, rfl, _⟩ := hx
  have hy : c = .slice none 0 0 := hy
  cases h; subst hy
  exact ⟨eqGuard_slice, Lib.run_eql_slice_nil w t e _ _ _ 0 0 hd, run_neq_slice_nil_any w t e _ _ _ 0 0 hd⟩
 case h_5 k e =>
  have hx : a = .map none := hx
  have hy : c = .map none := hy
  cases h; subst hx hy
  exact ⟨by unfold eqGuard; cases op <;> rfl, run_eql_map_nil w t k e none hd, Go.run_neq_map_nil w t k e none hd⟩
 case h_6 k e _ =>
  obtain ⟨_, _, rfl⟩ := hx
  have hy : c = .map none := hy
  cases h; subst hy
  exact ⟨by unfold eqGuard; cases op <;> rfl, run_eql_map_nil w t k e _ hd, Go.run_neq_map_nil w t k e _ hd⟩
 case h_7 => cases h
theorem evBin_ok (hT : TTok P T) {op : BinOp} {p q : Operand} {x y z : EV} {a c : Value} (h : evBin T op t q x y = some z) (hx : RelV φ x a) (hy : RelV φ y c) :
  ∃ v, (do eqGuard op t p q a c; binOp op t a c : Sem Value).run P w = .ok v w ∧ RelV φ z v := by
 unfold evBin at h
 split at h
 ·rename_i k a' k' b'
  have hx : a = .int k a' := hx
  have hy : c = .int k' b' := hy
  subst hx hy
  have hg : (eqGuard op t p q (.int k a') (.int k' b')).run P w = .ok () w := by unfold eqGuard; cases op <;> rfl
  rw [Sem.run_bind, hg]
  split at h
  ·exact evSh_ok (.inl rfl) h
  ·exact evSh_ok (.inr rfl) h
  ·split at h
   ·rename_i e; subst e; exact evInt_ok h
   ·cases h
 ·rename_i a' b'
  have hx : a = .string a' := hx
  have hy : c = .string b' := hy
  subst hx hy
  rw [Sem.run_bind, eqGuard_string]
  exact evStr_ok h
 ·rename_i a' b'
  have hx : a = .bool a' := hx
  have hy : c = .bool b' := hy
  subst hx hy
  rw [Sem.run_bind, eqGuard_bool]
  split at h
  ·rename_i hd
   cases h
   cases hi : T t with
   | none => rw [hi] at hd; cases hd
   | some i =>
    rw [hi] at hd
    have hd2 := (hT t i hi).und
    simp only [Option.map_some, Option.some.injEq] at hd
    rw [hd] at hd2
    exact ⟨_, run_eql_bool w t a' b' hd2, rfl⟩
  ·rename_i hd
   cases h
   cases hi : T t with
   | none => rw [hi] at hd; cases hd
   | some i =>
    rw [hi] at hd
    have hd2 := (hT t i hi).und
    simp only [Option.map_some, Option.some.injEq] at hd
    rw [hd] at hd2
    exact ⟨_, run_neq_bool w t a' b' hd2, rfl⟩
  ·cases h
 ·split at h
  ·rename_i i hi
   cases hn : evNil i.d x y with
   | none => rw [hn] at h; cases h
   | some b =>
    rw [hn] at h; cases h
    obtain ⟨h1, h2, _⟩ := evNil_ok (op := .eql) (p := p) (q := q) (w := w) hn (hT t i hi).und hx hy
    rw [Sem.run_bind, h1]
    exact ⟨_, h2, rfl⟩
  ·rename_i i hi
   cases hn : evNil i.d x y with
   | none => rw [hn] at h; cases h
   | some b =>
    rw [hn] at h; cases h
    obtain ⟨h1, _, h2⟩ := evNil_ok (op := .neq) (p := p) (q := q) (w := w) hn (hT t i hi).und hx hy
    rw [Sem.run_bind, h1]
    exact ⟨_, h2, rfl⟩
  ·cases h
theorem evUn_ok {op : UnOp} {x z : EV} {a : Value} (h : evUn op x = some z) (hx : RelV φ x a) : ∃ v, (Op.unary op a).run P w = .ok v w ∧ RelV φ z v := by
 unfold evUn at h
 split at h
 ·have hx : a = .bool _ := hx
  cases h; subst hx; exact ⟨_, rfl, rfl⟩
 ·have hx : a = .int _ _ := hx
  cases h; subst hx; exact ⟨_, by simp [Op.unary, Op.intArith], rfl⟩
 ·cases h
end
def evLoad (T : TT) (H : Hp) (t b off : Nat) : Option EV :=
 match T t, (H.get b).bind VO.cs? with
 | some i, some cs => bif aggD i.d then (bif Nat.ble (off + i.size) cs.length then some (.ag ((cs.drop off).take i.size)) else none) else cs[off]?
 | _, _ => none
def evPart (T : TT) (t : TypeId) (cs : List EV) (off : Nat) : Option EV :=
 match T t with
 | some i => bif aggD i.d then some (.ag ((cs.drop off).take i.size)) else cs[off]?
 | none => none
def fieldD (T : TT) (t f : Nat) : Option Field :=
 match T t with
 | some i => match i.d with
  | .struct fs => fs[f]?
  | _ => none
 | none => none
def evFAddr (T : TT) (t f b off : Nat) : Option EV :=
 match fieldD T t f with
 | some fd => match T fd.type with
  | some i => bif Nat.beq i.size 0 then none else some (.p b (off + fd.offset))
  | none => none
 | none => none
def evField (T : TT) (t f : Nat) (cs : List EV) : Option EV :=
 match fieldD T t f with
 | some fd => evPart T fd.type cs fd.offset
 | none => none
def natOf (n : Int) : Option Nat :=
 match n with
 | .ofNat j => some j
 | _ => none
def evIdxA (T : TT) (t : Nat) (x : EV) (n : Int) : Option EV :=
 match T t, natOf n with
 | some i, some j => match i.d, x with
  | .slice e, .sl b off len _ _ => match T e with
   | some ie => bif Nat.blt j len then some (.p b (off + j * ie.size)) else none
   | none => none
  | .array len e, .p b off => match T e with
   | some ie => bif Nat.blt j len then some (.p b (off + j * ie.size)) else none
   | none => none
  | _, _ => none
 | _, _ => none
def evIdx (T : TT) (t : Nat) (x : EV) (n : Int) : Option EV :=
 match T t, natOf n with
 | some i, some j => match i.d, x with
  | .string, .s s => (s.data.toList[j]?).map fun c => .i .u8 c.toNat
  | .array len e, .ag cs => match T e with
   | some ie => bif Nat.blt j len then evPart T e cs (j * ie.size) else none
   | none => none
  | _, _ => none
 | _, _ => none
section
variable {P : Program} {φ : Phi} {w : World} {T : TT} {I : Ghost} {H : Hp} {nx : Nat} {F : List (Nat × Obj)} {E : World}
theorem evLoad_ok (hT : TTok P T) (hR : Rel I φ H nx F E w) {t b off : Nat} {z : EV} {a : Value} (h : evLoad T H t b off = some z) (hx : RelV φ (.p b off) a) :
  ∃ v, (Instr.loadAt t a).run P w = .ok v w ∧ RelV φ z v := by
 obtain ⟨q, hq, rfl⟩ := hx
 unfold evLoad at h
 split at h
 ·rename_i i cs hi hc
  obtain ⟨o, ho, hoc⟩ := Option.bind_eq_some_iff.1 hc
  have hTi := hT t i hi
  obtain ⟨vs, h1, h2, h3⟩ := hR.read ho hoc hq
  cases hd : aggD i.d with
  | true =>
   rw [hd] at h
   simp only [cond_true] at h
   cases hb : Nat.ble (off + i.size) cs.length with
   | false => rw [hb] at h; cases h
   | true =>
    rw [hb] at h; cases h
    have hb := Nat.le_of_ble_eq_true hb
    have hl : ((vs.drop off).take i.size).length = i.size := by rw [List.length_take, List.length_drop, h1.length]; omega
    refine ⟨.agg ((vs.drop off).take i.size).toArray, ?_, _, Z, (h1.drop off).take i.size⟩
    have hrun := run_loadVar_agg (P := P) (T := t) (b := q.r) (off := q.sh + off) (cs := (vs.drop off).take i.size) (w := w) (fun w => by rw [hTi.agg, hd]) (fun w => by rw [hl]; exact hTi.sz w) (fun j v hj => by
     have hjl := (List.getElem?_eq_some_iff.1 hj).1
     rw [hl] at hjl
     rw [List.getElem?_take_of_lt hjl, List.getElem?_drop] at hj
     rw [Nat.add_assoc]; exact h3 _ _ hj)
    simp [Instr.loadAt, Instr.sureAddr, hrun]
  | false =>
   rw [hd] at h
   simp only [cond_false] at h
   obtain ⟨v, hv, hr⟩ := h1.get h
   refine ⟨v, ?_, hr⟩
   have hrun := run_loadVar_one (P := P) (T := t) (b := q.r) (off := q.sh + off) (v := v) (w := w) (fun w => by rw [hTi.agg, hd]) (h3 _ _ hv)
   simp [Instr.loadAt, Instr.sureAddr, hrun]
 ·cases h
theorem evPart_ok (hT : TTok P T) {t off : Nat} {cs : List EV} {vs : List Value} {z : EV} (h : evPart T t cs off = some z) (hx : RelVs φ cs vs) : ∃ v, (part t vs.toArray off).run P w = .ok v w ∧ RelV φ z v := by
 unfold evPart at h
 split at h
 ·rename_i i hi
  have hTi := hT t i hi
  cases hd : aggD i.d with
  | true =>
   rw [hd] at h; cases h
   refine ⟨.agg ((vs.drop off).take i.size).toArray, ?_, _, Z, (hx.drop off).take i.size⟩
   simp [part, hTi.agg, hd, hTi.sz]
  | false =>
   rw [hd] at h
   obtain ⟨v, hv, hr⟩ := hx.get h
   exact ⟨v, by simp [part, hTi.agg, hd, hv], hr⟩
 ·cases h
theorem fieldD_ok (hT : TTok P T) {t f : Nat} {fd : Field} (h : fieldD T t f = some fd) : ∃ fs, P.underlying t = some (.struct fs) ∧ fs[f]? = some fd := by
 unfold fieldD at h
 split at h
 ·rename_i i hi
  split at h
  ·rename_i fs hd
   exact ⟨fs, hd ▸ (hT t i hi).und, h⟩
  ·cases h
 ·cases h
theorem evFAddr_ok (hT : TTok P T) {t f b off : Nat} {z : EV} {a : Value} (h : evFAddr T t f b off = some z) (hx : RelV φ (.p b off) a) : ∃ v, (Instr.fieldAt t a f).run P w = .ok v w ∧ RelV φ z v := by
 obtain ⟨q, hq, rfl⟩ := hx
 unfold evFAddr at h
 split at h
 ·rename_i fd hfd
  obtain ⟨fs, h1, h2⟩ := fieldD_ok hT hfd
  split at h
  ·rename_i i hi
   have hTi := hT _ i hi
   cases hz : Nat.beq i.size 0 with
   | true => rw [hz] at h; cases h
   | false =>
    rw [hz] at h; cases h
    have hne : i.size ≠ 0 := fun e => by rw [e] at hz; cases hz
    refine ⟨.pointer (some ⟨q.r, q.sh + off + fd.offset, none⟩), ?_, q, hq, by rw [Nat.add_assoc]⟩
    simp [Instr.fieldAt, run_underlying h1, h2, Instr.sureAddr, fieldPlace, hTi.sz, hne, addr_add]
  ·cases h
 ·cases h
theorem evField_ok (hT : TTok P T) {t f : Nat} {cs : List EV} {z : EV} {a : Value} (h : evField T t f cs = some z) (hx : RelV φ (.ag cs) a) : ∃ v, (Instr.field t a f).run P w = .ok v w ∧ RelV φ z v := by
 obtain ⟨vs, rfl, hx⟩ := hx
 unfold evField at h
 split at h
 ·rename_i fd hfd
  obtain ⟨fs, h1, h2⟩ := fieldD_ok hT hfd
  obtain ⟨v, h3, h4⟩ := evPart_ok (w := w) hT h hx
  refine ⟨v, ?_, h4⟩
  simp [Instr.field, run_underlying h1, h2, asAgg, h3]
 ·cases h
theorem natOf_ok {n : Int} {j : Nat} (h : natOf n = some j) : n = (j : Int) := by
 unfold natOf at h
 split at h
 ·cases h; rfl
 ·cases h
theorem evIdxA_ok (hT : TTok P T) {t : Nat} {x : EV} {k : IntKind} {n : Int} {z : EV} {a c : Value} (h : evIdxA T t x n = some z) (hx : RelV φ x a) (hy : RelV φ (.i k n) c) : ∃ v, (Instr.indexAt t a c).run P w = .ok v w ∧ RelV φ z v := by
 have hy : c = .int k n := hy
 subst hy
 unfold evIdxA at h
 split at h
 ·rename_i i j hi hj
  have hj := natOf_ok hj
  subst hj
  have hTi := hT t i hi
  split at h
  ·rename_i e b off len _ _ hd
   have hu := hd ▸ hTi.und
   obtain ⟨q, o, cap, hq, rfl, h1, h2, _⟩ := hx
   split at h
   ·rename_i ie hie
    have hTe := hT e ie hie
    cases hb : Nat.blt j len with
    | false => rw [hb] at h; cases h
    | true =>
     rw [hb] at h; cases h
     have hb : j < len := Nat.le_of_ble_eq_true hb
     have ho := h2 (by omega)
     subst ho
     refine ⟨.pointer (some ⟨q.r, q.sh + off + j * ie.size, none⟩), ?_, q, hq, by rw [Nat.add_assoc]⟩
     simp [Instr.indexAt, asIntOf, run_underlying hu, hTe.sz, hb, addr_add]
   ·cases h
  ·rename_i len e b off hd
   have hu := hd ▸ hTi.und
   obtain ⟨q, hq, rfl⟩ := hx
   split at h
   ·rename_i ie hie
    have hTe := hT e ie hie
    cases hb : Nat.blt j len with
    | false => rw [hb] at h; cases h
    | true =>
     rw [hb] at h; cases h
     have hb : j < len := Nat.le_of_ble_eq_true hb
     refine ⟨.pointer (some ⟨q.r, q.sh + off + j * ie.size, none⟩), ?_, q, hq, by rw [Nat.add_assoc]⟩
     by_cases h1 : len ≤ 1
     ·simp [Instr.indexAt, asIntOf, run_underlying hu, hTe.sz, hb, addr_add, Instr.sureAddr, h1]
     ·simp [Instr.indexAt, asIntOf, run_underlying hu, hTe.sz, hb, addr_add, Instr.sureAddr, h1]
   ·cases h
  ·cases h
 ·cases h
theorem evIdx_ok (hT : TTok P T) {t : Nat} {x : EV} {k : IntKind} {n : Int} {z : EV} {a c : Value} (h : evIdx T t x n = some z) (hx : RelV φ x a) (hy : RelV φ (.i k n) c) : ∃ v, (Instr.index t a c).run P w = .ok v w ∧ RelV φ z v := by
 have hy : c = .int k n := hy
 subst hy
 unfold evIdx at h
 split at h
 ·rename_i i j hi hj
  have hj := natOf_ok hj
  subst hj
  have hTi := hT t i hi
  split at h
  ·rename_i s hd
   have hu := hd ▸ hTi.und
   have hx : a = .string s := hx
   subst hx
   obtain ⟨c, hc, rfl⟩ := Option.map_eq_some_iff.1 h
   have hv : s.data[j]? = some c := by rw [← hc]; simp
   have hj : s[j]? = some c := by
    obtain ⟨h1, h2⟩ := Array.getElem?_eq_some_iff.1 hv
    show (if h : j < s.size then some s[j] else none) = some c
    rw [dif_pos (show j < s.size from h1)]; exact congrArg some h2
   exact ⟨.int .u8 c.toNat, by simp [Instr.index, asIntOf, run_underlying hu, hj], rfl⟩
  ·rename_i len e cs hd
   have hu := hd ▸ hTi.und
   obtain ⟨vs, rfl, hx⟩ := hx
   split at h
   ·rename_i ie hie
    have hTe := hT e ie hie
    cases hb : Nat.blt j len with
    | false => rw [hb] at h; cases h
    | true =>
     rw [hb] at h
     have hb : j < len := Nat.le_of_ble_eq_true hb
     obtain ⟨v, h3, h4⟩ := evPart_ok (w := w) hT h hx
     refine ⟨v, ?_, h4⟩
     simp [Instr.index, asIntOf, run_underlying hu, hb, hTe.sz, h3]
   ·cases h
  ·cases h
 ·cases h
end
set_option linter.defProp false
def ym := @Phi.put_same
def yz := @Phi.le_put
end Go.Proofs.YtoicilchhkndmaaGreatDoor
