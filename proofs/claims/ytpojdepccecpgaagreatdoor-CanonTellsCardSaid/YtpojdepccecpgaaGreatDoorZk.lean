/- The document's typed; the laws' typed, single and plain. Of programs that are little. -/
import Derived.Test.YtpojdepccecpgaaGreatDoorZj
import Derived.Test.YtpojdepccecpgaaGreatDoorZe
import Derived.Shelf.SlSortCmp.WholeK
import Derived.Ground.SlsfProg
import Derived.Test.YtpojdepccecpgaaGreatDoorChecked
import Derived.Test.YtpojdepccecpgaaGreatDoorZi
import Derived.Test.YtpojdepccecpgaaGreatDoorZd
import Derived.Test.YtpojdepccecpgaaGreatDoorZh
import Derived.LaidEqlPtr
set_option linter.unusedVariables false
set_option linter.unusedSimpArgs false
set_option linter.unusedSectionVars false
namespace Go.Proofs.YtpojdepccecpgaaGreatDoor
open Go.Proofs.Tryz
open Go.Proofs Go.Lib Go.Shelf Go.RowKit
variable {E : World}
set_option maxRecDepth 20000
def MapOf (l : List Int) (es : List (Int × AV)) : Prop := ∀ k, ag k es = if k ∈ l then some (.int .i64 (posI l k)) else none
theorem MapOf.push {l : List Int} {es : List (Int × AV)} (h : MapOf l es) {v : Int} (hv : v ∉ l) : MapOf (l ++ [v]) (am v (.int .i64 l.length) es) := fun k => by
 rw [ag_am]
 by_cases e : k = v
 ·subst e
  rw [if_pos rfl, if_pos (by simp)]
  have : (l ++ [k]).idxOf k = l.length := idx_first (by simp) (by simpa using hv)
  unfold posI
  rw [this]
 ·rw [if_neg e, h k]
  by_cases hk : k ∈ l
  ·rw [if_pos hk, if_pos (List.mem_append_left _ hk)]
   unfold posI
   rw [List.idxOf_append, if_pos hk]
  ·rw [if_neg hk, if_neg (by simp [hk, e])]
theorem see_len : ∀ (vs l : List Int), (seeL l vs).length ≤ l.length + vs.length
 | [], l => Nat.le_refl _
 | w :: vs, l => by
  show (seeL (see1 l w) vs).length ≤ _
  have h1 := see_len vs (see1 l w)
  have h2 : (see1 l w).length ≤ l.length + 1 := by
   unfold see1; split
   ·omega
   ·rw [qf]; exact Nat.le_refl _
  rw [List.length_cons]; omega
def ordO (o b io : Nat) (l : List Int) (es : List (Int × AV)) : OL := [(o, .cells 79 [.own io l.length, mref b]), (io, .grow 1 3 (cI l)), (0, mapAO b es)]
theorem see_spec (o b io : Nat) (l vs : List Int) (es : List (Int × AV)) (hM : MapOf l es) (hl : l.length + vs.length ≤ 1000000) :
  ACall prog E 55 [.po o 0, .fro 1 (vs.map encI)] (ordO o b io l es) (fun x O' => ∃ g : Nat × List (Int × AV), x = .tup [] ∧ O' = ordO o b g.1 (seeL l vs) g.2 ∧ MapOf (seeL l vs) g.2) := by
 unfold ordO
 refine ACall.exact (γ := Nat × List (Int × AV)) (x := fun _ => .tup []) (M := fun g => [(o, .cells 79 [.own g.1 (seeL l vs).length, mref b]), (g.1, .grow 1 3 (cI (seeL l vs))), (0, mapAO b g.2)]) (p := fun g => MapOf (seeL l vs) g.2)<|zl func55 Z (by decide) Z<|zSr<|zVzMf Z<|zVGvlenM j4 Z<|zVzMi Z<|z6<|zd<|zt (γ := Nat × Nat × List (Int × AV)) [0, 8, 9] (fun g => [(10, .int .i64 g.1)]) (fun g => [(o, .cells 79 [.own g.2.1 (seeL l (vs.take g.1)).length, mref b]), (g.2.1, .grow 1 3 (cI (seeL l (vs.take g.1)))), (0, mapAO b g.2.2)]) (fun g => g.1 ≤ vs.length ∧ MapOf (seeL l (vs.take g.1)) g.2.2) (fun g => vs.length - g.1) (0, io, es) zR1 zLe (⟨qc _, hM⟩) ?_
 rintro ⟨k, io, es⟩ ⟨hk, hM⟩
 try dsimp only at *
 refine zSr<|zVGvlss Z Z<|z6<|zb<|zn Z (fun ck=>?_) (fun ck=>?_)
 ·have hk2 : k < vs.length := by omega
  obtain ⟨v, hv⟩ : ∃ v, vs[k] = v := ⟨_, rfl⟩
  have hsn : seeL l (vs.take (k + 1)) = see1 (seeL l (vs.take k)) v := by rw [qa hk2, hv, see_app]; rfl
  have hSl : (seeL l (vs.take k)).length ≤ l.length + k := by
   have := see_len (vs.take k) l
   rw [qk] at this; omega
  obtain ⟨S, hS⟩ : ∃ S, seeL l (vs.take k) = S := ⟨_, rfl⟩
  rw [hS] at hsn hM hSl ⊢
  have hgv := hM v
  by_cases hm : v ∈ S
  ·rw [if_pos hm] at hgv
   refine zf<|zb<|zd<|zSr<|z7 (zIM k j4 j8 Z Z Z (show vs[k]? = some v by rw [q9 hk2, hv]))<|zVzLi jh Z<|zVzAi Z<|z6<|zSr<|z7 (zMp Z)<|z7 (ya Z)<|z7 (zc Zp Z sizeOf77 (by decide) Z Z)<|z7 (zi (c := mref _) isAgg77 Z ⟨_, .head⟩ Z)<|zVzMi Z<|z7 (Gv.lookupA (zx := .int .i64 0) hgv Y5 Z8 Zn (fun _ => Z) Z Z ⟨_, .t2⟩)<|z7 (zMu Z)<|z7 (zXi Z Z)<|z7 (zXb Z Z)<|zVzAi Z<|zVzAb Z<|z6<|zSr<|zVzMb Z<|zVGvnot Z<|z6<|yf Z Z<|zf<|zRg<|zVzAd Z Z<|zVzMi Z<|z6 ?_
   exact ⟨(k + 1, io, es), zR3, zR1, ⟨_, (.refl _), by rw [hsn]; unfold see1; rw [if_pos hm]⟩, ⟨hk2, by rw [hsn]; unfold see1; rw [if_pos hm]; exact hM⟩, by dsimp only; omega⟩
  ·rw [if_neg hm] at hgv
   refine zf<|zb<|zd<|zSr<|z7 (zIM k j4 j8 Z Z Z (show vs[k]? = some v by rw [q9 hk2, hv]))<|zVzLi jh Z<|zVzAi Z<|z6<|zSr<|z7 (zMp Z)<|z7 (ya Z)<|z7 (zc Zp Z sizeOf77 (by decide) Z Z)<|z7 (zi (c := mref _) isAgg77 Z ⟨_, .head⟩ Z)<|zVzMi Z<|z7 (Gv.lookupA (zx := .int .i64 0) hgv Y5 Z8 Zn (fun _ => Z) Z Z ⟨_, .t2⟩)<|z7 (zMu Z)<|z7 (zXi Z Z)<|z7 (zXb Z Z)<|zVzAi Z<|zVzAb Z<|z6<|zSr<|zVzMb Z<|zVGvnot Z<|z6<|ym Z Z<|zb<|zw (fun j => false) (by kernel_rfl) Z (zy (.r (.rest _)))<|zTk 0 Z (zMp Z)<|zTk 1 Z (ya Z)<|zTk 2 Z (zc Zp Z sizeOf77 (by decide) Z Z)<|zTk 3 Z (zi (c := mref _) isAgg77 Z ⟨_, .head⟩ Z)<|zTk 4 Z (zMi Z)<|zTk 5 Z (zMp Z)<|zTk 6 Z (ya Z)<|zTk 7 Z (zc Zp Z jc (by decide) Z Z)<|zTk 8 Z (zi (c := .own _ _) jm Z ⟨_, .head⟩ Z)<|zTk 9 Z (Gv.lenO j4 Z)<|zOn 10 Z<|AOps.mapSetA (v := .int _ _) Y5 Z8 Z Z Z .t1<|z6 ?_
   refine zDn ?_
   have hsv : seeL l (vs.take (k + 1)) = S ++ [v] := by rw [hsn]; unfold see1; rw [if_neg hm]
   refine zRg<|z7 (zMp Z)<|z7 (zMp Z)<|z7 (ya Z)<|z7 (zc Zp Z jc (by decide) Z Z)<|z7 (zi (c := .own _ _) jm Z ⟨_, .head⟩ Z)<|zVzMi Z<|zk (rows := [[_]]) ps23_1 Z Z Z Z Z<|zu (k := 1) j4 Zu Z Z Z Z Z (fun _ => .t1) (by rw [cI_len]; omega) (by decide) Z (by show (_ + _) * 8 ≤ _; simp <;> omega) (by simp <;> omega)<|fun i42 => z7 (ya Z)<|z7 (zc Zp Z jc (by decide) Z Z)<|y1 (l := [_]) (new := [_, _]) jc Z Z Z Z Z Z .head Z Z<|z6<|zRg<|zVzAd Z Z<|zVzMi Z<|z6 ?_
   exact ⟨(k + 1, i42, am v (.int .i64 S.length) es), zR3, zR1, ⟨_, (.refl _), by rw [hsv, qf, ← cI_app]; rfl⟩, ⟨hk2, by rw [hsv]; exact hM.push hm⟩, by dsimp only; omega⟩
 ·obtain rfl : k = vs.length := by omega
  rw [qe] at hM ⊢
  refine zr<|afin.t0 ?_
  exact ⟨(io, es), rfl, ⟨_, .refl _, rfl⟩, hM⟩
end Go.Proofs.YtpojdepccecpgaaGreatDoor
namespace Go.Proofs.YtpojdepccecpgaaGreatDoor
open Go.Proofs.Tryz
open Go.Proofs Go.Lib Go.Shelf Go.RowKit
theorem pl79 : Places prog 79 #[(0, 1), (1, 1)] [.raw (.slice none 0 0), .raw (.map none)] := ⟨_, _, Zp, zeroValue79, fun w => by kernel_rfl, rfl⟩
variable {E : World}
set_option maxRecDepth 20000
theorem seen_bd {n : Nat} {vs : List Int} (h : ∀ v ∈ vs, 0 ≤ v ∧ v < (n : Int)) : (seeL [] vs).length ≤ n := by
 have := List.Nodup.length_le_of_subset (l₂ := intsTo n) (see_nodup (vs := vs) (l := []) (by simp)) fun v hv => by
  rw [see_mem] at hv
  exact mem_intsTo.2 (h v (hv.resolve_left (by simp)))
 rwa [intsTo_len] at this
theorem seen_spec (F : AV) (ps : List Int) (bs : List PBlock) (n : Nat) (hn : n ≤ 1000) (hps : ∀ v ∈ ps, 0 ≤ v ∧ v < (n : Int)) (hbs : ∀ b ∈ bs, ∀ v ∈ blkVars b, 0 ≤ v ∧ v < (n : Int)) (hpl : ps.length ≤ 1000) (hbl : bs.length ≤ 1000) (hb : ∀ b ∈ bs, smallBlk b) (a c : AV) :
  ACall prog E 26 [.agg [a, .fro 1 (ps.map encI), c], .fro 7 (bs.map encBlk)] [] (fun x O' => ∃ g : Nat × Nat × Nat × List (Int × AV), x = .po g.1 0 ∧ O' = ordO g.1 g.2.1 g.2.2.1 (seeL [] (ps ++ bs.flatMap blkVars)) g.2.2.2 ∧ MapOf (seeL [] (ps ++ bs.flatMap blkVars)) g.2.2.2) := by
 refine ACall.exact (γ := Nat × Nat × Nat × List (Int × AV)) (x := fun g => .po g.1 0) (M := fun g => ordO g.1 g.2.1 g.2.2.1 (seeL [] (ps ++ bs.flatMap blkVars)) g.2.2.2) (p := fun g => MapOf (seeL [] (ps ++ bs.flatMap blkVars)) g.2.2.2) ?_
 unfold ordO
 have hM0 : MapOf [] [] := fun k => by rw [if_neg (by simp)]; rfl
 refine zl func26 Z (by decide) Z<|zSr<|y4 (cs := _) Z Z Z<|z7 (zAr Z)<|z6<|zSr<|AOps.makeMapA<|fun b12 => z7 (y6 (cps := [(1, [_])]) (rs := [.raw (.slice none 0 0), _]) pl79 Z Z Z)<|AOps.boxO (cs := _) Z Z Z Z<|fun i14 => z7 (zAp Z)<|z6<|adoptC_wp (off := 0) (k := 1) (T := 3) (fun _ => .head) Z<|fun io => y2 (y7 (yd .t2))<|y2 (y7 (yd .t1))<|y2 (y7 (yd .t2))<|zSr<|z7 (zMp Z)<|zVzFF j6 Z jc Z Z<|zVzLf jm Z<|yl Z (zy (.l (.l (.l (.rest _))))) (see_spec i14 b12 io [] ps [] hM0 (by simp; omega)) ?_
 rintro r18 O18 ⟨⟨io, es⟩, rfl, rfl, hM⟩
 refine z6<|zb<|zSr<|zVzMf Z<|zVGvlenM je Z<|zVzMi Z<|z6<|zd<|zt (γ := Nat × Nat × List (Int × AV)) [5, 19, 20] (fun g => [(21, .int .i64 g.1)]) (fun g => [(i14, .cells 79 [.own g.2.1 (seeL [] (ps ++ (bs.take g.1).flatMap blkVars)).length, mref b12]), (g.2.1, .grow 1 3 (cI (seeL [] (ps ++ (bs.take g.1).flatMap blkVars)))), (0, mapAO b12 g.2.2)]) (fun g => g.1 ≤ bs.length ∧ MapOf (seeL [] (ps ++ (bs.take g.1).flatMap blkVars)) g.2.2) (fun g => bs.length - g.1) (0, io, es) zR1 ⟨_, (.refl _), by simp only [List.take_zero, List.flatMap_nil, List.append_nil]; rfl⟩ (⟨qc _, by rw [List.take_zero, List.flatMap_nil, List.append_nil]; exact hM⟩) ?_
 rintro ⟨k, io, es⟩ ⟨hk, hM⟩
 try dsimp only at *
 refine zSr<|zVGvlss Z Z<|z6<|zb<|zn Z (fun ck=>?_) (fun ck=>?_)
 ·have hk2 : k < bs.length := by omega
  obtain ⟨b, hbk⟩ : ∃ b, bs[k] = b := ⟨_, rfl⟩
  have hgb : bs[k]? = some b := by rw [q9 hk2, hbk]
  have hbm : b ∈ bs := hbk ▸ qd hk2
  obtain ⟨q1, q2, q3, q4, q5⟩ := hb b hbm
  have hbv := hbs b hbm
  obtain ⟨L0, hL0⟩ : ∃ L0, ps ++ (bs.take k).flatMap blkVars = L0 := ⟨_, rfl⟩
  have hL0v : ∀ v ∈ L0, 0 ≤ v ∧ v < (n : Int) := fun v hv => by
   rw [← hL0] at hv
   rcases List.mem_append.1 hv with h | h
   ·exact hps v h
   ·obtain ⟨c, hc, h2⟩ := List.mem_flatMap.1 h
    exact hbs c (List.mem_of_mem_take hc) v h2
  have hnext : ps ++ (bs.take (k + 1)).flatMap blkVars = L0 ++ blkVars b := by
   rw [qa hk2, List.flatMap_append, hbk, ← qb, hL0]; simp
  rw [hL0] at hM ⊢
  refine zf<|zb<|zd<|zSr<|z7 (zIM k je jj Z Z Z hgb)<|zVGvloadWF Zc jj Z Z<|zo (cs := [.str ⟨#[]⟩, .raw (.slice none 0 0), .raw (.slice none 0 0), .int .i64 0, .int .i64 0, .int .i64 0, .int .i64 0]) jz Z Z<|fun i7 => zm jj Z Z Z Z Z Z .head Z<|yh (y8 (t := 7) Z .head)<|z6<|zb<|zSr<|zVzFF j5 Z Z2 Z Z<|zVzLf Zd Z<|zVGvlenM jl Z<|zVzMi Z<|z6<|zd<|zt (γ := Nat × Nat × List (Int × AV)) [5, 7, 19, 20, 21, 26, 27] (fun g => [(28, .int .i64 g.1)]) (fun g => [(i14, .cells 79 [.own g.2.1 (seeL [] (L0 ++ (b.phis.take g.1).flatMap phiVars)).length, mref b12]), (g.2.1, .grow 1 3 (cI (seeL [] (L0 ++ (b.phis.take g.1).flatMap phiVars)))), (0, mapAO b12 g.2.2)]) (fun g => g.1 ≤ b.phis.length ∧ MapOf (seeL [] (L0 ++ (b.phis.take g.1).flatMap phiVars)) g.2.2) (fun g => b.phis.length - g.1) (0, io, es) zR1 ⟨_, (.refl _), by rw [List.take_zero, List.flatMap_nil, List.append_nil]⟩ (⟨qc _, by rw [List.take_zero, List.flatMap_nil, List.append_nil]; exact hM⟩) ?_
  rintro ⟨m, io, es⟩ ⟨hm, hM⟩
  try dsimp only at *
  refine zSr<|zVGvlss Z Z<|z6<|zb<|zn Z (fun cm=>?_) (fun cm=>?_)
  ·have hm2 : m < b.phis.length := by omega
   obtain ⟨p, hp⟩ : ∃ p, b.phis[m] = p := ⟨_, rfl⟩
   have hgp : b.phis[m]? = some p := by rw [q9 hm2, hp]
   have hpm : p ∈ b.phis := hp ▸ qd hm2
   have hpl2 := (q4 p hpm).1
   have hLv : ∀ v ∈ L0 ++ (b.phis.take m).flatMap phiVars, 0 ≤ v ∧ v < (n : Int) := fun v hv => by
    rcases List.mem_append.1 hv with h | h
    ·exact hL0v v h
    ·obtain ⟨c, hc, h2⟩ := List.mem_flatMap.1 h
     exact hbv v (List.mem_append_left _ (List.mem_flatMap.2 ⟨c, List.mem_of_mem_take hc, h2⟩))
   have hSl := seen_bd hLv
   have hstep : seeL (seeL (seeL [] (L0 ++ (b.phis.take m).flatMap phiVars)) [p.dst]) p.args = seeL [] (L0 ++ (b.phis.take (m + 1)).flatMap phiVars) := by
    rw [qa hm2, List.flatMap_append, hp, ← qb, see_app [] (L0 ++ _)]
    rw [List.flatMap_cons, List.flatMap_nil, List.append_nil]; rfl
   obtain ⟨S, hS⟩ : ∃ S, seeL [] (L0 ++ (b.phis.take m).flatMap phiVars) = S := ⟨_, rfl⟩
   rw [hS] at hM hSl hstep ⊢
   have hS2 := see_len [p.dst] S
   refine zf<|zb<|zd<|zSr<|z7 (zIM m jl jp Z Z Z hgp)<|zVGvloadWF Zf jp Z Z<|zo (cs := [.int .i64 0, .raw (.slice none 0 0), .raw (.slice none 0 0)]) Z4 Z Z<|fun i9 => zm jp Z Z Z Z Z Z .head Z<|yh (y8 (t := 9) Z .head)<|z6<|zSr<|z7 (zMp Z)<|zVzFF jd Z j8 Z Z<|zVzLi jh Z<|zk (rows := [[_]]) ps23_1 Z Z Z Z Z<|yl Z (zy (.l (.l (.l (.rest _))))) (see_spec i14 b12 io S [p.dst] es hM (by simp; omega)) ?_
   rintro r36 O36 ⟨⟨io, es⟩, rfl, rfl, hM⟩
   refine z6<|zRg<|z7 (zMp Z)<|zVzFF jd Z jc Z Z<|zVzLf jm Z<|yl Z (zy (.l (.l (.l (.rest _))))) (see_spec i14 b12 io (seeL S [p.dst]) p.args es hM (by simp at hS2; omega)) ?_
   rintro r40 O40 ⟨⟨io, es⟩, rfl, rfl, hM⟩
   refine z6 ?_
   rw [hstep] at hM ⊢
   refine zRg<|zVzAd Z Z<|zVzMi Z<|z6 ?_
   exact ⟨(m + 1, io, es), zR7, zR1, zLe, ⟨hm2, hM⟩, by dsimp only; omega⟩
  ·obtain rfl : m = b.phis.length := by omega
   obtain ⟨L2, hL2⟩ : ∃ L2, L0 ++ (b.phis.take b.phis.length).flatMap phiVars = L2 := ⟨_, rfl⟩
   have hL2v : ∀ v ∈ L2, 0 ≤ v ∧ v < (n : Int) := fun v hv => by
    rw [← hL2, qe] at hv
    rcases List.mem_append.1 hv with h | h
    ·exact hL0v v h
    ·exact hbv v (List.mem_append_left _ h)
   rw [hL2] at hM ⊢
   refine zr<|zb<|zSr<|zVzFF j5 Z Z3 Z Z<|zVzLf Zh Z<|zVGvlenM jr Z<|zVzMi Z<|z6<|zd<|zt (γ := Nat × Nat × List (Int × AV)) [5, 7, 19, 20, 21, 43, 44] (fun g => [(45, .int .i64 g.1)]) (fun g => [(i14, .cells 79 [.own g.2.1 (seeL [] (L2 ++ (b.insts.take g.1).flatMap instVars)).length, mref b12]), (g.2.1, .grow 1 3 (cI (seeL [] (L2 ++ (b.insts.take g.1).flatMap instVars)))), (0, mapAO b12 g.2.2)]) (fun g => g.1 ≤ b.insts.length ∧ MapOf (seeL [] (L2 ++ (b.insts.take g.1).flatMap instVars)) g.2.2) (fun g => b.insts.length - g.1) (0, io, es) zR1 ⟨_, (.refl _), by rw [List.take_zero, List.flatMap_nil, List.append_nil]⟩ (⟨qc _, by rw [List.take_zero, List.flatMap_nil, List.append_nil]; exact hM⟩) ?_
   rintro ⟨m, io, es⟩ ⟨hm, hM⟩
   try dsimp only at *
   refine zSr<|zVGvlss Z Z<|z6<|zb<|zn Z (fun cm=>?_) (fun cm=>?_)
   ·have hm2 : m < b.insts.length := by omega
    obtain ⟨x, hx⟩ : ∃ x, b.insts[m] = x := ⟨_, rfl⟩
    have hgx : b.insts[m]? = some x := by rw [q9 hm2, hx]
    have hxm : x ∈ b.insts := hx ▸ qd hm2
    have hxl := q5 x hxm
    have hLv : ∀ v ∈ L2 ++ (b.insts.take m).flatMap instVars, 0 ≤ v ∧ v < (n : Int) := fun v hv => by
     rcases List.mem_append.1 hv with h | h
     ·exact hL2v v h
     ·obtain ⟨c, hc, h2⟩ := List.mem_flatMap.1 h
      exact hbv v (List.mem_append_right _ (List.mem_append_left _ (List.mem_flatMap.2 ⟨c, List.mem_of_mem_take hc, h2⟩)))
    have hSl := seen_bd hLv
    have hstep : seeL (seeL [] (L2 ++ (b.insts.take m).flatMap instVars)) (instVars x) = seeL [] (L2 ++ (b.insts.take (m + 1)).flatMap instVars) := by
     rw [qa hm2, List.flatMap_append, hx, ← qb, see_app [] (L2 ++ _)]
     rw [List.flatMap_cons, List.flatMap_nil, List.append_nil]
    obtain ⟨S, hS⟩ : ∃ S, seeL [] (L2 ++ (b.insts.take m).flatMap instVars) = S := ⟨_, rfl⟩
    rw [hS] at hM hSl hstep ⊢
    have hS2 := see_len x.args S
    refine zf<|zb<|zd<|zSr<|z7 (zIM m jr jt Z Z Z hgx)<|zVGvloadWF Zk jt Z Z<|zo (cs := [.int .i64 0, .int .i64 0, .raw (.slice none 0 0), .int .i64 0]) Zb Z Z<|fun i11 => zm jt Z Z Z Z Z Z .head Z<|yh (y8 (t := 11) Z .head)<|z6<|zSr<|z7 (zMp Z)<|zVzFF j9 Z jc Z Z<|zVzLf jm Z<|yl Z (zy (.l (.l (.l (.rest _))))) (see_spec i14 b12 io S x.args es hM (by omega)) ?_
    rintro r52 O52 ⟨⟨io, es⟩, rfl, rfl, hM⟩
    refine z6<|zSr<|zVzFF j9 Z j8 Z Z<|zVzLi jh Z<|z7 (yz Z Z)<|z6<|zn Z (fun cd=>?_) (fun cd=>?_)
    ·have hd : instVars x = x.args ++ [x.dst] := by unfold instVars; rw [if_pos (by first | exact cd | omega)]
     rw [hd, see_app] at hstep
     refine zRg<|z7 (zMp Z)<|zVzFF j9 Z j8 Z Z<|zVzLi jh Z<|zk (rows := [[_]]) ps23_1 Z Z Z Z Z<|yl Z (zy (.l (.l (.l (.rest _))))) (see_spec i14 b12 io (seeL S x.args) [x.dst] es hM (by simp; omega)) ?_
     rintro r60 O60 ⟨⟨io, es⟩, rfl, rfl, hM⟩
     refine z6 ?_
     rw [hstep] at hM ⊢
     refine zRg<|zVzAd Z Z<|zVzMi Z<|z6 ?_
     exact ⟨(m + 1, io, es), zR7, zR1, zLe, ⟨hm2, hM⟩, by dsimp only; omega⟩
    ·have hd : instVars x = x.args := by unfold instVars; rw [if_neg (by first | exact cd | omega), List.append_nil]
     rw [hd] at hstep
     rw [hstep] at hM ⊢
     refine zf<|zRg<|zVzAd Z Z<|zVzMi Z<|z6 ?_
     exact ⟨(m + 1, io, es), zR7, zR1, zLe, ⟨hm2, hM⟩, by dsimp only; omega⟩
   ·obtain rfl : m = b.insts.length := by omega
    rw [qe] at hM ⊢
    have hL3v : ∀ v ∈ L2 ++ b.insts.flatMap instVars, 0 ≤ v ∧ v < (n : Int) := fun v hv => by
     rcases List.mem_append.1 hv with h | h
     ·exact hL2v v h
     ·exact hbv v (List.mem_append_right _ (List.mem_append_left _ h))
    have hSl := seen_bd hL3v
    have hstep : seeL (seeL [] (L2 ++ b.insts.flatMap instVars)) (termVars b.term) = seeL [] (ps ++ (bs.take (k + 1)).flatMap blkVars) := by
     rw [hnext, ← see_app, ← hL2, qe]
     unfold blkVars
     simp only [qb]
    obtain ⟨S, hS⟩ : ∃ S, seeL [] (L2 ++ b.insts.flatMap instVars) = S := ⟨_, rfl⟩
    rw [hS] at hM hSl hstep ⊢
    refine zr<|zSr<|zVzFF j5 Z jq Z Z<|zVzFF j7 Z Za Z Z<|zVzLi Ze Z<|zVGvneqI Z Z<|z6<|zz Z (fun ct=>?_) (fun ct=>?_)
    ·have hd : termVars b.term = [b.term.var] := by unfold termVars; rw [if_neg (by first | exact ct | simpa using ct)]
     rw [hd] at hstep
     refine zRg<|z7 (zMp Z)<|zVzFF j5 Z jq Z Z<|zVzFF j7 Z j8 Z Z<|zVzLi jh Z<|zk (rows := [[_]]) ps23_1 Z Z Z Z Z<|yl Z (zy (.l (.l (.l (.rest _))))) (see_spec i14 b12 io S [b.term.var] es hM (by simp; omega)) ?_
     rintro r71 O71 ⟨⟨io, es⟩, rfl, rfl, hM⟩
     refine z6 ?_
     rw [hstep] at hM ⊢
     refine zRg<|zVzAd Z Z<|zVzMi Z<|z6 ?_
     exact ⟨(k + 1, io, es), zR3, zR1, zLe, ⟨hk2, hM⟩, by dsimp only; omega⟩
    ·have hd : termVars b.term = [] := by unfold termVars; rw [if_pos (by first | exact ct | simpa using ct)]
     rw [hd] at hstep
     have hstep : S = seeL [] (ps ++ (bs.take (k + 1)).flatMap blkVars) := hstep
     rw [hstep] at hM ⊢
     refine zf<|zRg<|zVzAd Z Z<|zVzMi Z<|z6 ?_
     exact ⟨(k + 1, io, es), zR3, zR1, zLe, ⟨hk2, hM⟩, by dsimp only; omega⟩
 ·obtain rfl : k = bs.length := by omega
  rw [qe] at hM ⊢
  refine zr<|zSr<|z7 (zMp Z)<|z7 (zAp Z)<|z6<|zh<|zj (x := .po _ _) Z ?_
  exact ⟨(i14, b12, io, es), rfl, ⟨_, .refl _, rfl⟩, hM⟩
end Go.Proofs.YtpojdepccecpgaaGreatDoor
namespace Go.Proofs.YtpojdepccecpgaaGreatDoor
open Go.Proofs.Tryz
open Go.Proofs
def lC (l : List Rng) : List AV := eP.av l
theorem lC_len (l : List Rng) : (lC l).length = l.length * 2 := eP.av_len l
theorem lC_push (l : List Rng) (r : Rng) : lC l ++ encZ r = lC (l ++ [r]) := eP.av_push l r
theorem lC_cons (r : Rng) (l : List Rng) : lC (r :: l) = .int .i64 r.1 :: .int .i64 r.2 :: lC l := rfl
theorem lC_drop : ∀ (l : List Rng) (j : Nat), (lC l).drop (j * 2) = lC (l.drop j)
 | l, 0 => by simp
 | [], j + 1 => by simp [lC, Enc.av]
 | r :: l, j + 1 => by
  rw [show (j + 1) * 2 = j * 2 + 1 + 1 by omega, lC_cons, List.drop_succ_cons, List.drop_succ_cons, lC_drop l j, List.drop_succ_cons]
theorem lC_get {l : List Rng} {j : Nat} {r : Rng} (h : l[j]? = some r) : (lC l).drop (j * 2) = .int .i64 r.1 :: .int .i64 r.2 :: lC (l.drop (j + 1)) := by
 obtain ⟨hj, e⟩ := List.getElem?_eq_some_iff.1 h
 rw [lC_drop, List.drop_eq_getElem_cons hj, e, lC_cons]
theorem lC_ne {l : List Rng} {j : Nat} (h : j < l.length) : lC l ≠ [] := fun e => by have := lC_len l; rw [e] at this; simp at this; omega
section
variable {E : World} {P : Program} {ops : Array Oper} {K : AEnv → OL → Prop} {env : AEnv} {O O' O'' : OL} {rest : List Oper} {n : Nat}
variable {d ty : Nat} {pos : String} {af : Array Edge} {x y z : Operand} {t u e T : TypeId}
theorem Gv.idxR {i n j : Nat} {a : Int} {T : TypeId} {l : List Rng} (ht : P.underlying t = some (.slice e)) (hs : ∀ w, (sizeOf e).run P w = .ok 2 w) (hx : aev env x = .own i n) (hy : aev env y = .int .i64 a) (hi : a = (j : Int)) (hO : Has O i (.grow 2 T (lC l))) (hn : l.length = n) (hj : j < n) :
  Gv P env O (Oper.mk (some d) (.indexAddr t x y) ty pos af none) (.po i (j * 2)) := Gv.idxO ht hs hx hy hi hO (lC_ne (j := j) (by omega)) hj
theorem Gv.loadR {i j : Nat} {T : TypeId} {l : List Rng} {r : Rng} (ha : ∀ w, (isAgg t).run P w = .ok true w) (hs : ∀ w, (sizeOf t).run P w = .ok 2 w) (hx : aev env x = .po i (j * 2)) (hO : Has O i (.grow 2 T (lC l))) (hv : l[j]? = some r) :
  Gv P env O (Oper.mk (some d) (.load t x) ty pos af none) (.agg (encZ r)) := by
 have hj := (List.getElem?_eq_some_iff.1 hv).1
 exact Gv.loadAG ha hs hx hO (lC_ne hj) (by rw [lC_len]; omega) (by rw [lC_get hv]; rfl)
theorem GStep.knowR {t i m : Nat} {T : TypeId} {l : List Rng} (hv : env t = .own i m) (hO : Pick O i (.grow 2 T (lC l)) O') (hm : l.length = m) : GStep E env O (aupd env t (.fro 2 (l.map encZ))) O' :=
 GStep.know hv (rows := l.map encZ) (by
  have : (l.map encZ).flatten = lC l := by unfold lC Enc.av; rw [List.flatMap]; rfl
  rw [this]; exact hO) (fun r hr => by obtain ⟨_, _, rfl⟩ := List.mem_map.1 hr; rfl) (by decide) (by rw [qg]; exact hm)
end
structure RdL (P : Program) (te ee : TypeId) (Lv : AV) (ptr : Nat → AV) (i : Nat) (HL : AObj) (l : List Rng) : Prop where
 idx : ∀ {env : AEnv} {O : OL} {d ty : Nat} {pos : String} {af : Array Edge} {x y : Operand} {a : Int} {j : Nat}, aev env x = Lv → aev env y = .int .i64 a → a = (j : Int) → j < l.length → Has O i HL → Gv P env O (Oper.mk (some d) (.indexAddr te x y) ty pos af none) (ptr j)
 load : ∀ {env : AEnv} {O : OL} {d ty : Nat} {pos : String} {af : Array Edge} {x : Operand} {j : Nat} {r : Rng}, aev env x = ptr j → l[j]? = some r → Has O i HL → Gv P env O (Oper.mk (some d) (.load ee x) ty pos af none) (.agg (encZ r))
def ptrF (l : List Rng) (j : Nat) : AV := .pf (encZ ((l[j]?).getD noR))
def ptrO (i : Nat) (j : Nat) : AV := .po i (j * 2)
theorem RdL.fro {P : Program} {te ee : TypeId} (ht : P.underlying te = some (.slice ee)) (hs : ∀ w, (sizeOf ee).run P w = .ok 2 w) (ha : ∀ w, (isAgg ee).run P w = .ok true w) (i : Nat) (HL : AObj) (l : List Rng) : RdL P te ee (.fro 2 (l.map encZ)) (ptrF l) i HL l where
 idx hx hy hi hj _ := yi ht hs hx hy hi (by rw [q9 hj]; rfl)
 load hx hv _ := yo ha hs (cs := encZ _) (by rw [hx]; unfold ptrF; rw [hv]; rfl) rfl
theorem RdL.own {P : Program} {te ee : TypeId} (ht : P.underlying te = some (.slice ee)) (hs : ∀ w, (sizeOf ee).run P w = .ok 2 w) (ha : ∀ w, (isAgg ee).run P w = .ok true w) (i : Nat) (T : TypeId) (l : List Rng) (n : Nat) (hn : l.length = n) : RdL P te ee (.own i n) (ptrO i) i (.grow 2 T (lC l)) l where
 idx hx hy hi hj hO := Gv.idxR ht hs hx hy hi hO hn (by omega)
 load hx hv hO := Gv.loadR ha hs hx hO hv
end Go.Proofs.YtpojdepccecpgaaGreatDoor
namespace Go.Proofs.YtpojdepccecpgaaGreatDoor
open Go.Proofs.Tryz
open Go.Proofs
open Go.Sort (Holds putRow putCells onCells flatK HoldsK PermIn SortedIn)
theorem putCells_vs {vs ys junk : List Value} (hl : ys.length = vs.length) : putCells id 0 ys.toArray (vs ++ junk).toArray = (ys ++ junk).toArray := by
 unfold putCells
 apply Array.ext_getElem?
 intro k
 simp only [Array.getElem?_mapIdx, List.getElem?_toArray, qc, true_and, Nat.zero_add, Nat.sub_zero, List.size_toArray]
 by_cases hk : k < ys.length
 ·rw [List.getElem?_append_left (by omega), List.getElem?_append_left (by omega), q9 hk, q9 (by omega : k < vs.length)]
  simp [hk]
 ·rw [List.getElem?_append_right (by omega), List.getElem?_append_right (by omega), hl]
  rw [hl] at hk
  simp only [hk, if_false]
  cases junk[k - vs.length]? <;> rfl
theorem vs_get {α : Type} [Inhabited α] (c : Enc α) : ∀ (l : List α) (t : Nat), t < l.length * c.k → (c.vs l)[t]? = some (c.val l[t / c.k]!)[t % c.k]!
 | [], t, h => by simp at h
 | x :: l, t, h => by
  have e : c.vs (x :: l) = c.val x ++ c.vs l := by unfold Enc.vs; rw [List.flatMap_cons]
  rw [e]
  by_cases ht : t < c.k
  ·rw [List.getElem?_append_left (by rw [c.len]; exact ht), Nat.div_eq_of_lt ht, Nat.mod_eq_of_lt ht, List.getElem!_cons_zero, q9 (by rw [c.len]; exact ht), getElem!_pos (c.val x) t (by rw [c.len]; exact ht)]
  ·obtain ⟨s, rfl⟩ : ∃ s, t = s + c.k := ⟨t - c.k, by omega⟩
   rw [List.getElem?_append_right (by rw [c.len]; omega), c.len, Nat.add_sub_cancel, Nat.add_div_right _ c.pos, Nat.add_mod_right, List.getElem!_cons_succ]
   exact vs_get c l s (by rw [List.length_cons, Nat.add_mul, Nat.one_mul] at h; omega)
theorem flatK_list {α : Type} [Inhabited α] (c : Enc α) (d : Array α) : flatK c.val c.k d = (c.vs d.toList).toArray := by
 refine Go.Sort.ext_get! (by simp [c.vs_len]) fun t ht => ?_
 have ht : t < d.size * c.k := by simpa using ht
 rw [Go.Sort.get_flatK _ _ _ _ ht]
 have := vs_get c d.toList t (by simpa using ht)
 have h2 : (c.vs d.toList).toArray[t]? = some (c.val d.toList[t / c.k]!)[t % c.k]! := by rw [List.getElem?_toArray]; exact this
 have h3 : (c.vs d.toList).toArray[t]! = (c.val d.toList[t / c.k]!)[t % c.k]! := by rw [getElem!_def, h2]
 rw [h3]
 have h4 : d[t / c.k]! = d.toList[t / c.k]! := by rw [getElem!_def, getElem!_def, Array.getElem?_toList]
 rw [h4]
theorem SL.sortedK {α : Type} [Inhabited α] (c : Enc α) {I : Ghost} {O : List (Nat × Obj)} {E w : World} {b n : Nat} {zs : List α} {d : Array α} {junk : List Value} {T : TypeId} {os : Array Obj} (hl : d.size = zs.length) (h : SL I ((b, .cells (c.vs zs ++ junk).toArray T (0, 0)) :: O) E w) :
  SL I ((b, .cells (c.vs d.toList ++ junk).toArray T (0, 0)) :: O) E (sortWorldK c.val c.k w b 0 n d os) := by
 have hb := h.own _ (.head _)
 simp only at hb
 have hlt := lt_of_some hb
 have h1 : SL I ((b, .cells (c.vs d.toList ++ junk).toArray T (0, 0)) :: O) E (putRow id (Go.Sort.ahead w n) b 0 (flatK c.val c.k d)) := by
  rw [flatK_list]
  refine h.turn Z Z Z ?_ fun k hk => ?_
  ·show (w.heap.modify b (onCells (putCells id 0 (c.vs d.toList).toArray)))[b]? = _
   rw [Array.getElem?_modify, if_pos rfl, hb]
   simp only [Option.map_some, onCells, putCells_vs (vs := c.vs zs) (ys := c.vs d.toList) (by rw [c.vs_len, c.vs_len, Array.length_toList, hl])]
  ·show (w.heap.modify b (onCells (putCells id 0 (c.vs d.toList).toArray)))[k]? = _
   rw [Array.getElem?_modify, if_neg (fun e => hk e.symm)]
 exact h1.more rfl rfl rfl fun k hk => Go.Sort.heap_grow_old _ _ hk
theorem ACall.sortedK {α : Type} [Inhabited α] (c : Enc α) {E : World} {P : Program} {f g : FuncId} {fn : Func} {co : Code} {lt : α → α → Bool} {B : Nat} (hf : P.funcs[f]? = some fn) (hb : fn.body = some co) (hn : fn.name ≠ "runtime.NumGoroutine")
  (hC : ∀ (blk cap : Nat) (d : Array α) (w : World), HoldsK c.val c.k w blk 0 d → blk < w.heap.size → d.size < B →
   Calls P f #[.slice (some ⟨blk, 0, none⟩) d.size cap, .func (.func g) #[] #[]] w fun e w' => e = .returned (.tuple #[]) ∧ ∃ d' n os, PermIn 0 d.size d d' ∧ SortedIn lt 0 d.size d' ∧ w' = sortWorldK c.val c.k w blk 0 n d' os)
  (hN : ∀ (cap : Nat) (w : World), Calls P f #[.slice none 0 cap, .func (.func g) #[] #[]] w fun e w' => e = .returned (.tuple #[]) ∧ w' = w)
  {l : List α} {i n : Nat} {T : TypeId} (hl : l.length = n) (hB : n < B) : ACall P E f [.own i n, .fn g [] []] [(i, .grow c.k T (c.av l))] fun r O => ∃ l' : List α, r = .tup [] ∧ O = [(i, .grow c.k T (c.av l'))] ∧ l'.Perm l ∧ l'.Pairwise fun a b => lt b a = false := fun I F w vs h1 h2 => by
 obtain ⟨v, us, rfl, ⟨b, cp, e1, rfl⟩, v2, us2, rfl, ⟨va, vc, rfl, ha, hc⟩, h3⟩ := h1
 have ha : va = [] := ha
 have hc : vc = [] := hc
 have h3 : us2 = [] := h3
 subst ha hc h3
 obtain ⟨ht, L, ⟨A, B', e2, ⟨b', c', n', ws, e3, h4, h5, h6⟩, h7⟩, hS⟩ := h2
 have h7 : B' = [] := h7
 subst h7
 rw [List.append_nil] at e2
 subst e2
 simp only at e3
 rw [e1] at e3
 simp only [Option.some.injEq, Prod.mk.injEq] at e3
 obtain ⟨rfl, rfl⟩ := e3
 have h4 := c.av_un h4
 subst h4
 refine Fn.ofCalls hf hb hn ?_
 obtain ⟨g1, g2, g3⟩ := h6
 rw [c.vs_len] at g1
 have hnn : n' = n := by
  have := Nat.eq_of_mul_eq_mul_right c.pos g1
  omega
 subst hnn
 rcases g3 with ⟨ea, rfl, rfl⟩ | ⟨b2, junk, ea, rfl, hj⟩
 ·have h0 : n' = 0 := by omega
  subst h0
  have hl0 : l = [] := List.eq_nil_of_length_eq_zero hl
  subst hl0
  rw [ea]
  refine (hN 0 w).mono fun e w' ⟨he, hw⟩ => ⟨_, he, I, .tup [], [(i, .grow c.k T (c.av ([] : List α)))], .refl _, ⟨[], Z, Z⟩, ?_, [], Z, Z, .refl _, .nil⟩
  subst hw
  exact ⟨ht, [], ⟨[], [], rfl, ⟨b, 0, 0, [], e1, rfl, by simp, by rw [ea]; exact OwnS.nil c.k T⟩, rfl⟩, hS⟩
 ·rw [ea]
  have hS2 : SL I.k ((b2, .cells (c.vs l ++ junk).toArray T (0, 0)) :: F) E w := hS
  have hH : HoldsK c.val c.k w b2 0 l.toArray := fun j hjl => by
   rw [flatK_list] at hjl ⊢
   have hj2 : j < (c.vs l).length := by simpa using hjl
   have hbk := hS2.own _ (.head _)
   simp only at hbk
   refine ⟨?_, ?_⟩
   ·rw [hS2.cell_own, Nat.zero_add, List.getElem?_toArray, List.getElem?_append_left hj2, q9 hj2]
    simp [hj2]
   ·simp [World.frozen?, hbk]
  have := hC b2 cp l.toArray w hH (lt_of_some (hS2.own _ (.head _))) (by simp; omega)
  rw [List.size_toArray, hl] at this
  refine this.mono fun e w' ⟨he, d', k, os, hp, hs, hw⟩ => ?_
  obtain ⟨p1, _, p3⟩ := hp
  have p1 : d'.size = l.length := p1
  have p4 : d'.toList.Perm l := by
   have e1 : d'.extract 0 n' = d' := by
    have : n' = d'.size := by omega
    rw [this]; exact Array.extract_size
   have e2 : l.toArray.extract 0 n' = l.toArray := by
    have : n' = l.toArray.size := by rw [List.size_toArray, hl]
    rw [this]; exact Array.extract_size
   rw [e1, e2] at p3
   exact p3
  refine ⟨_, he, I, .tup [], [(i, .grow c.k T (c.av d'.toList))], .refl _, ⟨[], Z, Z⟩, ?_, d'.toList, Z, Z, p4, ?_⟩
  ·subst hw
   refine ⟨ht, [(b2, .cells (c.vs d'.toList ++ junk).toArray T (0, 0))], ⟨_, [], by simp, ⟨b, cp, n', c.vs d'.toList, e1, by rw [c.av_eq]; exact lit_reps _ _, c.vs_one _, by rw [c.vs_len]; simp only [Array.length_toList]; rw [p1, hl], g2, .inr ⟨b2, junk, ea, rfl, by rw [qf, c.vs_len] at hj ⊢; simp only [Array.length_toList]; rw [p1]; exact hj⟩⟩, rfl⟩, ?_⟩
   exact SL.sortedK c p1 hS2
  ·rw [List.pairwise_iff_getElem]
   intro x y hx hy hxy
   have hy2 : y < d'.size := by simpa using hy
   have := hs x y (qc _) hxy (by omega)
   rw [getElem!_pos d' y hy2, getElem!_pos d' x (by omega)] at this
   simpa using this
end Go.Proofs.YtpojdepccecpgaaGreatDoor
namespace Go.Proofs
open Go.Shelf
def Tryz.sortPr_ren : Go.Shelf.Ren := ⟨fun | 6 => 86 | 15 => 120 | 14 => 123 | 28 => 156 | 29 => 157 | 20 => 158 | 21 => 159 | 22 => 160 | 23 => 161 | 24 => 162 | 25 => 163 | 26 => 164 | 27 => 165 | 46 => 183 | 47 => 179 | 48 => 180 | 49 => 184 | 50 => 185 | 57 => 194 | n => n, fun | 22 => 139 | 24 => 141 | 25 => 144 | 3 => 3 | 39 => 132 | 0 => 0 | 53 => 210 | 55 => 53 | 4 => 4 | 46 => 204 | 45 => 203 | 50 => 145 | 5 => 5 | 9 => 9 | 66 => 228 | 70 => 232 | 76 => 247 | 77 => 248 | n => n, fun | n => n⟩
theorem Tryz.sortPr : Go.Proofs.SlLaysF0.n6 prog Tryz.sortPr_ren := {
 mixed := by kernel_rfl
 f6 := ⟨Tryz.f86.name, by decide, func86.trans (congrArg some (by kernel_rfl))⟩
 f14 := ⟨Tryz.f123.name, by decide, func123.trans (congrArg some (by kernel_rfl))⟩
 f15 := func120.trans (congrArg some (by kernel_rfl))
 f20 := ⟨Tryz.f158.name, by decide, func158.trans (congrArg some (by kernel_rfl))⟩
 f21 := ⟨Tryz.f159.name, by decide, func159.trans (congrArg some (by kernel_rfl))⟩
 f22 := ⟨Tryz.f160.name, by decide, func160.trans (congrArg some (by kernel_rfl))⟩
 f23 := ⟨Tryz.f161.name, by decide, func161.trans (congrArg some (by kernel_rfl))⟩
 f24 := ⟨Tryz.f162.name, by decide, func162.trans (congrArg some (by kernel_rfl))⟩
 f25 := ⟨Tryz.f163.name, by decide, func163.trans (congrArg some (by kernel_rfl))⟩
 f26 := ⟨Tryz.f164.name, by decide, func164.trans (congrArg some (by kernel_rfl))⟩
 f27 := ⟨Tryz.f165.name, by decide, func165.trans (congrArg some (by kernel_rfl))⟩
 f28 := func156.trans (congrArg some (by kernel_rfl))
 f29 := func157.trans (congrArg some (by kernel_rfl))
 f46 := ⟨Tryz.f183.name, by decide, func183.trans (congrArg some (by kernel_rfl))⟩
 f47 := func179.trans (congrArg some (by kernel_rfl))
 f48 := func180.trans (congrArg some (by kernel_rfl))
 f49 := ⟨Tryz.f184.name, by decide, func184.trans (congrArg some (by kernel_rfl))⟩
 f50 := ⟨Tryz.f185.name, by decide, func185.trans (congrArg some (by kernel_rfl))⟩
 f57 := ⟨Tryz.f194.name, by decide, func194.trans (congrArg some (by kernel_rfl))⟩
 t0 := underlying0
 a0 := isAgg0
 z0 := sizeOf0
 v0 := zeroValue0
 t3 := underlying3
 a3 := isAgg3
 z3 := sizeOf3
 v3 := zeroValue3
 t4 := underlying4
 a4 := isAgg4
 z4 := sizeOf4
 v4 := zeroValue4
 t5 := underlying5
 a5 := isAgg5
 z5 := sizeOf5
 v5 := zeroValue5
 t9 := underlying9
 a9 := isAgg9
 z9 := sizeOf9
 v9 := zeroValue9
 t22 := underlying139
 a22 := isAgg139
 z22 := sizeOf139
 v22 := zeroValue139
 t25 := underlying144
 a25 := isAgg144
 z25 := sizeOf144
 v25 := zeroValue144
 t39 := underlying132
 a39 := isAgg132
 z39 := sizeOf132
 v39 := zeroValue132
 t45 := underlying203
 a45 := isAgg203
 z45 := sizeOf203
 v45 := zeroValue203
 t46 := underlying204
 a46 := isAgg204
 z46 := sizeOf204
 v46 := zeroValue204
 t50 := underlying145
 a50 := isAgg145
 z50 := sizeOf145
 v50 := zeroValue145
 t53 := underlying210
 a53 := isAgg210
 z53 := sizeOf210
 v53 := zeroValue210
 t55 := underlying53
 a55 := isAgg53
 z55 := sizeOf53
 v55 := zeroValue53
 t66 := underlying228
 a66 := isAgg228
 z66 := sizeOf228
 v66 := zeroValue228
 t70 := underlying232
 a70 := isAgg232
 z70 := sizeOf232
 v70 := zeroValue232
 t76 := underlying247
 a76 := isAgg247
 z76 := sizeOf247
 v76 := zeroValue247
 t77 := underlying248
 a77 := isAgg248
 z77 := sizeOf248
 v77 := zeroValue248 }
end Go.Proofs
namespace Go.Proofs.YtpojdepccecpgaaGreatDoor
open Go.Proofs.Tryz
open Go.Proofs Go.Lib Go.Shelf Go.RowKit
variable {E : World}
set_option maxRecDepth 20000
theorem right_spec (f : PFunc) (hf : small f) (hL : Letters E) : AFun prog E 46 [.agg (encF f)] (.bool (typedB f)) := by
 refine zl func46 Z (by decide) Z<|zSr<|y4 (cs := _) Z Z Z<|zVzAb Z<|z6<|zSr<|zVGvloadWF jk jg Z Z<|ze (Typed_spec f hf hL) Z<|zVGveqlI Z Z<|zVzAb Z<|z6<|zh<|zj (x := .bool _) Z ?_
 cases typedB f <;> rfl
theorem typedB_ends {f : PFunc} (h : typedB f = true) : EndsOk f := by
 unfold typedB at h
 rw [qn, shapedB_eq] at h
 exact (of_decide_eq_true h.1).ends
theorem orderO_spec (f : PFunc) (hE : EndsOk f) (hn : f.blocks.length ≤ 1000) : AFun prog E 83 [.agg (encF f)] (.fro 1 ((orderT (EndsOf f) f.blocks.length).map encI)) :=
 order_spec f hE (by omega) fun l i T h => reverse_own l i T h
theorem orderX_spec (f : PFunc) (hf : small f) (hL : Letters E) (ht : typedB f = true) : AFun prog E 53 [.agg (encF f)] (.fro 1 ((orderT (EndsOf f) f.blocks.length).map encI)) := by
 have hn := hf.2.2.1
 refine zl func53 Z (by decide) Z<|zSr<|y4 (cs := _) Z Z Z<|z7 (zAr Z)<|z6<|zb<|zSr<|zVGvloadWF jk jg Z Z<|ze (right_spec f hf hL) Z<|zVGvnot Z<|z6<|yf Z (by rw [ht]; rfl)<|zf<|zSr<|zVGvloadWF jk jg Z Z<|ze (orderO_spec f (typedB_ends ht) (by omega)) Z<|z7 (zAf Z)<|z6<|zh<|zj (x := .fro _ _) Z ?_
 rfl
def encB (x : Bool) : List AV := [.bool x]
theorem reach_spec (f : PFunc) (hE : EndsOk f) (hn : f.blocks.length ≤ 1000) : AFun prog E 48 [.agg (encF f)] (.fro 1 ((reachB (EndsOf f) f.blocks.length).map encB)) := by
 have hG := hE.grph
 have hol := order_len hG
 refine zl func48 Z (by decide) Z<|zSr<|y4 (cs := _) Z Z Z<|z7 (zAr Z)<|z6<|zSr<|zVzFF j6 Z jo Z Z<|zVzLf jw Z<|zVGvlenM je Z<|AOps.makeB (m := f.blocks.length) Zo type4 Z Z Z Z Z (by simp) (by simp) (by show (1 : Int) * _ ≤ _; omega) (by omega)<|fun i9 => z7 (zAo Z)<|z6<|zb<|zSr<|zVGvloadWF jk jg Z Z<|ze (orderO_spec f hE hn) Z<|zVGvlenM j4 Z<|zVzMi Z<|z6<|zd<|zt (γ := Nat) [3, 11, 12] (fun k => [(13, .int .i64 k)]) (fun k => [(i9, .grow 1 4 (cB (setsT (List.replicate f.blocks.length false) ((orderT (EndsOf f) f.blocks.length).take k))))]) (fun k => k ≤ (orderT (EndsOf f) f.blocks.length).length) (fun k => (orderT (EndsOf f) f.blocks.length).length - k) 0 zR1 zLe (qc _) ?_
 rintro k hk
 refine zSr<|zVGvlss Z Z<|z6<|zb<|zn Z (fun ck=>?_) (fun ck=>?_)
 ·have hk2 : k < (orderT (EndsOf f) f.blocks.length).length := by simp at ck; omega
  obtain ⟨b, hb⟩ : ∃ b, (orderT (EndsOf f) f.blocks.length)[k] = b := ⟨_, rfl⟩
  have hr := order_rng hG.toEOk (hb ▸ qd hk2)
  refine zf<|zb<|zd<|zSr<|z7 (zIM k j4 j8 Z Z Z (by rw [q9 hk2, hb])) ?_
  refine zVzLi jh Z<|zVzAi Z<|z6<|zRg<|z7 (zMo Z)<|zVzMi Z<|z7 (Gv.idxI (j := b.toNat) Zo Zs Z Z (by omega) ⟨_, .head⟩ (by rw [cB_len, setsT_len]; simp) (by omega))<|AOps.storeB (j := b.toNat) Zs Z Z .head (by rw [setsT_len]; simp; omega)<|z6<|zRg<|zVzAd Z Z<|zVzMi Z<|z6 ?_
  exact ⟨k + 1, zR3, zR1, ⟨_, (.refl _), by rw [qa hk2, setsT_snoc, hb]⟩, hk2, by omega⟩
 ·have hkn : k = (orderT (EndsOf f) f.blocks.length).length := by simp at ck; omega
  subst hkn
  rw [qe]
  refine zr<|zSr<|z7 (zMo Z)<|z7 (zAo Z)<|z6<|y2 (GStep.knowB (t := 2) Z .head (by rw [setsT_len]; simp))<|zh<|zj (x := .fro _ _) Z ?_
  rfl
theorem cloneO (xs : List Int) (hl : xs.length ≤ 1000) : ACall prog E 27 [.fro 1 (xs.map encI)] [] (fun x O' => ∃ i : Nat, x = .own i xs.length ∧ O' = [(i, .grow 1 3 (cI xs))]) := by
 refine zl func27 Z (by decide) Z<|zSr<|z7 (zAr Z)<|z6<|zb<|zSr<|zVzMf Z<|AOps.isNil j4 Z Z (fun hnil=>?_) ?_
 ·have hx : xs = [] := by simpa using hnil
  subst hx
  refine z6<|ym Z Z<|zSr<|z7 (zAr Z)<|z6<|zh ?_
  repeat (first | refine aseqQ_ret ?_ | refine ablockQ_ret ?_)
  refine adopt_fin (s := 2) (k := 1) (T := 3) Z (fun i=>?_)
  refine zj (x := .own _ _) Z ?_
  exact ⟨i, rfl, rfl⟩
 ·refine z6<|yf Z Z<|zf<|zSr<|AOps.buildSlice0 (k := 1) j4 Zu<|fun i5 => zVzMf Z<|zu (k := 1) j4 Zu Z Z Z Z Z (fun _ => .head) (by simp) (by decide) (all_cell (fun _ => Z) xs) (by show (_ + _) * 8 ≤ _; simp <;> omega) (by simp <;> omega)<|fun i7 => z7 (zAo Z)<|z6<|zh<|zj (x := .own _ _) Z ?_
  exact ⟨i7, (by simp), by rw [← cI_flat]; rfl⟩
theorem predsR_row (f : PFunc) {k : Nat} (h : k < f.blocks.length) : (predsR f f.blocks.length)[k]? = some (predsT (EndsOf f) f.blocks.length (k : Int)) := by unfold predsR; rw [qh, List.getElem?_range h]; rfl
theorem joined_spec (f : PFunc) (hE : EndsOk f) (hf : small f) : AFun prog E 47 [.agg (encF f)] (.bool (joinedB f)) := by
 have hn := hf.2.2.1
 refine zl func47 Z (by decide) Z<|zSr<|y4 (cs := _) Z Z Z<|zVzAb Z<|z6<|zSr<|zVGvloadWF jk jg Z Z<|ze (preds_spec f hE (by omega)) Z<|z7 (zAf Z)<|z6<|zb<|zSr<|zVzFF j6 Z jo Z Z<|zVzLf jw Z<|zVGvlenM je Z<|zVzMi Z<|z6<|zd<|zt (γ := Nat) [3, 12, 13] (fun k => [(14, .int .i64 k)]) (fun k => []) (fun k => k ≤ f.blocks.length ∧ (List.range k).all (blkJ f) = true) (fun k => f.blocks.length - k) 0 zR1 zLe (⟨qc _, Z⟩) ?_
 rintro k ⟨hk, hall⟩
 refine zSr<|zVGvlss Z Z<|z6<|zb<|zn Z (fun ck=>?_) (fun ck=>?_)
 ·have hk2 : k < f.blocks.length := by simp at ck; omega
  obtain ⟨b, hbk⟩ : ∃ b, f.blocks[k] = b := ⟨_, rfl⟩
  have hget : f.blocks[k]? = some b := by rw [q9 hk2, hbk]
  obtain ⟨hb0, hb1, hb2, hb3, hb4⟩ := hf.2.2.2.2 b (hbk ▸ qd hk2)
  refine zf<|zb<|zd<|zSr<|zVzMi Z<|z7 (zIM k je jj Z Z Z hget)<|zVGvloadWF Zc jj Z Z<|zo (cs := [.str ⟨#[]⟩, .raw (.slice none 0 0), .raw (.slice none 0 0), .int .i64 0, .int .i64 0, .int .i64 0, .int .i64 0]) jz Z Z<|fun i5 => zVzAi Z<|zm jj Z Z Z Z Z Z .head Z<|yh (y8 (t := 5) Z .head)<|z6<|zSr<|zVzFF j5 Z Z2 Z Z<|zVzLf Zd Z<|zVGvlenM jl Z<|zVzMi Z<|z6<|zd<|zt (γ := Nat) [3, 4, 12, 13, 14, 20, 21] (fun j => [(22, .int .i64 j)]) (fun j => []) (fun j => j ≤ b.phis.length ∧ (b.phis.take j).all (phJ f k) = true) (fun j => b.phis.length - j) 0 zR1 zLe (⟨qc _, Z⟩) ?_
  rintro j ⟨hj, hjall⟩
  refine zSr<|zVGvlss Z Z<|z6<|zb<|zn Z (fun cj=>?_) (fun cj=>?_)
  ·have hj2 : j < b.phis.length := by simp at cj; omega
   have hpf := (hb3 _ (qd hj2)).2
   refine zf<|zb<|zd<|zSr<|z7 (zIM j jl jp Z Z Z (q9 hj2))<|zVGvloadWF Zf jp Z Z<|zo (cs := [.int .i64 0, .raw (.slice none 0 0), .raw (.slice none 0 0)]) Z4 Z Z<|fun i7 => zm jp Z Z Z Z Z Z .head Z<|yh (y8 (t := 7) Z .head)<|z6<|zSr<|zVzFF jd Z jc Z Z<|zVzLf jm Z<|yl Z (zy (.rest _)) (cloneO b.phis[j].from_ hpf) ?_
   rintro r28 O28 ⟨i8, rfl, rfl⟩
   refine z7 (zAo Z)<|z6<|zSr<|z7 (zMo Z)<|yl Z (zy (.l (.rest _))) (sort_own b.phis[j].from_ i8 _ (by omega)) ?_
   rintro r30 O30 ⟨rfl, rfl⟩
   refine z6<|y2 (GStep.knowI (t := 8) Z .head (by rw [(sortI_perm _).length_eq]))<|zSr<|zVzMf Z<|zVzMf Z<|zVzMi Z<|z7 (zIM k underlying97 jc Z Z Z (predsR_row f hk2))<|zVzLf jm Z<|ze (equalI_spec (sortI b.phis[j].from_) (predsT (EndsOf f) f.blocks.length (k : Int)) (by unfold okL; rw [(sortI_perm _).length_eq]; omega)) Z<|zVGvnot Z<|z6<|zz Z (fun cq=>?_) (fun cq=>?_)
   ·refine zSr<|zVzAb Z<|z6<|zh<|zj (x := .bool _) Z ?_
    rw [show joinedB f = false from range_all_bad hk2 (by rw [blkJ_at hget]; exact Bool.eq_false_iff.2 (all_bad hj2 (by simpa [phJ] using cq)))]
   ·refine zf<|zRg<|zVzAd Z Z<|zVzMi Z<|z6 ?_
    exact ⟨j + 1, zR7, zR1, zLe, ⟨hj2, all_take hj2 hjall (by simpa [phJ] using cq)⟩, by omega⟩
  ·have hjn : j = b.phis.length := by simp at cj; omega
   subst hjn
   rw [qe] at hjall
   refine zr<|zRg<|zVzAd Z Z<|zVzMi Z<|z6 ?_
   exact ⟨k + 1, zR3, zR1, zLe, ⟨hk2, range_all_succ hall (by rw [blkJ_at hget]; exact hjall)⟩, by omega⟩
 ·have hkn : k = f.blocks.length := by simp at ck; omega
  subst hkn
  refine zr<|zSr<|zVzAb Z<|z6<|zh<|zj (x := .bool _) Z ?_
  rw [show joinedB f = true from hall]
theorem joinedX_spec (f : PFunc) (hf : small f) (hL : Letters E) : AFun prog E 23 [.agg (encF f)] (.int .i64 (if (typedB f && joinedB f) = true then 0 else 3)) := by
 refine zl func23 Z (by decide) Z<|zSr<|y4 (cs := _) Z Z Z<|zVzAi Z<|z6<|zb<|zSr<|zVGvloadWF jk jg Z Z<|ze (right_spec f hf hL) Z<|zVGvnot Z<|zVzMb Z<|zp (s := 6) Z (fun ct=>?_) (fun ct=>?_)
 ·refine z8 Z Z ct<|z8 Z Z ct<|z8 Z Z ct<|zVzPt Z ct Z<|z6<|ym Z Z<|zSr<|zVzAi Z<|z6<|zh<|zj (x := .int _ _) Z ?_
  rw [show typedB f = false by simpa using ct]; rfl
 ·have ht : typedB f = true := by simpa using ct
  refine za Z Z ct<|zVGvloadWF jk jg Z Z<|za Z Z ct<|ze (joined_spec f (typedB_ends ht) hf) Z<|za Z Z ct<|zVGvnot Z<|zVzPf Z ct Z<|z6<|zz Z (fun cj=>?_) (fun cj=>?_)
  ·refine zSr<|zVzAi Z<|z6<|zh<|zj (x := .int _ _) Z ?_
   rw [show joinedB f = false by simpa using cj]; simp
  ·refine zf<|zSr<|zVzAi Z<|z6<|zh<|zj (x := .int _ _) Z ?_
   rw [ht, show joinedB f = true by simpa using cj]; rfl
end Go.Proofs.YtpojdepccecpgaaGreatDoor
namespace Go.Proofs.YtpojdepccecpgaaGreatDoor
open Go.Proofs.Tryz
section
variable {S : Int → List Int} {at_ : Int → Int} {V : List Int} {N : Int → Int}
end
section
variable {S : Int → List Int} {at_ V : List Int} {preds : Int → List Int} {n : Nat}
end
section
variable {E : Int → List Int} {n : Nat}
end
end Go.Proofs.YtpojdepccecpgaaGreatDoor
namespace Go.Proofs.YtpojdepccecpgaaGreatDoor
open Go.Proofs.Tryz
open Go.Proofs
variable {E : World}
set_option maxRecDepth 20000
end Go.Proofs.YtpojdepccecpgaaGreatDoor
namespace Go.Proofs.YtpojdepccecpgaaGreatDoor
open Go.Proofs.Tryz
open Go.Proofs
variable {E : World}
set_option maxRecDepth 20000
end Go.Proofs.YtpojdepccecpgaaGreatDoor
namespace Go.Proofs.YtpojdepccecpgaaGreatDoor
open Go.Proofs.Tryz
section
variable {E : World} {P : Program} {env : AEnv} {O O' O'' : OL}
theorem ACall.weak {f : FuncId} {args : List AV} {R : AV → OL → Prop} {y : AV} (h : ACall P E f args [] R) (hr : ∀ x O, R x O → O = [] ∧ ∀ I v, RepV I x v → RepV I y v) : AFun P E f args y := fun I F w vs h1 h2 =>
 (h I F w vs h1 h2).mono fun v w' ⟨J, x, O', a, b, c, d⟩ => by
  obtain ⟨e, hv⟩ := hr x O' d
  subst e
  exact ⟨J, y, [], a, hv _ _ b, c, rfl⟩
variable {d ty : Nat} {pos : String} {af : Array Edge} {x y z : Operand} {t u e T : TypeId}
end
end Go.Proofs.YtpojdepccecpgaaGreatDoor
namespace Go.Proofs.YtpojdepccecpgaaGreatDoor
open Go.Proofs.Tryz
open Go.Proofs
variable {E : World}
set_option maxRecDepth 20000
def FrI (n : Nat) (rows : List (List Int)) : Prop := rows.length = n ∧ ∀ r ∈ rows, r.Nodup ∧ ∀ x ∈ r, 0 ≤ x ∧ x < n
theorem FrI.len {n : Nat} {rows : List (List Int)} (h : FrI n rows) {r : List Int} (hr : r ∈ rows) : r.length ≤ n := by
 have := nodup_len r (intsTo n) (h.2 r hr).1 fun x hx => mem_intsTo.2 ((h.2 r hr).2 x hx)
 rwa [intsTo_len] at this
theorem FrI.push {n : Nat} {rows : List (List Int)} (h : FrI n rows) {j : Nat} (hj : j < rows.length) {b : Int} (h0 : 0 ≤ b) (hb : b < n) (hn : b ∉ rows[j]) : FrI n (rows.set j (rows[j] ++ [b])) := by
 refine ⟨by rw [List.length_set]; exact h.1, fun r hr => ?_⟩
 rcases List.mem_or_eq_of_mem_set hr with hr | rfl
 ·exact h.2 r hr
 ·obtain ⟨g1, g2⟩ := h.2 _ (qd hj)
  refine ⟨List.nodup_append.2 ⟨g1, by simp, fun x hx y hy e => ?_⟩, fun x hx => ?_⟩
  ·simp at hy; subst hy; subst e; exact hn hx
  ·rcases List.mem_append.1 hx with hx | hx
   ·exact g2 x hx
   ·simp at hx; subst hx; exact ⟨h0, hb⟩
theorem FrI.begin (n : Nat) : FrI n (List.replicate n []) := ⟨by simp, fun r hr => by rw [List.eq_of_mem_replicate hr]; exact ⟨by simp, fun x hx => by cases hx⟩⟩
section
variable {S : Int → List Int} {n : Nat} (hG : Grph S n)
include hG
end
end Go.Proofs.YtpojdepccecpgaaGreatDoor
namespace Go.Proofs.YtpojdepccecpgaaGreatDoor
open Go.Proofs.Tryz
open Go.Proofs
variable {E : World}
set_option maxRecDepth 20000
section
variable {S : Int → List Int} {n : Nat} (hG : Grph S n)
include hG
end
end Go.Proofs.YtpojdepccecpgaaGreatDoor
namespace Go.Proofs.YtpojdepccecpgaaGreatDoor
open Go.Proofs.Tryz
open Go.Proofs Go.Lib Go.Shelf Go.RowKit
variable {E : World}
set_option maxRecDepth 20000
end Go.Proofs.YtpojdepccecpgaaGreatDoor
namespace Go.Proofs.YtpojdepccecpgaaGreatDoor
open Go.Proofs.Tryz
open Go.Proofs Go.Lib Go.Shelf Go.RowKit
variable {E : World}
set_option maxRecDepth 20000
theorem small.evs {f : PFunc} (hf : small f) {k : Nat} (hk : k ≤ f.blocks.length) : (evTo f k).length ≤ 2000000 := by
 have h1 := evTo_len (m := 2000) (fun b hb => by have := hf.2.2.2.2 b hb; have h2 := this.2.1; have h3 := this.2.2.1; omega) k hk
 have := hf.2.2.1
 omega
end Go.Proofs.YtpojdepccecpgaaGreatDoor
namespace Go.Proofs.YtpojdepccecpgaaGreatDoor
open Go.Proofs.Tryz
open Go.Proofs Go.Lib Go.Shelf Go.RowKit
variable {E : World}
set_option maxRecDepth 20000
end Go.Proofs.YtpojdepccecpgaaGreatDoor
namespace Go.Proofs.YtpojdepccecpgaaGreatDoor
open Go.Proofs.Tryz
open Go.Proofs Go.Lib Go.Shelf Go.RowKit
variable {E : World}
set_option maxRecDepth 20000
end Go.Proofs.YtpojdepccecpgaaGreatDoor
namespace Go.Proofs.YtpojdepccecpgaaGreatDoor
open Go.Proofs.Tryz
open Go.Proofs Go.Lib Go.Shelf Go.RowKit
variable {E : World}
set_option maxRecDepth 20000
theorem mem_endsL (t : PTerm) (b : Int) : b ∈ endsL t ↔ (t.kind = 0 ∧ t.to0 = b) ∨ (t.kind = 1 ∧ (t.to0 = b ∨ t.to1 = b)) := by
 unfold endsL
 by_cases h0 : t.kind = 0
 ·rw [if_pos h0]; simp [h0]; exact eq_comm
 ·rw [if_neg h0]
  by_cases h1 : t.kind = 1
  ·rw [if_pos h1]
   by_cases h2 : t.to0 = t.to1
   ·rw [if_pos h2]; simp [h1, h2]; exact eq_comm
   ·rw [if_neg h2]; simp [h1]
    constructor
    ·rintro (h | h); exact .inl h.symm; exact .inr h.symm
    ·rintro (h | h); exact .inl h.symm; exact .inr h.symm
  ·rw [if_neg h1]; simp [h0, h1]
theorem leads_spec (f : PFunc) (hn : f.blocks.length ≤ 1000) (a b : Int) (h0 : 0 ≤ a) (ha : a < f.blocks.length) : AFun prog E 67 [.agg (encF f), .int .i64 a, .int .i64 b] (.bool (decide (b ∈ EndsOf f a))) := by
 obtain ⟨c, hc⟩ : ∃ c, f.blocks[a.toNat]'(by omega) = c := ⟨_, rfl⟩
 have hget : f.blocks[a.toNat]? = some c := by rw [q9 (by omega), hc]
 have hE : EndsOf f a = endsL c.term := by rw [EndsOf_get h0 (by omega), hc]
 rw [hE]
 refine zl func67 Z (by decide) Z<|zSr<|y4 (cs := _) Z Z Z<|zVzAb Z<|z6<|zSr<|zVzFF j6 Z jo Z Z<|zVzLf jw Z<|zVzMi Z<|z7 (zIM a.toNat je jj Z Z (by omega) hget)<|zVzFF j5 Z jq Z Z<|zVGvloadWF Zt jq Z Z<|zo (cs := [.int .i64 0, .int .i64 0, .int .i64 0, .int .i64 0]) zeroValue66 Z Z<|fun i7 => zm jq Z Z Z Z Z Z .head Z<|yh (y8 (t := 7) Z .head)<|z6<|zSr<|zVzFF j7 Z Za Z Z<|zVzLi Ze Z<|zVGveqlI Z Z<|zVzMb Z<|zp (s := 17) Z (fun c1=>?_) (fun c1=>?_)
 ·refine za Z Z c1<|zVzFF j7 Z js Z Z<|za Z Z c1<|z7 (yj (j := 0) ji j8 Z Z Z (by decide) Z)<|za Z Z c1<|zVzLi jh Z<|za Z Z c1<|zVzMi Z<|za Z Z c1<|zVGveqlI Z Z<|zVzPt Z c1 Z<|zVzMb Z<|zp (s := 24) Z (fun c2=>?_) (fun c2=>?_)
  ·refine z8 Z Z c2<|z8 Z Z c2<|z8 Z Z c2<|z8 Z Z c2<|zg Z Z<|zg Z Z<|zg Z Z<|zg Z Z<|zg Z Z<|zg Z Z<|zg Z Z<|zg Z Z<|zg Z Z<|zg Z Z<|zg Z Z<|zg Z Z<|z8 Z Z c2<|zVzPt Z c2 Z<|zVzAb Z<|z6<|zh<|zj (x := .bool _) Z<|congrArg AV.bool ?_; rw [Bool.eq_iff_iff]; simp only [qp, mem_endsL]; simp_all
  ·refine za Z Z c2<|zVzFF j7 Z Za Z Z<|za Z Z c2<|zVzLi Ze Z<|za Z Z c2<|zVGveqlI Z Z<|za Z Z c2<|zVzMb Z<|zp (s := 28) Z (fun c3=>?_) (fun c3=>?_)
   ·refine za Z Z c3<|zVzFF j7 Z js Z Z<|za Z Z c3<|z7 (yj (j := 0) ji j8 Z Z Z (by decide) Z)<|za Z Z c3<|zVzLi jh Z<|za Z Z c3<|zVzMi Z<|za Z Z c3<|zVGveqlI Z Z<|za Z Z c3<|zVzMb Z<|zp (s := 34) Z (fun c4=>?_) (fun c4=>?_)
    ·refine z8 Z Z c4<|z8 Z Z c4<|z8 Z Z c4<|z8 Z Z c4<|z8 Z Z c4<|za Z Z c3<|zVzPt Z c4 Z<|za Z Z c2<|zVzPt Z c3 Z<|zVzPf Z c2 Z<|zVzAb Z<|z6<|zh<|zj (x := .bool _) Z<|congrArg AV.bool ?_; rw [Bool.eq_iff_iff]; simp only [qp, mem_endsL]; simp_all
    ·refine za Z Z c4<|zVzFF j7 Z js Z Z<|za Z Z c4<|z7 (yj (j := 1) ji j8 Z Z Z (by decide) Z)<|za Z Z c4<|zVzLi jh Z<|za Z Z c4<|zVzMi Z<|za Z Z c4<|zVGveqlI Z Z<|za Z Z c3<|zVzPf Z c4 Z<|za Z Z c2<|zVzPt Z c3 Z<|zVzPf Z c2 Z<|zVzAb Z<|z6<|zh<|zj (x := .bool _) Z<|congrArg AV.bool ?_; rw [Bool.eq_iff_iff]; simp only [qp, mem_endsL]; simp_all
   ·refine z8 Z Z c3<|z8 Z Z c3<|z8 Z Z c3<|z8 Z Z c3<|z8 Z Z c3<|z8 Z Z c3<|zg Z Z<|zg Z Z<|zg Z Z<|zg Z Z<|zg Z Z<|z8 Z Z c3<|za Z Z c2<|zVzPf Z c3 Z<|zVzPf Z c2 Z<|zVzAb Z<|z6<|zh<|zj (x := .bool _) Z<|congrArg AV.bool ?_; rw [Bool.eq_iff_iff]; simp only [qp, mem_endsL]; simp_all
 ·refine z8 Z Z c1<|z8 Z Z c1<|z8 Z Z c1<|z8 Z Z c1<|z8 Z Z c1<|zVzPf Z c1 Z<|zVzMb Z<|za Z Z Z<|zVzFF j7 Z Za Z Z<|za Z Z Z<|zVzLi Ze Z<|za Z Z Z<|zVGveqlI Z Z<|za Z Z Z<|zVzMb Z<|zp (s := 28) Z (fun c5=>?_) (fun c5=>?_)
  ·refine za Z Z c5<|zVzFF j7 Z js Z Z<|za Z Z c5<|z7 (yj (j := 0) ji j8 Z Z Z (by decide) Z)<|za Z Z c5<|zVzLi jh Z<|za Z Z c5<|zVzMi Z<|za Z Z c5<|zVGveqlI Z Z<|za Z Z c5<|zVzMb Z<|zp (s := 34) Z (fun c6=>?_) (fun c6=>?_)
   ·refine z8 Z Z c6<|z8 Z Z c6<|z8 Z Z c6<|z8 Z Z c6<|z8 Z Z c6<|za Z Z c5<|zVzPt Z c6 Z<|za Z Z Z<|zVzPt Z c5 Z<|zVzPf Z Z Z<|zVzAb Z<|z6<|zh<|zj (x := .bool _) Z<|congrArg AV.bool ?_; rw [Bool.eq_iff_iff]; simp only [qp, mem_endsL]; simp_all
   ·refine za Z Z c6<|zVzFF j7 Z js Z Z<|za Z Z c6<|z7 (yj (j := 1) ji j8 Z Z Z (by decide) Z)<|za Z Z c6<|zVzLi jh Z<|za Z Z c6<|zVzMi Z<|za Z Z c6<|zVGveqlI Z Z<|za Z Z c5<|zVzPf Z c6 Z<|za Z Z Z<|zVzPt Z c5 Z<|zVzPf Z Z Z<|zVzAb Z<|z6<|zh<|zj (x := .bool _) Z<|congrArg AV.bool ?_; rw [Bool.eq_iff_iff]; simp only [qp, mem_endsL]; simp_all
  ·refine z8 Z Z c5<|z8 Z Z c5<|z8 Z Z c5<|z8 Z Z c5<|z8 Z Z c5<|z8 Z Z c5<|zg Z Z<|zg Z Z<|zg Z Z<|zg Z Z<|zg Z Z<|z8 Z Z c5<|za Z Z Z<|zVzPf Z c5 Z<|zVzPf Z Z Z<|zVzAb Z<|z6<|zh<|zj (x := .bool _) Z<|congrArg AV.bool ?_; rw [Bool.eq_iff_iff]; simp only [qp, mem_endsL]; simp_all
end Go.Proofs.YtpojdepccecpgaaGreatDoor
namespace Go.Proofs.YtpojdepccecpgaaGreatDoor
open Go.Proofs.Tryz
open Go.Proofs Go.Lib Go.Shelf Go.RowKit
variable {E : World}
set_option maxRecDepth 20000
end Go.Proofs.YtpojdepccecpgaaGreatDoor
namespace Go.Proofs.YtpojdepccecpgaaGreatDoor
open Go.Proofs.Tryz
open Go.Proofs Go.Lib Go.Shelf Go.RowKit
variable {E : World}
set_option maxRecDepth 20000
theorem phJ_iff {f : PFunc} (hE : EndsOk f) (i : Nat) (p : PPhi) : phJ f i p = true ↔ JoinR f i p.from_ := by
 unfold phJ
 rw [qp, joinS_iff, joinR_iff hE]
theorem filter_one {l : List Int} (hn : l.Nodup) {i : Int} (h : i ∈ l) : (l.filter fun c => decide (c = i)) = [i] := by
 induction l with
 | nil => cases h
 | cons c l ih =>
  obtain ⟨h1, h2⟩ := List.nodup_cons.1 hn
  by_cases e : c = i
  ·subst e
   have : (l.filter fun x => decide (x = c)) = [] := List.filter_eq_nil_iff.2 fun x hx => by
    simp only [qp]; rintro rfl; exact h1 hx
   simp [this]
  ·rw [List.filter_cons_of_neg (by simpa using e)]
   rcases List.mem_cons.1 h with h3 | h3
   ·exact absurd h3.symm e
   ·exact ih h2 h3
theorem predsT_one {f : PFunc} (k : Nat) (i : Int) : (predsT (EndsOf f) (k + 1) i).length = (predsT (EndsOf f) k i).length + if i ∈ EndsOf f k then 1 else 0 := by
 rw [predsT_succ, qf, qg]
 have hn := EndsOf_nodup f k
 congr 1
 by_cases h : i ∈ EndsOf f k
 ·rw [if_pos h]
  have h1 := filter_one hn h
  rw [h1]; rfl
 ·rw [if_neg h]
  have h1 : ((EndsOf f k).filter fun c => decide (c = i)) = [] := List.filter_eq_nil_iff.2 fun c hc => by
   simp only [qp]; rintro rfl; exact h hc
  rw [h1]; rfl
set_option maxHeartbeats 4000000 in
theorem refJoined_spec (f : PFunc) (hE : EndsOk f) (hf : small f) (hS : ShapedP f) : AFun prog E 31 [.agg (encF f)] (.bool (joinedB f)) := by
 have hn := hf.2.2.1
 refine zl func31 Z (by decide) Z<|zSr<|y4 (cs := _) Z Z Z<|zVzAb Z<|z6<|zb<|zSr<|zVzFF j6 Z jo Z Z<|zVzLf jw Z<|zVGvlenM je Z<|zVzMi Z<|z6<|zd<|zt (γ := Nat) [1, 13, 14] (fun i => [(15, .int .i64 i)]) (fun i => []) (fun i => i ≤ f.blocks.length ∧ (List.range i).all (blkJ f) = true) (fun i => f.blocks.length - i) 0 zR1 zLe (⟨qc _, Z⟩) ?_
 rintro i ⟨hi, hall⟩
 refine zSr<|zVGvlss Z Z<|z6<|zb<|zn Z (fun ci=>?_) (fun ci=>?_)
 ·have hi2 : i < f.blocks.length := by simp at ci; omega
  obtain ⟨b, hbi⟩ : ∃ b, f.blocks[i] = b := ⟨_, rfl⟩
  have hget : f.blocks[i]? = some b := by rw [q9 hi2, hbi]
  have hmem : b ∈ f.blocks := hbi ▸ qd hi2
  obtain ⟨hb0, hb1, hb2, hb3, hb4⟩ := hf.2.2.2.2 b hmem
  have hPh := (hS.2.2.2.2.2 b hmem).1
  refine zf<|zb<|zd<|zSr<|zVzMi Z<|z7 (zIM i je jj Z Z Z hget)<|zVGvloadWF Zc jj Z Z<|zo (cs := [.str ⟨#[]⟩, .raw (.slice none 0 0), .raw (.slice none 0 0), .int .i64 0, .int .i64 0, .int .i64 0, .int .i64 0]) jz Z Z<|fun i4 => zVzAi Z<|zm jj Z Z Z Z Z Z .head Z<|yh (y8 (t := 4) Z .head)<|z6<|zSr<|zVzFF j5 Z Z2 Z Z<|zVzLf Zd Z<|zVGvlenM jl Z<|zVzMi Z<|z6<|zd<|zt (γ := Nat) [1, 3, 13, 14, 15, 21, 22] (fun j => [(23, .int .i64 j)]) (fun j => []) (fun j => j ≤ b.phis.length ∧ (b.phis.take j).all (phJ f i) = true) (fun j => b.phis.length - j) 0 zR1 zLe (⟨qc _, Z⟩) ?_
  rintro j ⟨hj, hjall⟩
  refine zSr<|zVGvlss Z Z<|z6<|zb<|zn Z (fun cj=>?_) (fun cj=>?_)
  ·have hj2 : j < b.phis.length := by simp at cj; omega
   obtain ⟨p, hp⟩ : ∃ p, b.phis[j] = p := ⟨_, rfl⟩
   have hpm : p ∈ b.phis := hp ▸ qd hj2
   have hpl := (hb3 p hpm).2
   have hpr : ∀ c ∈ p.from_, 0 ≤ c ∧ c < f.blocks.length := fun c hc => by have := List.all_eq_true.1 (hPh p hpm).2.2.2.2 c hc; simpa [hasB] using this
   have hbad : ¬ JoinR f i p.from_ → joinedB f = false := fun h => range_all_bad hi2 (by rw [blkJ_at hget]; exact Bool.eq_false_iff.2 (all_bad hj2 (by rw [hp]; exact Bool.eq_false_iff.2 fun h2 => h ((phJ_iff hE i p).1 h2))))
   refine zf<|zb<|zd<|zSr<|z7 (zIM j jl jp Z Z Z (by rw [q9 hj2, hp])) ?_
   refine zVGvloadWF Zf jp Z Z<|zo (cs := [.int .i64 0, .raw (.slice none 0 0), .raw (.slice none 0 0)]) Z4 Z Z<|fun i6 => zm jp Z Z Z Z Z Z .head Z<|yh (y8 (t := 6) Z .head)<|z6<|zSr<|zVzAi Z<|z6<|zb<|zSr<|zVzFF j6 Z jo Z Z<|zVzLf jw Z<|zVGvlenM je Z<|zVzMi Z<|z6<|zd<|zt (γ := Nat) [1, 3, 6, 13, 14, 15, 21, 22, 23, 29] (fun a => [(30, .int .i64 a), (7, .int .i64 (predsT (EndsOf f) a i).length)]) (fun a => []) (fun a => a ≤ f.blocks.length) (fun a => f.blocks.length - a) 0 zR2 zLe (qc _) ?_
   rintro a ha
   refine zSr<|zVGvlss Z Z<|z6<|zb<|zn Z (fun ca=>?_) (fun ca=>?_)
   ·have ha2 : a < f.blocks.length := by simp at ca; omega
    have hone := predsT_one (f := f) a i
    have hle := predsT_len f i a
    refine zf<|zb<|zd<|zSr<|zVzMi Z<|zVzAi Z<|z6<|zSr<|zVGvloadWF jk jg Z Z<|zVzMi Z<|zVzMi Z<|ze (leads_spec f hn (a : Int) (i : Int) (by omega) (by omega)) Z<|z6<|zz Z (fun cl=>?_) (fun cl=>?_)
    ·have hl : (i : Int) ∈ EndsOf f a := by simpa using cl
     rw [if_pos hl] at hone
     refine zRg<|zVzMi Z<|zVzAd Z Z<|zVzAi Z<|z6<|zRg<|zVzAd Z Z<|zVzMi Z<|z6 ?_
     exact ⟨a + 1, ⟨rfl, rfl, rfl, rfl, rfl, rfl, rfl, rfl, rfl, rfl, trivial⟩, ⟨rfl, (by rw [hone]; rfl), trivial⟩, zLe, ha2, by omega⟩
    ·have hl : ¬ (i : Int) ∈ EndsOf f a := by simpa using cl
     rw [if_neg hl] at hone
     refine zf<|zRg<|zVzAd Z Z<|zVzMi Z<|z6 ?_
     exact ⟨a + 1, ⟨rfl, rfl, rfl, rfl, rfl, rfl, rfl, rfl, rfl, rfl, trivial⟩, ⟨rfl, (by rw [hone]; rfl), trivial⟩, zLe, ha2, by omega⟩
   ·have han : a = f.blocks.length := by simp at ca; omega
    subst han
    refine zr<|zb<|zSr<|zVzMi Z<|zVzFF jd Z jc Z Z<|zVzLf jm Z<|zVGvlenM j4 Z<|zVGvneqI Z Z<|z6<|zz Z (fun cn=>?_) (fun cn=>?_)
    ·have hne : ¬ (predsT (EndsOf f) f.blocks.length i).length = p.from_.length := by have h0 : ¬ ((predsT (EndsOf f) f.blocks.length i).length : Int) = (p.from_.length : Int) := (by simpa using cn); omega
     refine zSr<|zVzAb Z<|z6<|zh<|zj (x := .bool _) Z ?_
     rw [hbad fun h => hne h.1]
    ·have hne : (predsT (EndsOf f) f.blocks.length i).length = p.from_.length := by have h0 : ((predsT (EndsOf f) f.blocks.length i).length : Int) = (p.from_.length : Int) := (by simpa using cn); omega
     refine zf<|zSr<|zVzFF jd Z jc Z Z<|zVzLf jm Z<|zVGvlenM j4 Z<|zVzMi Z<|z6<|zd<|zt (γ := Nat) [1, 3, 6, 13, 14, 15, 21, 22, 23, 46, 47] (fun k => [(48, .int .i64 k)]) (fun k => []) (fun k => k ≤ p.from_.length ∧ ∀ q (h : q < p.from_.length), q < k → (i : Int) ∈ EndsOf f p.from_[q] ∧ p.from_[q] ∉ p.from_.take q) (fun k => p.from_.length - k) 0 zR1 zLe (⟨qc _, fun q h h2 => by omega⟩) ?_
     rintro k ⟨hk, hok⟩
     refine zSr<|zVGvlss Z Z<|z6<|zb<|zn Z (fun ck=>?_) (fun ck=>?_)
     ·have hk2 : k < p.from_.length := by simp at ck; omega
      obtain ⟨c, hc⟩ : ∃ c, p.from_[k] = c := ⟨_, rfl⟩
      obtain ⟨hc0, hcn⟩ := hpr c (hc ▸ qd hk2)
      refine zf<|zb<|zd<|zSr<|zVzMi Z<|z7 (zIM k j4 j8 Z Z Z (by rw [q9 hk2, hc])) ?_
      refine zVzLi jh Z<|zVzAi Z<|zVzAi Z<|z6<|zb<|zSr<|zVGvloadWF jk jg Z Z<|zVzMi Z<|zVzMi Z<|ze (leads_spec f hn c (i : Int) hc0 hcn) Z<|zVGvnot Z<|z6<|zz Z (fun cl=>?_) (fun cl=>?_)
      ·have hl : ¬ (i : Int) ∈ EndsOf f c := by simpa using cl
       refine zSr<|zVzAb Z<|z6<|zh<|zj (x := .bool _) Z ?_
       rw [hbad fun h => hl (hc ▸ (h.2 k hk2).1)]
      ·have hl : (i : Int) ∈ EndsOf f c := by simpa using cl
       refine zf<|zSr<|zVzMi Z<|zVzMi Z<|z6<|zd<|zt (γ := Nat) [1, 3, 6, 10, 13, 14, 15, 21, 22, 23, 46, 47, 48, 58] (fun q => [(59, .int .i64 q)]) (fun q => []) (fun q => q ≤ k ∧ c ∉ p.from_.take q) (fun q => k - q) 0 zR1 zLe (⟨qc _, by simp⟩) ?_
       rintro q ⟨hq, hqn⟩
       refine zSr<|zVGvlss Z Z<|z6<|zb<|zn Z (fun cq=>?_) (fun cq=>?_)
       ·have hq2 : q < k := by omega
        have hq3 : q < p.from_.length := by omega
        refine zf<|zb<|zd<|zSr<|zVzMi Z<|zVzAi Z<|z6<|zSr<|zVzFF jd Z jc Z Z<|zVzLf jm Z<|zVzMi Z<|z7 (zIM q j4 j8 Z Z Z (q9 hq3))<|zVzLi jh Z<|zVzMi Z<|zVGveqlI Z Z<|z6<|zz Z (fun ce=>?_) (fun ce=>?_)
        ·have he : p.from_[q] = c := by simpa using ce
         have hin : c ∈ p.from_.take k := by rw [← he]; exact List.mem_take_iff_getElem.2 ⟨q, by omega, rfl⟩
         refine zSr<|zVzAb Z<|z6<|zh<|zj (x := .bool _) Z ?_
         rw [hbad fun h => (h.2 k hk2).2 (by rw [hc]; exact hin)]
        ·have he : ¬ p.from_[q] = c := by simpa using ce
         refine zf<|zRg<|zVzAd Z Z<|zVzMi Z<|z6 ?_
         exact ⟨q + 1, ⟨rfl, rfl, rfl, rfl, rfl, rfl, rfl, rfl, rfl, rfl, rfl, rfl, rfl, rfl, trivial⟩, zR1, zLe, ⟨hq2, fun hm => by rw [qa hq3] at hm; rcases List.mem_append.1 hm with h1 | h1; exact hqn h1; simp at h1; exact he h1.symm⟩, by omega⟩
       ·have hqn2 : q = k := by omega
        subst hqn2
        refine zr<|zRg<|zVzAd Z Z<|zVzMi Z<|z6 ?_
        exact ⟨q + 1, ⟨rfl, rfl, rfl, rfl, rfl, rfl, rfl, rfl, rfl, rfl, rfl, trivial⟩, zR1, zLe, ⟨hk2, fun r hr h2 => by rcases Nat.lt_succ_iff_lt_or_eq.1 h2 with h3 | h3; exact hok r hr h3; subst h3; rw [hc]; exact ⟨hl, hqn⟩⟩, by omega⟩
     ·have hkn : k = p.from_.length := by simp at ck; omega
      subst hkn
      refine zr<|zRg<|zVzAd Z Z<|zVzMi Z<|z6 ?_
      exact ⟨j + 1, zR7, zR1, zLe, ⟨hj2, all_take hj2 hjall (by rw [hp]; exact (phJ_iff hE i p).2 ⟨hne, fun q hq => hok q hq hq⟩)⟩, by omega⟩
  ·have hjn : j = b.phis.length := by simp at cj; omega
   subst hjn
   rw [qe] at hjall
   refine zr<|zRg<|zVzAd Z Z<|zVzMi Z<|z6 ?_
   exact ⟨i + 1, zR3, zR1, zLe, ⟨hi2, range_all_succ hall (by rw [blkJ_at hget]; exact hjall)⟩, by omega⟩
 ·have hin : i = f.blocks.length := by simp at ci; omega
  subst hin
  refine zr<|zSr<|zVzAb Z<|z6<|zh<|zj (x := .bool _) Z ?_
  rw [show joinedB f = true from hall]
end Go.Proofs.YtpojdepccecpgaaGreatDoor
namespace Go.Proofs.YtpojdepccecpgaaGreatDoor
open Go.Proofs.Tryz
open Go.Proofs Go.Lib Go.Shelf Go.RowKit
variable {E : World}
set_option maxRecDepth 20000
end Go.Proofs.YtpojdepccecpgaaGreatDoor
namespace Go.Proofs.YtpojdepccecpgaaGreatDoor
open Go.Proofs.Tryz
open Go.Proofs Go.Lib Go.Shelf Go.RowKit
variable {E : World}
set_option maxRecDepth 20000
theorem rof_spec (f : PFunc) (v : Int) (hv : hasV f v = true) : AFun prog E 72 [.agg (encF f), .int .i64 v] (.int .i64 (kindV f v)) := by
 obtain ⟨x, hx, hv2, hk⟩ := hasV_get hv
 rw [hk]
 refine zl func72 Z (by decide) Z<|zSr<|y4 (cs := _) Z Z Z<|zVzAi Z<|z6<|zSr<|zVzFF j6 Z Z1 Z Z<|zVzLf Z7 Z<|zVzMi Z<|z7 (zIM v.toNat jn Z0 Z Z hv2 hx)<|zVzFF jv Z Y6 Z Z<|zVzLi Yb Z<|zVzAi Z<|z6<|zh<|zj (x := .int _ _) Z ?_
 rfl
theorem rtype_spec (c : Int) : AFun prog E 73 [.int .u8 c] (.int .i64 (typeOf c)) := by
 refine zl func73 Z (by decide) Z<|zSr<|zVzAi Z<|z6<|zb<|zSr<|zVzMi Z<|z6<|zd<|zSr<|zVGveqlI Z Z<|zVzAb Z<|z6<|zz Z (fun c1=>?_) (fun c1=>?_)
 ·refine zSr<|zVzAi Z<|z6<|zh<|zj (x := .int _ _) Z ?_
  unfold typeOf; simp_all
 ·refine zSr<|zVGveqlI Z Z<|zVzAb Z<|z6<|zz Z (fun c2=>?_) (fun c2=>?_)
  ·refine zSr<|zVzAi Z<|z6<|zh<|zj (x := .int _ _) Z ?_
   unfold typeOf; simp_all
  ·refine zf<|zSr<|zVzAi Z<|z6<|zh<|zj (x := .int _ _) Z ?_
   unfold typeOf; simp_all
theorem copy_word : ∀ j : Nat, j < 27 → decide ((kRow (j : Int)).1 = ⟨#[99, 111, 112, 121]⟩) = decide (j = 1) := by decide
theorem copy_op {op : Int} (h : 0 ≤ op ∧ op ≤ 26) : ((kRow op).1 = ⟨#[99, 111, 112, 121]⟩) ↔ op = 1 := by
 have h1 := copy_word op.toNat (by omega)
 rw [qo h.1] at h1
 constructor
 ·intro e
  have : decide (op.toNat = 1) = true := by rw [← h1]; exact ql e
  have := of_decide_eq_true this
  omega
 ·intro e
  have h2 : op.toNat = 1 := by omega
  have : decide ((kRow op).1 = ⟨#[99, 111, 112, 121]⟩) = true := by rw [h1]; exact ql h2
  exact of_decide_eq_true this
theorem kRow_get {op : Int} (h : 0 ≤ op ∧ op ≤ 26) : kindT[op.toNat]? = some (kRow op) := by
 unfold kRow
 have hl : op.toNat < kindT.length := by have : kindT.length = 27 := rfl; omega
 rw [if_pos h.1, q9 hl]; rfl
def wantL (f : PFunc) (x : PInst) : List Int := if x.op = 1 then [kindV f x.dst] else takesL x.op
theorem wantL_len {f : PFunc} {x : PInst} (h : InstF f x) : x.args.length = (wantL f x).length := by
 rw [h.len]
 unfold wantL
 split
 ·rename_i e; rw [e]; rfl
 ·rfl
theorem instT_want {f : PFunc} {x : PInst} (h : InstF f x) : instT f x = (decide (x.args.map (kindV f) = wantL f x) && (!makesB x.op || (decide (x.op = 1) || decide (kindV f x.dst = makesT x.op)))) := by
 unfold instT wantL
 by_cases e : x.op = 1
 ·have hl := h.len
  rw [e, show (takesL 1).length = 1 from rfl] at hl
  obtain ⟨a, ha⟩ := List.length_eq_one_iff.1 hl
  rw [if_pos e, if_pos e, ha]
  simp [e]
  exact eq_comm
 ·rw [if_neg e, if_neg e]; simp [e]
theorem takes_byte {op : Int} {m : Nat} (h : m < (takesL op).length) : ∃ c : UInt8, (kRow op).2.1.data[m]? = some c ∧ (takesL op)[m] = typeOf (c.toNat : Int) := by
 have h1 : m < (kRow op).2.1.data.size := by rw [takes_len] at h; exact h
 have e : (takesL op)[m]? = ((kRow op).2.1.data.toList[m]?).map fun b => typeOf b.toNat := by unfold takesL; rw [qh]
 rw [q9 h, Array.getElem?_toList, Array.getElem?_eq_getElem h1] at e
 exact ⟨(kRow op).2.1.data[m], by rw [Array.getElem?_eq_getElem h1], by simpa using e⟩
theorem makes_byte {op : Int} (h : ¬ (kRow op).2.2 = ⟨#[]⟩) : ∃ c : UInt8, (kRow op).2.2.data[0]? = some c ∧ makesT op = typeOf (c.toNat : Int) := by
 unfold makesT
 generalize (kRow op).2.2 = m at h ⊢
 obtain ⟨⟨l⟩⟩ := m
 cases l with
 | nil => exact absurd rfl h
 | cons c l => exact ⟨c, by simp, rfl⟩
end Go.Proofs.YtpojdepccecpgaaGreatDoor
