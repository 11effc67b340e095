/- A copy of a program whose blocks and instructions are one's own: a bag holds these. Of programs that are little. -/
import Derived.Test.YtpojdepccecpgaaGreatDoorHi
import Derived.Test.YtpojdepccecpgaaGreatDoorHl
import Derived.Test.YtpojdepccecpgaaGreatDoorHk
import Derived.Test.YtpojdepccecpgaaGreatDoorHj
import Derived.Shelf.SlSortCmp.NoneTotal
import Derived.Test.YtpojdepccecpgaaGreatDoorHf
import Derived.Test.YtpojdepccecpgaaGreatDoorHh
set_option linter.unusedVariables false
set_option linter.unusedSimpArgs false
set_option linter.unusedSectionVars false
namespace Go.Proofs.YtpojdepccecpgaaGreatDoor
open Go.Proofs.Tryz
open Go.Proofs Go.Lib Go.Shelf Go.RowKit
variable {E : World}
set_option maxRecDepth 20000
theorem cI_fl : ∀ l : List Int, cI l = (l.map encI).flatten
 | [] => rfl
 | x :: l => by rw [List.map_cons, List.flatten_cons, ← cI_fl l]; rfl
def keptT (nm : Int → Int) (fr : List Int) (p : PPhi) (k : Nat) : List (Int × Int) := ((prs p).take k).filter fun z => decide (z.1 ∈ fr ∧ 0 ≤ nm z.1)
theorem gphi_spec (p : PPhi) (fr num : List Int) (nm : Int → Int) (hl : p.from_.length = p.args.length) (hl2 : p.args.length ≤ 1000) (hfr : fr.length ≤ 100000) (hn : ∀ b ∈ p.from_, 0 ≤ b ∧ num[b.toNat]? = some (nm b)) :
  AFun prog E 51 [.agg (encPhi p), .fro 1 (fr.map encI), .fro 1 (num.map encI)] (.agg (encPhi (pruneP nm fr p))) := by
 have hpl : (prs p).length = p.args.length := by unfold prs; rw [List.length_zip, hl]; omega
 refine zt func51 Z (by decide) Z<|zSr<|yc (cs := _) Z Z Z<|zo (cs := [.int .i64 0, .raw (.slice none 0 0), .raw (.slice none 0 0)]) Z9 Z Z<|fun i6 => z6<|zSr<|zVzFF jj Z j8 Z Z<|zVzLi jl Z<|z8 (y1 (cps := [(0, [_])]) (rs := [_, .raw (.slice none 0 0), .raw (.slice none 0 0)]) pl71 Z Z Z)<|zo (cs := [.int .i64 0, .raw (.slice none 0 0), .raw (.slice none 0 0)]) Z9 Z Z<|fun i7 => zh ju Z Z Z Z Z Z .head Z<|z6<|ze<|zSr<|zVzFF jj Z ji Z Z<|zVzLf jq Z<|zVGvlenM j6 Z<|zVzMi Z<|z6<|adoptC_wp (off := 1) (k := 1) (T := 3) (fun _ => .head) Z<|fun ia => adoptC_wp (off := 2) (k := 1) (T := 3) (fun _ => .t1) Z<|fun ib => y4 (zb (zc .t1))<|y4 (zb (zc .t2))<|zi<|y7 (γ := Nat × Nat × Nat) [1, 2, 3, 6, 7, 14, 15] (fun g => [(16, .int .i64 g.1)]) (fun g => [(i7, .cells 71 [.int .i64 p.dst, .own g.2.1 (keptT nm fr p g.1).length, .own g.2.2 (keptT nm fr p g.1).length]), (g.2.1, .grow 1 3 (cI ((keptT nm fr p g.1).map (·.2)))), (g.2.2, .grow 1 3 (cI ((keptT nm fr p g.1).map fun z => nm z.1))), (i6, .cells 71 [.int .i64 0, .raw (.slice none 0 0), .raw (.slice none 0 0)])]) (fun g => g.1 ≤ p.from_.length) (fun g => p.from_.length - g.1) (0, ia, ib) zR1 zLe (qd _) ?_
 rintro ⟨k, ia, ib⟩ hk
 try dsimp only at *
 refine zSr<|zVGvlss Z Z<|z6<|ze<|y2 Z (fun ck=>?_) (fun ck=>?_)
 ·have hk2 : k < p.from_.length := by omega
  obtain ⟨b, hb⟩ : ∃ b, p.from_[k] = b := ⟨_, rfl⟩
  obtain ⟨a, ha⟩ : ∃ a, p.args[k] = a := ⟨_, rfl⟩
  have hgf : p.from_[k]? = some b := by rw [qa hk2, hb]
  have hga : p.args[k]? = some a := by rw [qa (by omega), ha]
  obtain ⟨n0, hnb⟩ := hn b (hb ▸ qe hk2)
  have hz : (prs p).take (k + 1) = (prs p).take k ++ [(b, a)] := by
   have e : (prs p)[k]? = some (b, a) := by
    unfold prs
    rw [List.getElem?_zip_eq_some]
    exact ⟨hgf, hga⟩
   rw [List.take_add_one, e]; rfl
  have hno : ¬ (b ∈ fr ∧ 0 ≤ nm b) → keptT nm fr p (k + 1) = keptT nm fr p k := fun h => by
   unfold keptT
   rw [hz, List.filter_append, List.filter_cons, if_neg (by simpa using h)]; simp
  have hye : b ∈ fr ∧ 0 ≤ nm b → keptT nm fr p (k + 1) = keptT nm fr p k ++ [(b, a)] := fun h => by
   unfold keptT
   rw [hz, List.filter_append, List.filter_cons, if_pos (by simpa using h)]; rfl
  refine zj<|ze<|zi<|zSr<|zVzMi Z<|z8 (zIM k j6 j8 Z Z Z hgf)<|zVzLi jl Z<|zVzAi Z<|zVzAi Z<|z6<|zSr<|zVzMf Z<|zVzMi Z<|zg (containsZ_spec fr b (by omega)) Z<|zVzMb Z<|zy (s := 24) Z (fun c1=>?_) (fun c1=>?_)
  ·refine za Z Z c1<|zVzMf Z<|za Z Z c1<|zVzMi Z<|za Z Z c1<|z8 (zIM b.toNat j6 j8 Z Z (by omega) hnb)<|za Z Z c1<|zVzLi jl Z<|za Z Z c1<|z8 (Gv.geq Z Z)<|zVzPt Z c1 Z<|z6<|y2 Z (fun c2=>?_) (fun c2=>?_)
   ·have hc : b ∈ fr ∧ 0 ≤ nm b := ⟨by simpa using c1, by omega⟩
    have hkl : (keptT nm fr p k).length ≤ k := by unfold keptT; refine Nat.le_trans (List.length_filter_le _ _) ?_; rw [ql]; omega
    have h1 : (cI ((keptT nm fr p k).map fun z => nm z.1)).length = (keptT nm fr p k).length * 1 := by rw [cI_len, qh]; omega
    have h2 : (cI ((keptT nm fr p k).map (·.2))).length = (keptT nm fr p k).length * 1 := by rw [cI_len, qh]; omega
    have e1 : cI ((keptT nm fr p k).map fun z => nm z.1) ++ [AV.int .i64 (nm b)] = cI ((keptT nm fr p (k + 1)).map fun z => nm z.1) := by rw [hye hc, qk, ← cI_app]; rfl
    have e2 : cI ((keptT nm fr p k).map (·.2)) ++ [AV.int .i64 a] = cI ((keptT nm fr p (k + 1)).map (·.2)) := by rw [hye hc, qk, ← cI_app]; rfl
    have e3 : (keptT nm fr p (k + 1)).length = (keptT nm fr p k).length + 1 := by rw [hye hc, qg]; rfl
    refine yt (γ := Nat × Nat) [1, 2, 3, 6, 7, 14, 15, 16] (fun g => []) (fun g => [(i7, .cells 71 [.int .i64 p.dst, .own g.1 (keptT nm fr p (k + 1)).length, .own g.2 (keptT nm fr p (k + 1)).length]), (g.1, .grow 1 3 (cI ((keptT nm fr p (k + 1)).map (·.2)))), (g.2, .grow 1 3 (cI ((keptT nm fr p (k + 1)).map fun z => nm z.1))), (i6, .cells 71 [.int .i64 0, .raw (.slice none 0 0), .raw (.slice none 0 0)])]) (fun g => True) ?_ (fun _ _ h => h) ?_
    ·refine y6 (fun j => Nat.beq j 18 || Nat.beq j 20) (by kernel_rfl) Z (yb (.r (.rest _)))<|zTk 0 Z (zf jj Z ji (by decide) Z Z)<|zTk 1 Z (zp (c := .own _ _) jq Z ⟨_, .head⟩ Z)<|zTk 2 Z (zMf Z)<|zTk 3 Z (zMi Z)<|zTk 4 Z (zIM b.toNat j6 j8 Z Z (by omega) hnb)<|zTk 5 Z (zLi jl Z)<|zTk 8 Z (zf jj Z ji (by decide) Z Z)<|zTk 9 Z (zp (c := .own _ _) jq Z ⟨_, .head⟩ Z)<|yx (i := 10) Z (by kernel_rfl) (by kernel_rfl) (by kernel_rfl) (by kernel_rfl) (zFF jj Z ji Z Z)<|yx (i := 11) Z (by kernel_rfl) (by kernel_rfl) (by kernel_rfl) (by kernel_rfl) (zLf jq Z)<|yx (i := 12) Z (by kernel_rfl) (by kernel_rfl) (by kernel_rfl) (by kernel_rfl) (zMi Z)<|yx (i := 13) Z (by kernel_rfl) (by kernel_rfl) (by kernel_rfl) (by kernel_rfl) (zIM k j6 j8 Z Z Z hga)<|yx (i := 14) Z (by kernel_rfl) (by kernel_rfl) (by kernel_rfl) (by kernel_rfl) (zLi jl Z)<|yg (i := 6) (j := 15) Z Z (by kernel_rfl) ?_ ?_
     ·refine zr (rows := [[_]]) ps23_1 Z Z Z Z Z<|z6<|yg (i := 7) (j := 15) Z Z (by kernel_rfl) ?_ ?_
      ·refine zq (k := 1) j6 jz Z Z Z Z Z (fun _ => .t1) h1 (by decide) Z (by show (_ + 1) * 8 ≤ _; omega) (by show _ + 1 ≤ _; omega)<|fun i38 => z6<|zTk 17 Z (zf jj Z ji (by decide) Z Z)<|zOn 15 Z<|zr (rows := [[_]]) ps23_1 Z Z Z Z Z<|z6<|zOn 16 Z<|zq (k := 1) j6 jz Z Z Z Z Z (fun _ => .head) h2 (by decide) Z (by show (_ + 1) * 8 ≤ _; omega) (by show _ + 1 ≤ _; omega)<|fun i47 => z6<|zw<|zu (i := 18) Z (by kernel_rfl) (by kernel_rfl)<|ya (l := [_]) (new := [_, _, _]) ji Z Z Z Z Z Z .head Z Z<|z6<|zu (i := 19) Z (by kernel_rfl) (by kernel_rfl)<|z8 (zf jj Z ji (by decide) Z Z)<|z6<|zu (i := 20) Z (by kernel_rfl) (by kernel_rfl)<|ya (l := [_]) (new := [_, _, _]) ji Z Z Z Z Z Z .head Z Z<|z6<|zz (by kernel_rfl) ?_
       exact ⟨(i47, i38), zR8, trivial, ⟨_, (.refl _), by rw [← e1, ← e2, e3]; rfl⟩, trivial⟩
      ·refine zr (rows := [[_]]) ps23_1 Z Z Z Z Z<|z6<|zOn 7 Z<|zq (k := 1) j6 jz Z Z Z Z Z (fun _ => .t1) h1 (by decide) Z (by show (_ + 1) * 8 ≤ _; omega) (by show _ + 1 ≤ _; omega)<|fun i38 => z6<|zTk 17 Z (zf jj Z ji (by decide) Z Z)<|zOn 16 Z<|zq (k := 1) j6 jz Z Z Z Z Z (fun _ => .head) h2 (by decide) Z (by show (_ + 1) * 8 ≤ _; omega) (by show _ + 1 ≤ _; omega)<|fun i47 => z6<|zw<|zu (i := 18) Z (by kernel_rfl) (by kernel_rfl)<|ya (l := [_]) (new := [_, _, _]) ji Z Z Z Z Z Z .head Z Z<|z6<|zu (i := 19) Z (by kernel_rfl) (by kernel_rfl)<|z8 (zf jj Z ji (by decide) Z Z)<|z6<|zu (i := 20) Z (by kernel_rfl) (by kernel_rfl)<|ya (l := [_]) (new := [_, _, _]) ji Z Z Z Z Z Z .head Z Z<|z6<|zz (by kernel_rfl) ?_
       exact ⟨(i47, i38), zR8, trivial, ⟨_, (.refl _), by rw [← e1, ← e2, e3]; rfl⟩, trivial⟩
     ·refine zr (rows := [[_]]) ps23_1 Z Z Z Z Z<|z6<|zOn 6 Z<|zr (rows := [[_]]) ps23_1 Z Z Z Z Z<|z6<|zOn 7 Z<|zq (k := 1) j6 jz Z Z Z Z Z (fun _ => .t1) h1 (by decide) Z (by show (_ + 1) * 8 ≤ _; omega) (by show _ + 1 ≤ _; omega)<|fun i38 => z6<|zTk 17 Z (zf jj Z ji (by decide) Z Z)<|zOn 16 Z<|zq (k := 1) j6 jz Z Z Z Z Z (fun _ => .head) h2 (by decide) Z (by show (_ + 1) * 8 ≤ _; omega) (by show _ + 1 ≤ _; omega)<|fun i47 => z6<|zw<|zu (i := 18) Z (by kernel_rfl) (by kernel_rfl)<|ya (l := [_]) (new := [_, _, _]) ji Z Z Z Z Z Z .head Z Z<|z6<|zu (i := 19) Z (by kernel_rfl) (by kernel_rfl)<|z8 (zf jj Z ji (by decide) Z Z)<|z6<|zu (i := 20) Z (by kernel_rfl) (by kernel_rfl)<|ya (l := [_]) (new := [_, _, _]) ji Z Z Z Z Z Z .head Z Z<|z6<|zz (by kernel_rfl) ?_
      exact ⟨(i47, i38), zR8, trivial, ⟨_, (.refl _), by rw [← e1, ← e2, e3]; rfl⟩, trivial⟩
    ·rintro ⟨ia, ib⟩ _
     refine zRg<|zVzAd Z Z<|zVzMi Z<|z6 ?_
     exact ⟨(k + 1, ia, ib), zR7, zR1, zLe, hk2, by dsimp only; omega⟩
   ·have hc : ¬ (b ∈ fr ∧ 0 ≤ nm b) := fun h => by omega
    refine zj<|zRg<|zVzAd Z Z<|zVzMi Z<|z6 ?_
    exact ⟨(k + 1, ia, ib), zR7, zR1, ⟨_, (.refl _), by rw [hno hc]⟩, hk2, by dsimp only; omega⟩
  ·have hc : ¬ (b ∈ fr ∧ 0 ≤ nm b) := fun h => by simp [h.1] at c1
   refine z7 Z Z c1<|z7 Z Z c1<|z7 Z Z c1<|z7 Z Z c1<|z7 Z Z c1<|zVzPf Z c1 Z<|z6<|yl Z Z<|zj<|zRg<|zVzAd Z Z<|zVzMi Z<|z6 ?_
   exact ⟨(k + 1, ia, ib), zR7, zR1, ⟨_, (.refl _), by rw [hno hc]⟩, hk2, by dsimp only; omega⟩
 ·obtain rfl : k = p.from_.length := by omega
  have hkt : keptT nm fr p p.from_.length = kept nm fr p := by unfold keptT kept; rw [List.take_of_length_le (by omega)]
  rw [hkt, cI_fl, cI_fl]
  refine y4 (yn (off := 1) (rows := ((kept nm fr p).map (·.2)).map encI) .t1 .head Z (by intro r hr; obtain ⟨z, _, rfl⟩ := List.mem_map.1 hr; rfl) (by decide) (by simp))<|y4 (yn (off := 2) (rows := ((kept nm fr p).map fun z => nm z.1).map encI) .t1 .head Z (by intro r hr; obtain ⟨z, _, rfl⟩ := List.mem_map.1 hr; rfl) (by decide) (by simp))<|y5<|zSr<|z8 (yh Zj ju Z ⟨_, .head⟩ Z)<|zh ju Z Z Z Z Z Z .t1 Z<|z6<|zk<|afin.c1 Z ⟨_, .t1⟩ Zj ju Z ?_
  rfl
end Go.Proofs.YtpojdepccecpgaaGreatDoor
namespace Go.Proofs.YtpojdepccecpgaaGreatDoor
open Go.Proofs.Tryz
open Go.Proofs Go.Lib Go.Shelf Go.RowKit
open Go.Sort (SWO)
theorem pl141 : Places prog 141 #[(0, 1), (1, 1)] [.int .i64 0, .int .i64 0] := ⟨_, _, underlying141, zeroValue141, fun w => by kernel_rfl, rfl⟩
theorem ps139_1 : PlacesS prog 139 141 1 2 [.int .i64 0, .int .i64 0] := ⟨_, underlying139, sizeOf141, zeroValue141, by decide, by decide, by kernel_rfl⟩
variable {E : World}
set_option maxRecDepth 20000
def cfP (x y : Int × Int) : Int := compareInt x.1 y.1
theorem ltP_eq (x y : Int × Int) : ltOf cfP x y = decide (x.1 < y.1) := by
 unfold ltOf cfP compareInt
 by_cases h1 : x.1 < y.1
 ·simp [h1]
 ·by_cases h2 : y.1 < x.1 <;> simp [h1, h2]
theorem swoP : SWO (ltOf cfP) where
 irrefl x := by rw [ltP_eq]; simp
 trans x y z h1 h2 := by rw [ltP_eq] at *; simp at *; omega
 ntrans x y z h1 h2 := by rw [ltP_eq] at *; simp at *; omega
set_option maxHeartbeats 1000000 in
theorem cmpP (x y : Int × Int) (W : World) : Calls prog 87 #[.agg #[.int .i64 x.1, .int .i64 x.2], .agg #[.int .i64 y.1, .int .i64 y.2]] W fun e w' => e = .returned (.int .i64 (cfP x y)) ∧ ∃ q os', w' = Go.Sort.grow (W.drewN q) os' := by
 have hcon := fun W' => Tryz.cmp_Compare_int x.1 y.1 W'
 change ∀ W', Calls prog 88 _ _ _ at hcon
 unfold cfP
 generalize compareInt x.1 y.1 = r at hcon ⊢
 go_enter func87, Tryz.ntmps87
 go_wp2_with (go_at_call 88; refine (hcon _).mono ?_; rintro e w' ⟨rfl, rfl⟩)
 go_ret
 exact ⟨rfl, 0, _, by rw [Go.Sort.alloc_eq_grow, Go.Sort.alloc_eq_grow, Go.Sort.grow_grow]; rfl⟩
theorem sortP_own (l : List (Int × Int)) (i n : Nat) (T : TypeId) (hl : l.length = n) (hB : n < 1000000) : ACall prog E 86 [.own i n, .fn 87 [] []] [(i, .grow 2 T (lC l))] fun r O => ∃ l' : List (Int × Int), r = .tup [] ∧ O = [(i, .grow 2 T (lC l'))] ∧ l'.Perm l ∧ l'.Pairwise fun a b => ltOf cfP b a = false :=
 ACall.sortedK eP (B := 1000000) func86 rfl (by decide)
  (fun blk cap d w hH hb hz => AnyQ.slices_SortFunc Tryz.sortPr 2 isAgg141 sizeOf141 eP.val eP.len eP.one cfP swoP 87 #[] blk 0 cap d w (enters_of func87 (by kernel_rfl) rfl) (fun _ _ _ _ x y => cmpP x y _) hH hb (by omega))
  (fun cap w => AnyF.slices_SortFunc_none (P := prog) (ρ := Tryz.sortPr_ren) { Tryz.sortPr with } none cap _ w) hl hB
def prT1 (l : List Int) (p : PPhi) (k : Nat) : List (Int × Int) := ((prs p).take k).map fun z => (posI l z.1, z.2)
theorem sorted_spec (p : PPhi) (l place : List Int) (hn : l.Nodup) (hD : DistP p) (hl : p.from_.length = p.args.length) (hl2 : p.args.length ≤ 1000) (hpl : ∀ b ∈ p.from_, 0 ≤ b ∧ b ∈ l ∧ place[b.toNat]? = some (posI l b)) :
  AFun prog E 54 [.agg (encPhi p), .fro 1 (place.map encI)] (.agg (encPhi (phD l p))) := by
 have hpl0 : (prs p).length = p.args.length := by unfold prs; rw [List.length_zip, hl]; omega
 refine zt func54 Z (by decide) Z<|zSr<|yc (cs := _) Z Z Z<|zo (cs := [.int .i64 0, .raw (.slice none 0 0), .raw (.slice none 0 0)]) Z9 Z Z<|fun i4 => z6<|zSr<|z8 (zAr Z)<|z6<|ze<|zSr<|zVzFF jj Z ji Z Z<|zVzLf jq Z<|zVGvlenM j6 Z<|zVzMi Z<|z6<|adopt_wp (t := 5) (k := 2) (T := 141) Z<|fun i5 => zi<|y7 (γ := Nat × Nat) [1, 2, 4, 12, 13] (fun g => [(14, .int .i64 g.1), (5, .own g.2 g.1)]) (fun g => [(g.2, .grow 2 141 (lC (prT1 l p g.1))), (i4, .cells 71 [.int .i64 0, .raw (.slice none 0 0), .raw (.slice none 0 0)])]) (fun g => g.1 ≤ p.args.length) (fun g => p.args.length - g.1) (0, i5) zR2 zLe (qd _) ?_
 rintro ⟨k, i5⟩ hk
 try dsimp only at *
 refine zSr<|zVGvlss Z Z<|z6<|ze<|y2 Z (fun ck=>?_) (fun ck=>?_)
 ·have hk2 : k < p.args.length := by omega
  obtain ⟨b, hb⟩ : ∃ b, p.from_[k] = b := ⟨_, rfl⟩
  obtain ⟨a, ha⟩ : ∃ a, p.args[k] = a := ⟨_, rfl⟩
  have hgf : p.from_[k]? = some b := by rw [qa (by omega), hb]
  have hga : p.args[k]? = some a := by rw [qa hk2, ha]
  obtain ⟨n0, nm, hnb⟩ := hpl b (hb ▸ qe (by omega))
  have hkl : (prT1 l p k).length = k := by unfold prT1; rw [qh, ql]; omega
  have hz : prT1 l p (k + 1) = prT1 l p k ++ [(posI l b, a)] := by
   have e : (prs p)[k]? = some (b, a) := by
    unfold prs
    rw [List.getElem?_zip_eq_some]
    exact ⟨hgf, hga⟩
   unfold prT1
   rw [List.take_add_one, e, qk]; rfl
  refine zj<|ze<|zi<|zSr<|zVzMi Z<|z8 (zIM k j6 j8 Z Z Z hga)<|zVzLi jl Z<|zVzAi Z<|zVzAi Z<|z6<|zRg<|z8 (zMo Z)<|zVzMf Z<|zVzFF jj Z ji Z Z<|zVzLf jq Z<|zVzMi Z<|z8 (zIM k j6 j8 Z Z Z hgf)<|zVzLi jl Z<|z8 (zIM b.toNat j6 j8 Z Z (by omega) hnb)<|zVzLi jl Z<|zVzMi Z<|z8 (y1 (cps := [(0, [_]), (1, [_])]) (rs := [_, _]) pl141 Z Z Z)<|zr (rows := [[_, _]]) ps139_1 Z Z Z Z Z<|zq (k := 2) underlying139 type141 Z Z Z Z Z (fun _ => .head) (by rw [lC_len, hkl]) (by decide) Z (by show (_ + _) * 16 ≤ _; simp <;> omega) (by simp <;> omega)<|fun i31 => z8 (zAo Z)<|z6<|zRg<|zVzAd Z Z<|zVzMi Z<|z6 ?_
  exact ⟨(k + 1, i31), zR5, zR2, ⟨_, (.refl _), by rw [hz, ← lC_push]; rfl⟩, hk2, by dsimp only; omega⟩
 ·obtain rfl : k = p.args.length := by omega
  have hL : prT1 l p p.args.length = (prs p).map fun z => (posI l z.1, z.2) := by unfold prT1; rw [List.take_of_length_le (by omega)]
  rw [hL]
  refine y5<|zSr<|z8 (zMo Z)<|yv Z (yb (.l (.r (.rest _)))) (sortP_own ((prs p).map fun z => (posI l z.1, z.2)) i5 p.args.length 141 (by rw [qh, hpl0]) (by omega)) ?_
  rintro r34 O34 ⟨L, rfl, rfl, hp, hs⟩
  refine z6 ?_
  have hLe : L = phPairs l p := pairs_of_sorted hn hD (fun x hx => (hpl x hx).2.1) (hs.imp fun {a b} h => by rw [ltP_eq] at h; simp at h; exact h) hp
  have hLl : L.length = p.args.length := by rw [hp.length_eq, qh, hpl0]
  refine y4 (GStep.knowR (t := 5) Z .head hLl) ?_
  subst hLe
  refine zSr<|zVzFF jj Z j8 Z Z<|zVzLi jl Z<|z8 (y1 (cps := [(0, [_])]) (rs := [_, .raw (.slice none 0 0), .raw (.slice none 0 0)]) pl71 Z Z Z)<|zo (cs := [.int .i64 0, .raw (.slice none 0 0), .raw (.slice none 0 0)]) Z9 Z Z<|fun i8 => zh ju Z Z Z Z Z Z .head Z<|z6<|adoptC_wp (off := 1) (k := 1) (T := 3) (fun _ => .head) Z<|fun ia => adoptC_wp (off := 2) (k := 1) (T := 3) (fun _ => .t1) Z<|fun ib => y4 (zb (zc .t1))<|y4 (zb (zc .t2))<|ze<|zSr<|zVzMf Z<|zVGvlenM underlying139 Z<|zVzMi Z<|z6<|zi<|y7 (γ := Nat × Nat × Nat) [4, 8, 38, 39] (fun g => [(40, .int .i64 g.1)]) (fun g => [(i8, .cells 71 [.int .i64 p.dst, .own g.2.1 g.1, .own g.2.2 g.1]), (g.2.1, .grow 1 3 (cI (((phPairs l p).take g.1).map (·.2)))), (g.2.2, .grow 1 3 (cI (((phPairs l p).take g.1).map (·.1)))), (i4, .cells 71 [.int .i64 0, .raw (.slice none 0 0), .raw (.slice none 0 0)])]) (fun g => g.1 ≤ (phPairs l p).length) (fun g => (phPairs l p).length - g.1) (0, ia, ib) zR1 zLe (qd _) ?_
  rintro ⟨k, ia, ib⟩ hk
  try dsimp only at *
  refine zSr<|zVGvlss Z Z<|z6<|ze<|y2 Z (fun ck=>?_) (fun ck=>?_)
  ·have hk2 : k < (phPairs l p).length := by omega
   obtain ⟨z, hz⟩ : ∃ z, (phPairs l p)[k] = z := ⟨_, rfl⟩
   have hgz : (phPairs l p)[k]? = some z := by rw [qa hk2, hz]
   have h1 : (cI (((phPairs l p).take k).map (·.1))).length = k * 1 := by rw [cI_len, qh, ql]; omega
   have h2 : (cI (((phPairs l p).take k).map (·.2))).length = k * 1 := by rw [cI_len, qh, ql]; omega
   have e1 : cI (((phPairs l p).take k).map (·.1)) ++ [AV.int .i64 z.1] = cI (((phPairs l p).take (k + 1)).map (·.1)) := by rw [List.take_add_one, hgz, qk, ← cI_app]; rfl
   have e2 : cI (((phPairs l p).take k).map (·.2)) ++ [AV.int .i64 z.2] = cI (((phPairs l p).take (k + 1)).map (·.2)) := by rw [List.take_add_one, hgz, qk, ← cI_app]; rfl
   refine zj<|ze<|yt (γ := Nat × Nat) [4, 8, 38, 39, 40] (fun g => []) (fun g => [(i8, .cells 71 [.int .i64 p.dst, .own g.1 (k + 1), .own g.2 (k + 1)]), (g.1, .grow 1 3 (cI (((phPairs l p).take (k + 1)).map (·.2)))), (g.2, .grow 1 3 (cI (((phPairs l p).take (k + 1)).map (·.1)))), (i4, .cells 71 [.int .i64 0, .raw (.slice none 0 0), .raw (.slice none 0 0)])]) (fun g => True) ?_ (fun _ _ h => h) ?_
   ·refine zi<|zSr<|z8 (zIM k underlying139 sizeOf141 Z Z Z hgz)<|zVGvloadWF isAgg141 sizeOf141 Z Z<|zo (cs := [.int .i64 0, .int .i64 0]) zeroValue141 Z Z<|fun i10 => zh sizeOf141 Z Z Z Z Z Z .head Z<|zd (yf (t := 10) Z .head)<|z6<|y6 (fun j => Nat.beq j 13 || Nat.beq j 15) (by kernel_rfl) Z (yb (.r (.rest _)))<|zTk 0 Z (zf jj Z ji (by decide) Z Z)<|zTk 1 Z (zp (c := .own _ _) jq Z ⟨_, .head⟩ Z)<|zTk 2 Z (zFF underlying141 Z j8 Z Z)<|zTk 3 Z (zLi jl Z)<|zTk 6 Z (zf jj Z ji (by decide) Z Z)<|zTk 7 Z (zp (c := .own _ _) jq Z ⟨_, .head⟩ Z)<|yx (i := 8) Z (by kernel_rfl) (by kernel_rfl) (by kernel_rfl) (by kernel_rfl) (zFF underlying141 Z j8 Z Z)<|yx (i := 9) Z (by kernel_rfl) (by kernel_rfl) (by kernel_rfl) (by kernel_rfl) (zLi jl Z)<|yg (i := 4) (j := 10) Z Z (by kernel_rfl) ?_ ?_
    ·refine zr (rows := [[_]]) ps23_1 Z Z Z Z Z<|z6<|yg (i := 5) (j := 10) Z Z (by kernel_rfl) ?_ ?_
     ·refine zq (k := 1) j6 jz Z Z Z Z Z (fun _ => .t1) h1 (by decide) Z (by show (_ + 1) * 8 ≤ _; omega) (by show _ + 1 ≤ _; omega)<|fun i49 => z6<|zTk 12 Z (zf jj Z ji (by decide) Z Z)<|zOn 10 Z<|zr (rows := [[_]]) ps23_1 Z Z Z Z Z<|z6<|zOn 11 Z<|zq (k := 1) j6 jz Z Z Z Z Z (fun _ => .head) h2 (by decide) Z (by show (_ + 1) * 8 ≤ _; omega) (by show _ + 1 ≤ _; omega)<|fun i55 => z6<|zw<|zu (i := 13) Z (by kernel_rfl) (by kernel_rfl)<|ya (l := [_]) (new := [_, _, _]) ji Z Z Z Z Z Z .head Z Z<|z6<|zu (i := 14) Z (by kernel_rfl) (by kernel_rfl)<|z8 (zf jj Z ji (by decide) Z Z)<|z6<|zu (i := 15) Z (by kernel_rfl) (by kernel_rfl)<|ya (l := [_]) (new := [_, _, _]) ji Z Z Z Z Z Z .head Z Z<|z6<|zz (by kernel_rfl) ?_
      exact ⟨(i55, i49), zR5, trivial, ⟨_, (.refl _), by rw [← e1, ← e2]; rfl⟩, trivial⟩
     ·refine zr (rows := [[_]]) ps23_1 Z Z Z Z Z<|z6<|zOn 5 Z<|zq (k := 1) j6 jz Z Z Z Z Z (fun _ => .t1) h1 (by decide) Z (by show (_ + 1) * 8 ≤ _; omega) (by show _ + 1 ≤ _; omega)<|fun i49 => z6<|zTk 12 Z (zf jj Z ji (by decide) Z Z)<|zOn 11 Z<|zq (k := 1) j6 jz Z Z Z Z Z (fun _ => .head) h2 (by decide) Z (by show (_ + 1) * 8 ≤ _; omega) (by show _ + 1 ≤ _; omega)<|fun i55 => z6<|zw<|zu (i := 13) Z (by kernel_rfl) (by kernel_rfl)<|ya (l := [_]) (new := [_, _, _]) ji Z Z Z Z Z Z .head Z Z<|z6<|zu (i := 14) Z (by kernel_rfl) (by kernel_rfl)<|z8 (zf jj Z ji (by decide) Z Z)<|z6<|zu (i := 15) Z (by kernel_rfl) (by kernel_rfl)<|ya (l := [_]) (new := [_, _, _]) ji Z Z Z Z Z Z .head Z Z<|z6<|zz (by kernel_rfl) ?_
      exact ⟨(i55, i49), zR5, trivial, ⟨_, (.refl _), by rw [← e1, ← e2]; rfl⟩, trivial⟩
    ·refine zr (rows := [[_]]) ps23_1 Z Z Z Z Z<|z6<|zOn 4 Z<|zr (rows := [[_]]) ps23_1 Z Z Z Z Z<|z6<|zOn 5 Z<|zq (k := 1) j6 jz Z Z Z Z Z (fun _ => .t1) h1 (by decide) Z (by show (_ + 1) * 8 ≤ _; omega) (by show _ + 1 ≤ _; omega)<|fun i49 => z6<|zTk 12 Z (zf jj Z ji (by decide) Z Z)<|zOn 11 Z<|zq (k := 1) j6 jz Z Z Z Z Z (fun _ => .head) h2 (by decide) Z (by show (_ + 1) * 8 ≤ _; omega) (by show _ + 1 ≤ _; omega)<|fun i55 => z6<|zw<|zu (i := 13) Z (by kernel_rfl) (by kernel_rfl)<|ya (l := [_]) (new := [_, _, _]) ji Z Z Z Z Z Z .head Z Z<|z6<|zu (i := 14) Z (by kernel_rfl) (by kernel_rfl)<|z8 (zf jj Z ji (by decide) Z Z)<|z6<|zu (i := 15) Z (by kernel_rfl) (by kernel_rfl)<|ya (l := [_]) (new := [_, _, _]) ji Z Z Z Z Z Z .head Z Z<|z6<|zz (by kernel_rfl) ?_
     exact ⟨(i55, i49), zR5, trivial, ⟨_, (.refl _), by rw [← e1, ← e2]; rfl⟩, trivial⟩
   ·rintro ⟨ia, ib⟩ _
    refine zRg<|zVzAd Z Z<|zVzMi Z<|z6 ?_
    exact ⟨(k + 1, ia, ib), zR4, zR1, zLe, hk2, by dsimp only; omega⟩
  ·obtain rfl : k = (phPairs l p).length := by omega
   rw [qf, cI_fl, cI_fl]
   refine y4 (yn (off := 1) (rows := ((phPairs l p).map (·.2)).map encI) .t1 .head Z (by intro r hr; obtain ⟨z, _, rfl⟩ := List.mem_map.1 hr; rfl) (by decide) (by simp))<|y4 (yn (off := 2) (rows := ((phPairs l p).map (·.1)).map encI) .t1 .head Z (by intro r hr; obtain ⟨z, _, rfl⟩ := List.mem_map.1 hr; rfl) (by decide) (by simp))<|y5<|zSr<|z8 (yh Zj ju Z ⟨_, .head⟩ Z)<|zh ju Z Z Z Z Z Z .t1 Z<|z6<|zk<|afin.c1 Z ⟨_, .t1⟩ Zj ju Z ?_
   rfl
end Go.Proofs.YtpojdepccecpgaaGreatDoor
namespace Go.Proofs.YtpojdepccecpgaaGreatDoor
open Go.Proofs.Tryz
open Go.Proofs Go.Lib
theorem trm_two {ν β : Int → Int} (t : PTerm) : trmM ν id (trmM id β t) = trmM ν β t := by
 unfold trmM
 by_cases h0 : t.kind = 0
 ·rw [if_pos h0]; dsimp only; rw [if_pos h0, if_pos h0]; rfl
 ·rw [if_neg h0]
  by_cases h1 : t.kind = 1
  ·rw [if_pos h1]; dsimp only; rw [if_neg h0, if_pos h1, if_neg h0, if_pos h1]; rfl
  ·rw [if_neg h1]; dsimp only; rw [if_neg h0, if_neg h1, if_neg h0, if_neg h1]; rfl
section
variable {f : PFunc}
theorem canB_get {k : Nat} {x : Int} (h : (ord f)[k]? = some x) : (canB f)[k]? = some (turnB (ord f) k (blkX f x)) := by
 unfold canB
 rw [qi, List.getElem?_zipIdx, h]
 show some (turnB (ord f) (0 + k) _) = _
 rw [Nat.zero_add]
theorem canB_len : (canB f).length = (ord f).length := by unfold canB; rw [qh, List.length_zipIdx]
theorem can_blk {k : Nat} {x : Int} (h : (ord f)[k]? = some x) : (canD f).blocks[k]? = some (mapV (posI (vsL f)) (turnB (ord f) k (blkX f x))) := by
 show ((canB f).map _)[k]? = _
 rw [qi, canB_get h]; rfl
theorem can_len : (canD f).blocks.length = (ord f).length := by
 show ((canB f).map _).length = _
 rw [qh, canB_len]
theorem can_at (hE : EndsOk f) {x : Int} (hx : x ∈ ord f) : blkX (canD f) (posI (ord f) x) = mapV (posI (vsL f)) (turnB (ord f) (posI (ord f) x).toNat (blkX f x)) := by
 obtain ⟨h1, h2, _⟩ := at_pos hx
 have := can_blk h1
 unfold blkX
 rw [this]; rfl
theorem vs_nodup : (vsL f).Nodup := see_nodup (by simp)
theorem vs_blk {x : Int} (hx : x ∈ ord f) {v : Int} (hv : v ∈ blkVars (turnB (ord f) (posI (ord f) x).toNat (blkX f x))) : v ∈ vsL f := by
 unfold vsL
 rw [see_mem]
 right
 refine List.mem_append_right _ (List.mem_flatMap.2 ⟨_, ?_, hv⟩)
 exact qj (canB_get (at_pos hx).1)
theorem vs_par {v : Int} (h : v ∈ f.params) : v ∈ vsL f := by unfold vsL; rw [see_mem]; exact .inr (List.mem_append_left _ h)
theorem par_nodup (hS : ShapedP f) : f.params.Nodup := by
 rw [List.nodup_iff_pairwise_ne, List.pairwise_iff_getElem]
 intro i j hi hj hij
 rw [hS.2.1 i hi, hS.2.1 j hj]
 omega
theorem pos_par (hS : ShapedP f) {v : Int} (h : v ∈ f.params) : posI (vsL f) v = v := by
 obtain ⟨i, hi, e⟩ := List.getElem_of_mem h
 have hp : f.params <+: vsL f := by
  unfold vsL
  rw [see_app, see_new (par_nodup hS) (by simp), List.nil_append]
  exact see_pre
 have h1 : (vsL f)[i]? = some v := by
  rw [← e]
  obtain ⟨t, ht⟩ := hp
  rw [← ht, List.getElem?_append_left hi, qa hi]
 rw [pos_at vs_nodup h1, ← e, hS.2.1 i hi]
theorem pairs_mem {l : List Int} {p : PPhi} (hD : DistP p) {x a : Int} (hx : x ∈ l) (h : (x, a) ∈ prs p) : a ∈ phiVars (phD l p) := by
 unfold phiVars phD
 exact .tail _ (List.mem_map.2 ⟨(posI l x, a), mem_pairs.2 ⟨(posI l x).toNat, x, (at_pos hx).1, by rw [qp (at_pos hx).2.1], (look_iff hD).2 h⟩, rfl⟩)
theorem vs_has (hT : typedB f = true) (hJ : JoinP f) : ∀ v ∈ vsL f, hasV f v = true := by
 have hS := typedS hT
 have hE := typedE hT
 have hrg : ∀ {x : Int}, x ∈ ord f → 0 ≤ x ∧ x < f.blocks.length := fun hx => order_rng hE.grph.toEOk hx
 have h := (prune_like hE hS hJ).vars fun x hx p hp => phi_dist hS hJ (hrg hx).1 (hrg hx).2 hp
 exact h.2
theorem can_ends (hT : typedB f = true) : EndsOk (canD f) := by
 have hE := typedE hT
 have hz := zero_ord hE
 refine ⟨by rw [can_len]; exact List.length_pos_of_mem hz, fun b hb c hc => ?_⟩
 obtain ⟨k, hk⟩ := List.getElem?_of_mem hb
 have hkl : k < (ord f).length := by rw [← can_len]; exact (List.getElem?_eq_some_iff.1 hk).1
 have hx := qa hkl
 rw [can_blk hx] at hk
 have hxm := qj hx
 have hr := order_rng hE.grph.toEOk hxm
 rw [← Option.some.inj hk] at hc
 have hend : ∀ c ∈ endsL (blkX f (ord f)[k]).term, c ∈ ord f := by rw [← ends_at hr.1 hr.2]; exact fun c hc => ord_rch hE hxm hc
 have hc : c ∈ endsL (trmM (posI (vsL f)) id (trmM id (posI (ord f)) (blkX f (ord f)[k]).term)) := hc
 rw [trm_two, endsL_map fun a ha b hb e => pos_inj (hend a ha) (hend b hb) e] at hc
 obtain ⟨a, ha, rfl⟩ := List.mem_map.1 hc
 have := at_pos (hend a ha)
 rw [can_len]
 exact ⟨this.2.1, this.2.2⟩
theorem zip_two {ν : Int → Int} : ∀ l : List (Int × Int), (l.map (·.1)).zip ((l.map (·.2)).map ν) = l.map fun z => (z.1, ν z.2)
 | [] => rfl
 | z :: l => by rw [List.map_cons, List.map_cons, List.map_cons, List.zip_cons_cons, zip_two l]; rfl
theorem can_like (hT : typedB f = true) (hJ : JoinP f) : Like (· ∈ ord f) (· ∈ vsL f) (posI (ord f)) (posI (vsL f)) f (canD f) := by
 have hS := typedS hT
 have hE := typedE hT
 have hn : (ord f).Nodup := order_nodup hE.grph.toEOk
 have hrg : ∀ {x : Int}, x ∈ ord f → 0 ≤ x ∧ x < f.blocks.length := fun hx => order_rng hE.grph.toEOk hx
 have hvs := vs_has hT hJ
 refine { okf := hE, okg := can_ends hT, r0 := zero_ord hE, b0 := pos_at hn (order_head hE.grph.toEOk), rng := fun x hx => ?_, cl := fun x hx c hc => ord_rch hE hx hc, onto := fun y h0 h1 => ?_, inj := fun x y => pos_inj, blk := fun x hx => ?_, par := Z, parv := fun v hv => ⟨vs_par hv, pos_par hS hv⟩, vty := fun v hv => ?_, vinj := fun u v => pos_inj }
 ·have := at_pos hx
  exact ⟨hrg hx, this.2.1, by rw [can_len]; exact this.2.2⟩
 ·rw [can_len] at h1
  have hk : y.toNat < (ord f).length := by omega
  exact ⟨(ord f)[y.toNat], qe hk, by rw [pos_at hn (qa hk)]; omega⟩
 ·rw [can_at hE hx]
  have hr := hrg hx
  have hm := blkX_mem hr.1 hr.2
  have hv := fun v => vs_blk (f := f) hx (v := v)
  refine ⟨?_, fun i p q hp hq => ?_, Z, fun z hz v hz2 => hv v ?_, ?_, fun v hz => hv v ?_⟩
  ·show (((blkX f x).phis.map _).map _).length = _
   rw [qh, qh]
  ·have hq : (((blkX f x).phis.map (phD (ord f))).map (phM (posI (vsL f))))[i]? = some q := hq
   rw [qi, qi, hp] at hq
   have hq := (Option.some.inj hq).symm
   subst hq
   have hpm := qj hp
   have hD := phi_dist hS hJ hr.1 hr.2 hpm
   have hphi : ∀ v ∈ phiVars (phD (ord f) p), v ∈ vsL f := fun v h => hv v (List.mem_append_left _ (List.mem_flatMap.2 ⟨_, List.mem_map.2 ⟨p, hpm, rfl⟩, h⟩))
   refine ⟨Z, hphi _ (.head _), ?_, (prs p).filter (fun z => decide (z.1 ∈ ord f)), fun z=>?_, List.filter_sublist, fun z hz => ?_, ?_⟩
   ·show ((phPairs _ p).map _).length = (((phPairs _ p).map _).map _).length
    rw [qh, qh, qh]
   ·rw [List.mem_filter, qq]
   ·obtain ⟨z1, z2⟩ := List.mem_filter.1 hz
    exact hphi _ (pairs_mem hD (of_decide_eq_true z2) z1)
   ·show (((phPairs (ord f) p).map (·.1)).zip (((phPairs (ord f) p).map (·.2)).map (posI (vsL f)))).Perm _
    rw [zip_two]
    have := (pairs_perm hn hD).map fun z : Int × Int => (z.1, posI (vsL f) z.2)
    rw [List.map_map] at this
    exact this
  ·exact List.mem_append_right _ (List.mem_append_left _ (List.mem_flatMap.2 ⟨z, hz, hz2⟩))
  ·exact trm_two _
  ·refine List.mem_append_right _ (List.mem_append_right _ ?_)
   show v ∈ termVars (trmM id (posI (ord f)) (blkX f x).term)
   unfold termVars at hz ⊢
   unfold trmM
   by_cases h0 : (blkX f x).term.kind = 0
   ·rw [if_pos h0] at hz; cases hz
   ·rw [if_neg h0] at hz ⊢
    by_cases h1 : (blkX f x).term.kind = 1
    ·rw [if_pos h1, if_neg h0]; exact hz
    ·rw [if_neg h1, if_neg h0]; exact hz
 ·have hh := hvs v hv
  have := at_pos hv
  unfold hasV at hh
  simp only [qo, qq] at hh
  refine ⟨hh.1, this.2.1, ?_⟩
  unfold kindV
  show ((((vsL f).zipIdx.map (canV f))[_]?).map _).getD 0 = _
  rw [qi, List.getElem?_zipIdx, this.1]; rfl
theorem vs_len (hT : typedB f = true) (hJ : JoinP f) : (vsL f).length ≤ f.vars.length := by
 have h := vs_has hT hJ
 have hs : ∀ v ∈ vsL f, v ∈ intsTo f.vars.length := fun v hv => by
  have := h v hv
  unfold hasV at this
  simp only [qo, qq] at this
  exact mem_intsTo.2 this
 have := List.Nodup.length_le_of_subset vs_nodup hs
 rwa [intsTo_len] at this
end
end Go.Proofs.YtpojdepccecpgaaGreatDoor
namespace Go.Proofs.YtpojdepccecpgaaGreatDoor
open Go.Proofs.Tryz
open Go.Proofs Go.Lib
section
variable {f : PFunc}
theorem ord_sum (hE : EndsOk f) (g : Nat → Nat) : ((ord f).map fun x => g x.toNat).sum ≤ ((List.range f.blocks.length).map g).sum := by
 have hp : (ord f).Perm ((rlL f).map fun b : Nat => (b : Int)) := by
  refine (List.perm_ext_iff_of_nodup (order_nodup hE.grph.toEOk) ?_).2 fun x=>?_
  ·rw [List.nodup_iff_pairwise_ne, List.pairwise_map]
   exact (List.nodup_iff_pairwise_ne.1 rl_nodup).imp fun h e => h (by omega)
  ·rw [List.mem_map]
   constructor
   ·intro h
    have h0 := order_rng hE.grph.toEOk h
    exact ⟨x.toNat, (mem_rl hE).2 (by rwa [qp h0.1]), qp h0.1⟩
   ·rintro ⟨b, hb, rfl⟩
    exact (mem_rl hE).1 hb
 rw [((hp.map fun x => g x.toNat).sum_nat), List.map_map]
 exact sum_sub List.filter_sublist
theorem blocks_sum (g : PBlock → Nat) : f.blocks.map g = (List.range f.blocks.length).map fun b : Nat => g (blkX f b) := by
 apply List.ext_getElem
 ·simp
 ·intro i h1 h2
  rw [List.getElem_map, List.getElem_map, List.getElem_range, blkX_get (qa (by simpa using h1))]
theorem can_vlen : (canD f).vars.length = (vsL f).length := by
 show ((vsL f).zipIdx.map _).length = _
 rw [qh, List.length_zipIdx]
theorem can_var {i : Nat} (hi : i < (canD f).vars.length) : (canD f).vars[i] = ⟨nameK 118 i, kindV f ((vsL f)[i]'(by rw [← can_vlen]; exact hi))⟩ := by
 have hi2 : i < (vsL f).length := by rw [← can_vlen]; exact hi
 have : (canD f).vars[i]? = some ⟨nameK 118 i, kindV f (vsL f)[i]⟩ := by
  show ((vsL f).zipIdx.map (canV f))[i]? = _
  rw [qi, List.getElem?_zipIdx, qa hi2]
  show some (canV f (_, 0 + i)) = _
  rw [Nat.zero_add]; rfl
 rw [qa hi] at this
 exact Option.some.inj this
theorem can_name {i : Nat} (hi : i < (canD f).blocks.length) : (canD f).blocks[i].name = nameK 98 i := by
 have hi2 : i < (ord f).length := by rw [← can_len]; exact hi
 have := can_blk (qa hi2)
 rw [qa hi] at this
 rw [Option.some.inj this]; rfl
theorem can_typed (hT : typedB f = true) (hJ : JoinP f) : typedB (canD f) = true ∧ JoinP (canD f) := by
 have hS := typedS hT
 have hE := typedE hT
 have h := can_like hT hJ
 have hrg : ∀ {x : Int}, x ∈ ord f → 0 ≤ x ∧ x < f.blocks.length := fun hx => order_rng hE.grph.toEOk hx
 have h1 := hS.1
 unfold bad1 at h1
 simp only [Bool.or_eq_false_iff, decide_eq_false_iff_not] at h1
 have hv := vs_len hT hJ
 have hb : (ord f).length ≤ f.blocks.length := order_len hE.grph
 have hp : f.params.length ≤ (vsL f).length := List.Nodup.length_le_of_subset (par_nodup hS) fun v hv => vs_par hv
 have hpos := (can_ends hT).pos
 refine ⟨h.typed hS (fun v hv => ?_) (fun x hx p hp => phi_reached hT hJ hx hp) hT ?_ hS.2.1 (fun i hi => ?_) (fun i hi => ?_) ?_, h.joined (fun x hx p hp => phi_dist hS hJ (hrg hx).1 (hrg hx).2 hp) (fun x hx p hp => (phi_shape hS (hrg hx).1 (hrg hx).2 hp).2.1.symm) hJ⟩
 ·have := at_pos hv
  unfold hasV
  rw [can_vlen]
  simp [this.2.1, this.2.2]
 ·unfold bad1
  rw [can_vlen, can_len]
  rw [can_len] at hpos
  simp only [Bool.or_eq_false_iff, decide_eq_false_iff_not]
  exact ⟨by omega, h1.2.1, by show ¬ ((vsL f).length : Int) < f.params.length; omega, by omega, by omega⟩
 ·have hi2 : i < (vsL f).length := by rw [← can_vlen]; exact hi
  rw [can_var hi]
  have hh := vs_has hT hJ _ (qe hi2)
  obtain ⟨x, hx, _, hk⟩ := hasV_get hh
  obtain ⟨hx1, hx2⟩ := List.getElem?_eq_some_iff.1 hx
  have hty := hS.2.2.1 _ hx1
  rw [hx2] at hty
  refine ⟨(name_ok (.inl Z) (by omega)).1, by rw [hk]; exact hty.2.1, by rw [hk]; exact hty.2.2.1, fun s hs => ?_⟩
  obtain ⟨c, hc, rfl⟩ := List.mem_map.1 hs
  obtain ⟨j, hj⟩ := List.getElem?_of_mem hc
  rw [List.getElem?_take] at hj
  split at hj
  ·rename_i hji
   rw [qa (by omega)] at hj
   rw [← Option.some.inj hj, can_var]
   exact fun e => by
    have := name_inj (.inl rfl) (by omega) (by omega) e
    omega
  ·cases hj
 ·have hi2 : i < (ord f).length := by rw [← can_len]; exact hi
  unfold NamP
  rw [can_name hi]
  refine ⟨(name_ok (.inr Z) (by omega)).1, fun s hs => ?_⟩
  obtain ⟨c, hc, rfl⟩ := List.mem_map.1 hs
  obtain ⟨j, hj⟩ := List.getElem?_of_mem hc
  rw [List.getElem?_take] at hj
  split at hj
  ·rename_i hji
   rw [qa (by omega)] at hj
   rw [← Option.some.inj hj, can_name]
   exact fun e => by
    have := name_inj (.inr rfl) (by omega) (by omega) e
    omega
  ·cases hj
 ·refine Nat.le_trans ?_ hS.2.2.2.2.1
  unfold sumTo
  rw [blocks_sum (f := f)]
  refine Nat.le_trans (Nat.le_of_eq ?_) (ord_sum hE _)
  congr 1
  apply List.ext_getElem
  ·rw [qh, qh, can_len]
  ·intro i h1 h2
   have hi2 : i < (ord f).length := by rw [qh] at h2; exact h2
   rw [List.getElem_map, List.getElem_map]
   have hb := can_blk (qa hi2)
   rw [qa (by rw [can_len]; exact hi2)] at hb
   rw [Option.some.inj hb]
   have h0 := hrg (qe hi2)
   show ((((blkX f (ord f)[i]).phis.map _).map _).length + ((blkX f (ord f)[i]).insts.map _).length) = _
   rw [qh, qh, qh, qp h0.1]
theorem can_small (hT : typedB f = true) (hJ : JoinP f) (hs : small f) : small (canD f) := by
 have hE := typedE hT
 have hv := vs_len hT hJ
 have hb : (ord f).length ≤ f.blocks.length := order_len hE.grph
 obtain ⟨h1, h2, h3, h4, h5⟩ := hs
 have hS := (typedS hT).1
 unfold bad1 at hS
 simp only [Bool.or_eq_false_iff, decide_eq_false_iff_not] at hS
 refine ⟨by rw [can_vlen]; omega, h2, by rw [can_len]; omega, fun v hv => ?_, fun c hc => ?_⟩
 ·obtain ⟨i, hi, rfl⟩ := List.getElem_of_mem hv
  rw [can_var hi]
  have := (name_ok (c := 118) (.inl rfl) (i := i) (by rw [can_vlen] at hi; omega)).2.2
  show (nameK 118 i).size ≤ 1000
  omega
 ·obtain ⟨i, hi, rfl⟩ := List.getElem_of_mem hc
  have hi2 : i < (ord f).length := by rw [← can_len]; exact hi
  have hb2 := can_blk (qa hi2)
  rw [qa hi] at hb2
  have h0 := order_rng hE.grph.toEOk (qe hi2)
  obtain ⟨g1, g2, g3, g4, g5⟩ := h5 _ (blkX_mem h0.1 h0.2)
  have hn := (name_ok (c := 98) (.inr rfl) (i := i) (by omega)).2.2
  rw [Option.some.inj hb2]
  refine ⟨by show (nameK 98 i).size ≤ 1000; omega, by show ((List.map _ _).map _).length ≤ _; rw [qh, qh]; exact g2, by show (List.map _ _).length ≤ _; rw [qh]; exact g3, fun q hq => ?_, fun z hz => ?_⟩
  ·obtain ⟨q2, hq2, rfl⟩ := List.mem_map.1 hq
   obtain ⟨p, hp, rfl⟩ := List.mem_map.1 hq2
   have : (phPairs (ord f) p).length ≤ (ord f).length := by
    unfold phPairs
    refine Nat.le_trans (List.length_filterMap_le _ _) ?_
    rw [List.length_range]; omega
   show ((List.map _ (List.map _ (phPairs (ord f) p))).length ≤ _) ∧ (List.map _ (phPairs (ord f) p)).length ≤ _
   rw [qh, qh, qh]
   omega
  ·obtain ⟨x, hx, rfl⟩ := List.mem_map.1 hz
   show (List.map _ _).length ≤ _
   rw [qh]; exact g5 x hx
end
end Go.Proofs.YtpojdepccecpgaaGreatDoor
namespace Go.Proofs.YtpojdepccecpgaaGreatDoor
open Go.Proofs.Tryz
open Go.Proofs Go.Lib Go.Shelf Go.RowKit
variable {E : World}
set_option maxRecDepth 20000
theorem itoa_spec (n : Int) (hn : -9223372036854775808 ≤ n ∧ n ≤ 9223372036854775807) (hT : Pows E) : AFun prog E 28 [.int .i64 n] (.str ⟨(Lib.itoa n).toArray⟩) := fun I F w vs h1 h2 => by
 obtain ⟨v, us, rfl, h3, h5⟩ := h1
 have h3 : v = .int .i64 n := h3
 have h5 : us = [] := h5
 subst h3 h5
 obtain ⟨ht, L, hL, hS⟩ := h2
 have hL : L = [] := hL
 subst hL
 refine Fn.ofCalls func28 Z (by decide) ?_
 exact (Tryz.strconv_Itoa n hn.1 hn.2 w (tab_up hT hS)).mono fun e w' ⟨he, k, os, hw⟩ => ⟨_, he, I, .str ⟨(Lib.itoa n).toArray⟩, [], .refl _, rfl, ⟨ht, [], rfl, by
  subst hw
  exact hS.more rfl rfl rfl (fun k hk => Array.getElem?_append_left hk)⟩, rfl⟩
theorem itoa_nat (k : Nat) : Lib.itoa (k : Int) = decDigits k := by
 unfold Lib.itoa; rw [if_neg (by omega)]; simp
theorem nameK_itoa (c : UInt8) (k : Nat) : strL [c] ++ ⟨(Lib.itoa (k : Int)).toArray⟩ = nameK c k := by
 rw [itoa_nat]; exact strL_app [c] _
def plL (f : PFunc) (k : Nat) : List Int := (List.range f.blocks.length).map fun (b : Nat) => if (b : Int) ∈ (ord f).take k then posI (ord f) b else 0
theorem plL_len (f : PFunc) (k : Nat) : (plL f k).length = f.blocks.length := by simp [plL]
theorem plL_zero (f : PFunc) : plL f 0 = List.replicate f.blocks.length 0 := by
 apply List.ext_getElem
 ·simp [plL]
 ·intro i h1 h2; simp [plL]
theorem plL_idx {f : PFunc} {k i : Nat} (h : i < (plL f k).length) : (plL f k)[i] = if (i : Int) ∈ (ord f).take k then posI (ord f) i else 0 := by simp [plL]
theorem plL_set {f : PFunc} {k : Nat} {x : Int} (hn : (ord f).Nodup) (h : (ord f)[k]? = some x) (h0 : 0 ≤ x) : (plL f k).set x.toNat (k : Int) = plL f (k + 1) := by
 apply List.ext_getElem
 ·simp [plL]
 ·intro i h1 h2
  rw [List.getElem_set, plL_idx, plL_idx, List.take_add_one, h]
  by_cases e : x.toNat = i
  ·have : (i : Int) = x := by omega
   rw [if_pos e, this, if_pos (by simp), pos_at hn h]
  ·rw [if_neg e]
   have : (i : Int) ≠ x := by omega
   simp [this]
theorem plL_get {f : PFunc} {x : Int} (hx : x ∈ ord f) (h0 : 0 ≤ x) (h1 : x < f.blocks.length) : (plL f (ord f).length)[x.toNat]? = some (posI (ord f) x) := by
 unfold plL
 rw [qi, List.getElem?_range (by omega)]
 show some (if (x.toNat : Int) ∈ _ then posI (ord f) (x.toNat : Int) else 0) = _
 rw [qp h0, qf, if_pos hx]
set_option maxHeartbeats 8000000 in
theorem turned_spec (f : PFunc) (hf : small f) (hL : Letters E) (hPw : Pows E) (ht : typedB f = true) (hJ : JoinP f) (hA : ∀ x : Int, 0 ≤ x → x < f.blocks.length → x ∈ ord f) : AFun prog E 25 [.agg (encF f)] (.fro 7 ((canB f).map encBlk)) := by
 have hn := hf.2.2.1
 have hE := typedE ht
 have hS := typedS ht
 have hnd : (ord f).Nodup := order_nodup hE.grph.toEOk
 have hrg : ∀ {x : Int}, x ∈ ord f → 0 ≤ x ∧ x < f.blocks.length := fun hx => order_rng hE.grph.toEOk hx
 have hol : (ord f).length ≤ f.blocks.length := order_len hE.grph
 have ho : orderT (EndsOf f) f.blocks.length = ord f := rfl
 have hor := orderX_spec (E := E) f hf hL ht
 rw [ho] at hor
 refine zt func25 Z (by decide) Z<|zSr<|yc (cs := _) Z Z Z<|z8 (zAr Z)<|z6<|zSr<|zVGvloadWF jp j9 Z Z<|zg (hor) Z<|z8 (zAf Z)<|z6<|zSr<|zVzFF jd Z jw Z Z<|zVzLf Z3 Z<|zVGvlenM jc Z<|AOps.makeI (m := f.blocks.length) j6 jz Z Z Z Z Z (by simp) (by simp) (by show (8 : Int) * _ ≤ _; omega) (by omega)<|fun i19 => z8 (zAo Z)<|z6<|ze<|zSr<|zVzMf Z<|zVGvlenM j6 Z<|zVzMi Z<|z6<|zi<|y7 (γ := Nat) [1, 3, 4, 20, 21] (fun g => [(22, .int .i64 g)]) (fun g => [(i19, .grow 1 3 (cI (plL f g)))]) (fun g => g ≤ (ord f).length) (fun g => (ord f).length - g) 0 zR1 ⟨_, (.refl _), by rw [plL_zero]⟩ (qd _) ?_
 rintro k hk
 refine zSr<|zVGvlss Z Z<|z6<|ze<|y2 Z (fun ck=>?_) (fun ck=>?_)
 ·have hk2 : k < (ord f).length := by omega
  obtain ⟨x, hx⟩ : ∃ x, (ord f)[k] = x := ⟨_, rfl⟩
  have hgx : (ord f)[k]? = some x := by rw [qa hk2, hx]
  have hxr := hrg (hx ▸ qe hk2)
  refine zj<|ze<|zi<|zSr<|zVzMi Z<|z8 (zIM k j6 j8 Z Z Z hgx)<|zVzLi jl Z<|zVzAi Z<|zVzAi Z<|z6<|zRg<|z8 (zMo Z)<|zVzMi Z<|zVzMi Z<|z8 (q0 (j := x.toNat) j6 j8 Z Z (by omega) ⟨_, .head⟩ (by rw [cI_len, plL_len]) (by omega))<|yy (j := x.toNat) j8 Z Z .head (by rw [plL_len]; omega)<|z6<|zRg<|zVzAd Z Z<|zVzMi Z<|z6 ?_
  exact ⟨k + 1, zR5, zR1, ⟨_, (.refl _), by rw [← plL_set hnd hgx hxr.1]⟩, hk2, by omega⟩
 ·obtain rfl : k = (ord f).length := by omega
  refine y4 (GStep.knowI (t := 4) Z .head (plL_len _ _))<|y5<|zSr<|z8 (zAr Z)<|z6<|adopt_wp (t := 7) (k := 7) (T := 69) Z<|fun i7 => ze<|zSr<|zVzMf Z<|zVGvlenM j6 Z<|zVzMi Z<|z6<|zi<|y7 (γ := Nat × Nat) [1, 4, 32, 33] (fun g => [(34, .int .i64 g.1), (7, .own g.2 g.1)]) (fun g => [(g.2, .grow 7 69 (((canB f).take g.1).map encBlk).flatten)]) (fun g => g.1 ≤ (ord f).length) (fun g => (ord f).length - g.1) (0, i7) zR2 zLe (qd _) ?_
  rintro ⟨k, jb⟩ hk
  try dsimp only at *
  refine zSr<|zVGvlss Z Z<|z6<|ze<|y2 Z (fun ck=>?_) (fun ck=>?_)
  ·have hk2 : k < (ord f).length := by omega
   obtain ⟨x, hx⟩ : ∃ x, (ord f)[k] = x := ⟨_, rfl⟩
   have hgx : (ord f)[k]? = some x := by rw [qa hk2, hx]
   have hxm : x ∈ ord f := hx ▸ qe hk2
   have hxr := hrg hxm
   obtain ⟨b, hb⟩ : ∃ b, f.blocks[x.toNat]'(by omega) = b := ⟨_, rfl⟩
   have hgb : f.blocks[x.toNat]? = some b := by rw [qa (by omega), hb]
   have hbk : blkX f x = b := by unfold blkX; rw [hgb]; rfl
   obtain ⟨hb0, hb1, hb2, hb3, hb4⟩ := hf.2.2.2.2 b (hb ▸ qe (by omega))
   have hcl : ((((canB f).take k).map encBlk).flatten).length = k * 7 := by rw [grow_len (k := 7) (fun _ => rfl), ql, canB_len]; omega
   refine zj<|ze<|zi<|zSr<|zVzMi Z<|z8 (zIM k j6 j8 Z Z Z hgx)<|zVzLi jl Z<|zVzAi Z<|zVzAi Z<|z6<|zSr<|zVzFF jd Z jw Z Z<|zVzLf Z3 Z<|zVzMi Z<|z8 (zIM x.toNat jc jm Z Z (by omega) hgb)<|zVGvloadWF Ze jm Z Z<|zo (cs := [.str ⟨#[]⟩, .raw (.slice none 0 0), .raw (.slice none 0 0), .int .i64 0, .int .i64 0, .int .i64 0, .int .i64 0]) Z0 Z Z<|fun i10 => zh jm Z Z Z Z Z Z .head Z<|zd (yf (t := 10) Z .head)<|z6<|ze<|yt (γ := Nat) [1, 4, 7, 10, 32, 33, 34] (fun i => [(11, .po i 0)]) (fun i => [(i, .cells 69 [.str (nameK 98 k), .raw (.slice none 0 0), .fro 4 (b.insts.map encInst), .int .i64 b.term.kind, .int .i64 b.term.var, .int .i64 b.term.to0, .int .i64 b.term.to1]), (jb, .grow 7 69 (((canB f).take k).map encBlk).flatten)]) (fun i => True) ?_ (fun _ _ h => h) ?_
   ·have hsz : (⟨#[98]⟩ : ByteArray).size + (⟨(Lib.itoa (k : Int)).toArray⟩ : ByteArray).size ≤ 100 := by
     have := Lib.itoa_length_le (k : Int) (by omega) (by omega)
     show 1 + (List.toArray _).size ≤ _
     rw [List.size_toArray]; omega
    refine y6 (fun j => Nat.beq j 9) (by kernel_rfl) Z (yb (.rest _))<|zTk 0 Z (zMi Z)<|zTk 3 Z (zFF j7 Z Z7 Z Z)<|zTk 4 Z (zLf Zm Z)<|zTk 5 Z (zFF j7 Z jv Z Z)<|zTk 6 Z (yo Zy jv Z Z)<|yg (i := 1) (j := 8) Z Z (by kernel_rfl) ?_ ?_
    ·refine zg (itoa_spec k ⟨by omega, by omega⟩ hPw) Z<|z6<|zTk 2 Z (Gv.addT Z Z (by omega))<|zTk 7 Z (y1 (cps := [(0, [_]), (2, [_]), (3, [_, _, _, _])]) (rs := [_, .raw (.slice none 0 0), _, _, _, _, _]) pl69 Z Z Z)<|zOn 8 Z<|zo (cs := [.str ⟨#[]⟩, .raw (.slice none 0 0), .raw (.slice none 0 0), .int .i64 0, .int .i64 0, .int .i64 0, .int .i64 0]) Z0 Z Z<|fun i11 => z6<|zw<|zu (i := 9) Z (by kernel_rfl) (by kernel_rfl)<|zh jm Z Z Z Z Z Z .head Z<|z6<|zz (by kernel_rfl) ?_
     exact ⟨i11, zR7, zR1, ⟨_, (.refl _), by rw [← nameK_itoa]; rfl⟩, trivial⟩
    ·refine zo (cs := [.str ⟨#[]⟩, .raw (.slice none 0 0), .raw (.slice none 0 0), .int .i64 0, .int .i64 0, .int .i64 0, .int .i64 0]) Z0 Z Z<|fun i11 => z6<|zOn 1 Z<|zg (itoa_spec k ⟨by omega, by omega⟩ hPw) Z<|z6<|zTk 2 Z (Gv.addT Z Z (by omega))<|zTk 7 Z (y1 (cps := [(0, [_]), (2, [_]), (3, [_, _, _, _])]) (rs := [_, .raw (.slice none 0 0), _, _, _, _, _]) pl69 Z Z Z)<|zw<|zu (i := 9) Z (by kernel_rfl) (by kernel_rfl)<|zh jm Z Z Z Z Z Z .head Z<|z6<|zz (by kernel_rfl) ?_
     exact ⟨i11, zR7, zR1, ⟨_, (.refl _), by rw [← nameK_itoa]; rfl⟩, trivial⟩
   ·rintro i11 _
    refine ze<|zSr<|zVzFF j7 Z Z6 Z Z<|zVzLf Zk Z<|zVGvlenM jo Z<|zVzMi Z<|z6<|adoptC_wp (off := 1) (k := 3) (T := 71) (fun _ => .head) Z<|fun ip => y4 (zb (zc .t1))<|zi<|y7 (γ := Nat × Nat) [1, 4, 7, 10, 11, 32, 33, 34, 53, 54] (fun g => [(55, .int .i64 g.1)]) (fun g => [(i11, .cells 69 [.str (nameK 98 k), .own g.2 g.1, .fro 4 (b.insts.map encInst), .int .i64 b.term.kind, .int .i64 b.term.var, .int .i64 b.term.to0, .int .i64 b.term.to1]), (g.2, .grow 3 71 (((b.phis.take g.1).map (phD (ord f))).map encPhi).flatten), (jb, .grow 7 69 (((canB f).take k).map encBlk).flatten)]) (fun g => g.1 ≤ b.phis.length) (fun g => b.phis.length - g.1) (0, ip) zR1 zLe (qd _) ?_
    rintro ⟨m, ip⟩ hm
    try dsimp only at *
    refine zSr<|zVGvlss Z Z<|z6<|ze<|y2 Z (fun cm=>?_) (fun cm=>?_)
    ·have hm2 : m < b.phis.length := by omega
     obtain ⟨p, hp⟩ : ∃ p, b.phis[m] = p := ⟨_, rfl⟩
     have hgp : b.phis[m]? = some p := by rw [qa hm2, hp]
     have hpm : p ∈ (blkX f x).phis := by rw [hbk, ← hp]; exact qe hm2
     have hps := phi_shape hS hxr.1 hxr.2 hpm
     have hD := phi_dist hS hJ hxr.1 hxr.2 hpm
     have hpl := hb3 p (by rw [← hp]; exact qe hm2)
     have hng : ∀ c ∈ p.from_, 0 ≤ c ∧ c ∈ ord f ∧ (plL f (ord f).length)[c.toNat]? = some (posI (ord f) c) := fun c hc => by
      have h7 := List.all_eq_true.1 hps.2.2.2.2 c hc
      unfold hasB at h7
      simp only [qo, qq] at h7
      have h8 := hA c h7.1 h7.2
      exact ⟨h7.1, h8, plL_get h8 h7.1 h7.2⟩
     refine zj<|ze<|zi<|zSr<|z8 (zIM m jo ju Z Z Z hgp)<|zVGvloadWF Zj ju Z Z<|zo (cs := [.int .i64 0, .raw (.slice none 0 0), .raw (.slice none 0 0)]) Z9 Z Z<|fun i13 => zh ju Z Z Z Z Z Z .head Z<|zd (yf (t := 13) Z .head)<|z6<|y6 (fun j => Nat.beq j 8) (by kernel_rfl) Z (yb (.r (.rest _)))<|zTk 0 Z (zf j7 Z Z6 (by decide) Z Z)<|zTk 1 Z (zp (c := .own _ _) Zk Z ⟨_, .head⟩ Z)<|zTk 2 Z (yo Zj ju Z Z)<|zTk 3 Z (zMf Z)<|zOn 4 Z<|zg (sorted_spec p (ord f) (plL f (ord f).length) hnd hD hps.2.1.symm hpl.1 hng) Z<|z6<|zOn 5 Z<|zr (rows := [[_, _, _]]) ps67_1 Z Z Z Z Z<|z6<|zOn 6 Z<|zq (k := 3) jo type71 Z Z Z Z Z (fun _ => .head) (by rw [grow_len (k := 3) (fun _ => rfl), qh, ql, Nat.min_eq_left hm]) (by decide) Z (by show (_ + _) * 56 ≤ _; simp <;> omega) (by simp <;> omega)<|fun i65 => z6<|zTk 7 Z (zf j7 Z Z6 (by decide) Z Z)<|zw<|zu (i := 8) Z (by kernel_rfl) (by kernel_rfl)<|ya (l := [_]) (new := [_, _, _, _, _, _, _]) Z6 Z Z Z Z Z Z .head Z Z<|z6<|zz (by kernel_rfl)<|zRg<|zVzAd Z Z<|zVzMi Z<|z6 ?_
     exact ⟨(m + 1, i65), ⟨rfl, rfl, rfl, rfl, rfl, rfl, rfl, rfl, rfl, rfl, trivial⟩, zR1, ⟨_, (.refl _), by rw [List.take_add_one, hgp, qk, qk, List.flatten_append]; rfl⟩, hm2, by dsimp only; omega⟩
    ·obtain rfl : m = b.phis.length := by omega
     rw [qf]
     have hpush : ∀ t0 t1 : Int, (⟨b.term.kind, b.term.var, t0, t1⟩ : PTerm) = trmM id (posI (ord f)) b.term → (((canB f).take k).map encBlk).flatten ++ [AV.str (nameK 98 k), .fro 3 ((b.phis.map (phD (ord f))).map encPhi), .fro 4 (b.insts.map encInst), .int .i64 b.term.kind, .int .i64 b.term.var, .int .i64 t0, .int .i64 t1] = (((canB f).take (k + 1)).map encBlk).flatten := fun t0 t1 h => by
      rw [List.take_add_one, canB_get hgx, qk, List.flatten_append, hbk]
      congr 1
      show _ = ([encBlk (turnB (ord f) k b)] : List (List AV)).flatten
      unfold turnB
      rw [← h]; rfl
     have her := hE.rng b (hb ▸ qe (by omega))
     have hto : ∀ c ∈ endsL b.term, 0 ≤ c ∧ (plL f (ord f).length)[c.toNat]? = some (posI (ord f) c) := fun c hc => by
      have h7 := her c hc
      exact ⟨h7.1, plL_get (hA c h7.1 h7.2) h7.1 h7.2⟩
     refine y5<|y4 (yn (off := 1) (rows := (b.phis.map (phD (ord f))).map encPhi) .t1 .head Z (by intro r hr; obtain ⟨z, _, rfl⟩ := List.mem_map.1 hr; rfl) (by decide) (by simp))<|ze<|zSr<|zVzFF j7 Z jv Z Z<|zVzFF je Z Zg Z Z<|zVzLi Zl Z<|zVGvneqI Z Z<|z6<|y3 Z (fun c1=>?_) (fun c1=>?_)
     ·have hk2' : ¬ b.term.kind = 2 := by first | exact c1 | simpa using c1
      have htk := (hS.2.2.2.2.2 b (hb ▸ qe (by omega))).2.2
      have hkk : b.term.kind = 0 ∨ b.term.kind = 1 := by
       unfold termOK at htk
       by_cases h0 : b.term.kind = 0
       ·exact .inl h0
       ·by_cases h1 : b.term.kind = 1
        ·exact .inr h1
        ·rw [if_neg h0, if_neg h1, if_neg hk2'] at htk; cases htk
      have h0 := hto b.term.to0 (by unfold endsL; rcases hkk with h | h <;> simp [h]; split <;> simp)
      refine zRg<|zVzMf Z<|zVzFF j7 Z jv Z Z<|zVzFF je Z jy Z Z<|z8 (yr (j := 0) jr j8 Z Z Z (by decide) Z)<|zVzLi jl Z<|z8 (zIM b.term.to0.toNat j6 j8 Z Z (by omega) h0.2)<|zVzLi jl Z<|z8 (zf j7 Z jv (by decide) Z Z)<|z8 (zf je Z jy (by decide) Z Z)<|z8 (Gv.idxAO (j := 0) jr j8 Z Z Z (by decide) Z)<|ya (l := [_]) (new := [_, _, _, _, _, _, _]) j8 Z Z Z Z Z Z .head Z Z<|z6<|ze<|zSr<|zVzFF j7 Z jv Z Z<|zVzFF je Z Zg Z Z<|zVzLi Zl Z<|zVGveqlI Z Z<|z6<|y3 Z (fun c2=>?_) (fun c2=>?_)
      ·have hk1 : b.term.kind = 1 := by simpa using c2
       have h1 := hto b.term.to1 (by unfold endsL; simp [hk1]; split <;> simp [*])
       refine zRg<|zVzMf Z<|zVzFF j7 Z jv Z Z<|zVzFF je Z jy Z Z<|z8 (yr (j := 1) jr j8 Z Z Z (by decide) Z)<|zVzLi jl Z<|z8 (zIM b.term.to1.toNat j6 j8 Z Z (by omega) h1.2)<|zVzLi jl Z<|z8 (zf j7 Z jv (by decide) Z Z)<|z8 (zf je Z jy (by decide) Z Z)<|z8 (Gv.idxAO (j := 1) jr j8 Z Z Z (by decide) Z)<|ya (l := [_]) (new := [_, _, _, _, _, _, _]) j8 Z Z Z Z Z Z .head Z Z<|z6<|zRg<|z8 (zMo Z)<|z8 (yh Ze jm Z ⟨_, .head⟩ Z)<|zr (rows := [[_, _, _, _, _, _, _]]) ps24_1 Z Z Z Z Z<|zq (k := 7) jc Zd Z Z Z Z Z (fun _ => .t1) hcl (by decide) Z (by show (_ + _) * 96 ≤ _; simp <;> omega) (by simp <;> omega)<|fun i99 => z8 (zAo Z)<|z6<|zRg<|zVzAd Z Z<|zVzMi Z<|z6 ?_
       exact ⟨(k + 1, i99), zR4, zR2, ⟨_, (.drop (.refl _)), by rw [← hpush _ _ (show _ = trmM id (posI (ord f)) b.term by unfold trmM; rw [if_neg (show ¬ b.term.kind = 0 by omega), if_pos hk1]; rfl)]; rfl⟩, hk2, by dsimp only; omega⟩
      ·have hk1 : b.term.kind = 0 := hkk.resolve_right (by first | exact c2 | simpa using c2)
       refine zj<|zRg<|z8 (zMo Z)<|z8 (yh Ze jm Z ⟨_, .head⟩ Z)<|zr (rows := [[_, _, _, _, _, _, _]]) ps24_1 Z Z Z Z Z<|zq (k := 7) jc Zd Z Z Z Z Z (fun _ => .t1) hcl (by decide) Z (by show (_ + _) * 96 ≤ _; simp <;> omega) (by simp <;> omega)<|fun i99 => z8 (zAo Z)<|z6<|zRg<|zVzAd Z Z<|zVzMi Z<|z6 ?_
       exact ⟨(k + 1, i99), zR4, zR2, ⟨_, (.drop (.refl _)), by rw [← hpush _ _ (show _ = trmM id (posI (ord f)) b.term by unfold trmM; rw [if_pos hk1])]; rfl⟩, hk2, by dsimp only; omega⟩
     ·have hk2' : b.term.kind = 2 := by first | exact c1 | simpa using c1
      refine zj<|ze<|zSr<|zVzFF j7 Z jv Z Z<|zVzFF je Z Zg Z Z<|zVzLi Zl Z<|zVGveqlI Z Z<|z6<|y3 Z (fun c2=>?_) (fun c2=>?_)
      ·exfalso
       have hk1 : b.term.kind = 1 := by simpa using c2
       omega
      ·refine zj<|zRg<|z8 (zMo Z)<|z8 (yh Ze jm Z ⟨_, .head⟩ Z)<|zr (rows := [[_, _, _, _, _, _, _]]) ps24_1 Z Z Z Z Z<|zq (k := 7) jc Zd Z Z Z Z Z (fun _ => .t1) hcl (by decide) Z (by show (_ + _) * 96 ≤ _; simp <;> omega) (by simp <;> omega)<|fun i99 => z8 (zAo Z)<|z6<|zRg<|zVzAd Z Z<|zVzMi Z<|z6 ?_
       exact ⟨(k + 1, i99), zR4, zR2, ⟨_, (.drop (.refl _)), by rw [← hpush _ _ (show _ = trmM id (posI (ord f)) b.term by unfold trmM; rw [if_neg (show ¬ b.term.kind = 0 by omega), if_neg (show ¬ b.term.kind = 1 by omega)]; rfl)]; rfl⟩, hk2, by dsimp only; omega⟩
  ·obtain rfl : k = (ord f).length := by omega
   rw [List.take_of_length_le (by rw [canB_len]; exact Nat.le_refl _)]
   refine y5<|zSr<|z8 (zMo Z)<|z8 (zAo Z)<|z6<|zk ?_
   repeat (first | refine aseqQ_ret ?_ | refine ablockQ_ret ?_)
   refine GStep.fin (GStep.know (t := 2) (rows := (canB f).map encBlk) Z .head (by first | (intro r hr; obtain ⟨x, _, rfl⟩ := List.mem_map.1 hr; rfl) | simp [encI, encVar, encPhi, encInst, encBlk]) (by decide) (by rw [qh, canB_len]))<|zm (x := .fro _ _) Z ?_
   rfl
end Go.Proofs.YtpojdepccecpgaaGreatDoor
namespace Go.Proofs.YtpojdepccecpgaaGreatDoor
open Go.Proofs.Tryz
open Go.Proofs Go.Lib Go.Shelf Go.RowKit
set_option maxRecDepth 20000
def MapL (l : List Int) (J : Ghost) (v : Value) : Prop := ∃ b arr clock, v = .map (some b) ∧ J b = some (.map arr clock) ∧ ∀ k ∈ l, ∃ j, Instr.findNow (.int .i64) (kv k) arr.toList 0 = some (some (j, .int .i64 (posI l k)))
def mapL (l : List Int) : AV := .ext (MapL l)
section
variable {E : World} {P : Program} {env : AEnv} {O O' O'' : OL} {d ty : Nat} {pos : String} {af : Array Edge} {x y : Operand} {t u kt T : TypeId}
theorem Gv.lookupL {k : Int} {l : List Int} (hk0 : k ∈ l) (ht : P.underlying t = some (.map kt u)) (hk : P.underlying kt = some (.int .i64)) (hx : aev env x = mapL l) (hy : aev env y = .int .i64 k) :
  Gv P env O (Oper.mk (some d) (.lookup t x y false) ty pos af none) (.int .i64 (posI l k)) := fun I L E ρ h1 hL => by
 have hx2 := h1.ev x
 rw [hx] at hx2
 obtain ⟨_, hp⟩ := hx2
 have hy := evI h1 hy
 obtain ⟨b, arr, clock, ev, hJ, hf⟩ := hp I.k (Ghost.le.refl _)
 obtain ⟨j, hj⟩ := hf k hk0
 refine ⟨.int .i64 (posI l k), Z, fun w J L' hl hS hin => ?_⟩
 have hb : w.heap[b]? = some (.map arr clock) := hS.pers _ _ (hl _ _ hJ)
 have hc : (Instr.checkKey arr.isEmpty 10000 kt (kv k)).run P w = .ok () w := MapKept.run_checkKey (k := kv k) hk (kv_key k) _ 9999
 simp only [kv] at hc hj
 simp [execOp, Instr.lookup, run_underlying ht, ev, hy, MapKept.run_getObj_map hb, hc, MapKept.run_findKey hk hj, Result.andThen]
theorem GStep.knowMap {o off m b : Nat} {cs : List AV} {l : List Int} {es : List (Int × AV)} (hO : Pick O m (mapAO b es) O') (hP : Put O' o (.cells T cs) (.cells T (cs.set off (mapL l))) O'') (hc : cs[off]? = some (mref b)) (hM : MapOf l es) : GStep E env O env O'' := fun I F ρ w h1 ⟨ht, L, hL, hS⟩ => by
 obtain ⟨A, B, hp, ⟨arr, clock, rfl, he⟩, hB⟩ := hO.rep hL
 have hS' : SL I.k ((b, .map arr clock) :: (B ++ F)) E w := hS.perm ((hp.append_right F).symm)
 obtain ⟨hl, hS3⟩ := SL.freeze hS'
 obtain ⟨J, hJ⟩ : ∃ J : G, (⟨I.k.put b (.map arr clock), I.h⟩ : G) = J := ⟨_, rfl⟩
 have hle : I.le J := by rw [← hJ]; exact ⟨hl, fun _ _ h => h⟩
 have hJk : J.k = I.k.put b (.map arr clock) := by rw [← hJ]
 rw [← hJk] at hS3
 obtain ⟨L', h3, h4⟩ := Put.same (F := F) (E := E) (w := w) hle (.inr trivial) hP hc (fun v hv => by
  have hv : v = .map (some b) := hv
  subst hv
  refine ⟨Z, fun K hK => ⟨b, arr, clock, Z, hK _ _ (by rw [hJk]; exact Ghost.put_same _ _ _), fun k hk => ?_⟩⟩
  have hg := hM k
  rw [if_pos hk] at hg
  rcases EntR.get (k := k) 0 he with ⟨g1, g2, _⟩ | ⟨j, e0, v, x1, g1, _, _, g4, g5, _⟩
  ·rw [hg] at g2; cases g2
  ·rw [hg] at g4
   cases g4
   have g5 : v = .int .i64 (posI l k) := g5
   rw [g5] at g1
   exact ⟨_, g1⟩) hB
 exact ⟨J, hle, h1.mono hle, by rw [← hJ]; exact ht, L', h3, hS3.perm (h4.symm.append_right F)⟩
end
variable {E : World}
theorem allF_spec (l vs : List Int) (hl : vs.length ≤ 1000000) (hv : ∀ v ∈ vs, v ∈ l) :
  AFun prog E 29 [.pf [.fro 1 (l.map encI), mapL l], .fro 1 (vs.map encI)] (.fro 1 ((vs.map (posI l)).map encI)) := by
 refine zt func29 Z (by decide) Z<|zSr<|z8 (zAr Z)<|z6<|zSr<|z8 (zAr Z)<|z6<|ze<|zSr<|zVzMf Z<|zVGvlenM j6 Z<|zVzMi Z<|z6<|adopt_wp (t := 5) (k := 1) (T := 3) Z<|fun i5 => zi<|y7 (γ := Nat × Nat) [0, 8, 9] (fun g => [(10, .int .i64 g.1), (5, .own g.2 g.1)]) (fun g => [(g.2, .grow 1 3 (cI ((vs.take g.1).map (posI l))))]) (fun g => g.1 ≤ vs.length) (fun g => vs.length - g.1) (0, i5) zR2 zLe (qd _) ?_
 rintro ⟨k, i⟩ hk
 try dsimp only at *
 refine zSr<|zVGvlss Z Z<|z6<|ze<|y2 Z (fun ck=>?_) (fun ck=>?_)
 ·have hk2 : k < vs.length := by omega
  obtain ⟨v, hv1⟩ : ∃ v, vs[k] = v := ⟨_, rfl⟩
  have hvl : v ∈ l := hv v (hv1 ▸ qe hk2)
  have hpush : cI ((vs.take k).map (posI l)) ++ [AV.int .i64 (posI l v)] = cI ((vs.take (k + 1)).map (posI l)) := by
   rw [qb hk2, qk, ← cI_app, hv1]; rfl
  refine zj<|ze<|zi<|zSr<|z8 (zIM k j6 j8 Z Z Z (show vs[k]? = some v by rw [qa hk2, hv1]))<|zVzLi jl Z<|zVzAi Z<|z6<|zRg<|z8 (zMo Z)<|z8 (zMg Z)<|z8 (Gv.nilCheckF Z)<|zVzFF Zs Z sizeOf77 Z Z<|z8 (yp (c := mapL l) isAgg77 Z)<|zVzMi Z<|z8 (Gv.lookupL hvl Y9 Z8 Z Z)<|zr (rows := [[_]]) ps23_1 Z Z Z Z Z<|zq (k := 1) j6 jz Z Z Z Z Z (fun _ => .head) (by rw [cI_len, qh, ql]; omega) (by decide) Z (by show (_ + _) * 8 ≤ _; simp <;> omega) (by simp <;> omega)<|fun i22 => z8 (zAo Z)<|z6<|zRg<|zVzAd Z Z<|zVzMi Z<|z6 ?_
  exact ⟨(k + 1, i22), zR3, zR2, ⟨_, (.refl _), by rw [← hpush]; rfl⟩, hk2, by dsimp only; omega⟩
 ·obtain rfl : k = vs.length := by omega
  rw [qf]
  refine y4 (GStep.knowI (t := 5) Z .head (by rw [qh]))<|y5<|zSr<|zVzMf Z<|z8 (zAf Z)<|z6<|zk<|zm (x := .fro _ _) Z ?_
  rfl
end Go.Proofs.YtpojdepccecpgaaGreatDoor
namespace Go.Proofs.YtpojdepccecpgaaGreatDoor
open Go.Proofs.Tryz
open Go.Proofs
end Go.Proofs.YtpojdepccecpgaaGreatDoor
namespace Go.Proofs.YtpojdepccecpgaaGreatDoor
open Go.Proofs.Tryz
open Go.Proofs
end Go.Proofs.YtpojdepccecpgaaGreatDoor
namespace Go.Proofs.YtpojdepccecpgaaGreatDoor
open Go.Proofs.Tryz
def bag (X : OL) : AObj := .heapG (fun I L => ∃ L', RepOs I X L' ∧ L.Perm L') fun I J L h hp => by obtain ⟨L', h1, h2⟩ := hp; exact ⟨L', h1.mono h, h2⟩
section
variable {E : World} {env : AEnv} {O O1 O' : OL} {m i : Nat} {o : AObj} {X X' : OL}
theorem GStep.bagNew : GStep E env O env ((0, bag []) :: O) := fun I F ρ w h1 ⟨ht, L, hL, hS⟩ => ⟨I, .refl _, h1, ht, L, ⟨[], L, rfl, ⟨[], rfl, .refl _⟩, hL⟩, hS⟩
theorem GStep.bagOut (hX : X.Perm ((i, o) :: X')) (hO : Put O m (bag X) (bag X') O') : GStep E env O env ((i, o) :: O') := fun I F ρ w h1 ⟨ht, L, hL, hS⟩ => by
 obtain ⟨A, B, hp, ⟨L', hA, hpA⟩, hback⟩ := hO.rep hL
 obtain ⟨L2, h2, h3⟩ := hA.perm hX
 obtain ⟨C, D, rfl, h4, h5⟩ := h2
 obtain ⟨L3, h6, h7⟩ := hback (G.le.refl I) (A' := D) ⟨D, h5, .refl _⟩
 refine ⟨I, .refl _, h1, ht, C ++ L3, ⟨C, L3, Z, h4, h6⟩, hS.perm (List.Perm.append_right F ?_)⟩
 refine (h7.append_left C).trans ?_
 rw [← qc]
 exact (((hpA.trans h3).append_right B).symm).trans hp.symm
theorem GStep.bagIn (hP : Pick O i o O1) (hX : ((i, o) :: X).Perm X') (hO : Put O1 m (bag X) (bag X') O') : GStep E env O env O' := fun I F ρ w h1 ⟨ht, L, hL, hS⟩ => by
 obtain ⟨A, B, hp, hA, hB⟩ := hP.rep hL
 obtain ⟨A2, B2, hp2, ⟨L', h3, h4⟩, hback⟩ := hO.rep hB
 obtain ⟨L4, h5, h6⟩ := (show RepOs I ((i, o) :: X) (A ++ L') from ⟨A, L', rfl, hA, h3⟩).perm hX
 obtain ⟨L5, h7, h8⟩ := hback (G.le.refl I) (A' := A ++ A2) ⟨L4, h5, (h4.append_left A).trans h6⟩
 refine ⟨I, .refl _, h1, ht, L5, h7, hS.perm (List.Perm.append_right F ?_)⟩
 refine h8.trans ?_
 rw [qc]
 exact ((hp2.append_left A).symm).trans hp.symm
end
section
variable {E : World} {env : AEnv} {O O1 O' : OL} {m i k : Nat} {T : TypeId} {cs cs' : List AV} {X : OL}
end
theorem RepL.cut {I : G} {xs ys : List AV} {vs : List Value} (h : RepL I (xs ++ ys) vs) : ∃ a b, vs = a ++ b ∧ RepL I xs a ∧ RepL I ys b := by
 have e1 := h.take xs.length
 have e2 := h.drop xs.length
 rw [List.take_left] at e1
 rw [List.drop_left] at e2
 exact ⟨_, _, (List.take_append_drop _ _).symm, e1, e2⟩
end Go.Proofs.YtpojdepccecpgaaGreatDoor
namespace Go.Proofs.YtpojdepccecpgaaGreatDoor
open Go.Proofs.Tryz
open Go.Proofs Go.Lib Go.Shelf Go.RowKit
set_option maxRecDepth 20000
variable {E : World}
theorem zip_push {α β γ : Type} (g : α → β → γ) {xs : List α} {ys : List β} {k : Nat} (a : α) (h : xs.length = k) (hk : k < ys.length) : List.zipWith g (xs ++ [a]) (ys.take (k + 1)) = List.zipWith g xs (ys.take k) ++ [g a ys[k]] := by
 rw [qb hk, List.zipWith_append (by rw [ql]; omega)]; rfl
end Go.Proofs.YtpojdepccecpgaaGreatDoor
