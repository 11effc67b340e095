/- strings.Builder: what is written is put behind what was; a line. No conditions but bounds. -/
import Derived.Test.YtpojdepccecpgaaGreatDoorZo
import Derived.Test.YtpojdepccecpgaaGreatDoorZk
import Derived.Test.YtpojdepccecpgaaGreatDoorZh
import Derived.Test.YtpojdepccecpgaaGreatDoorZi
import Derived.Test.YtpojdepccecpgaaGreatDoorZd
import Derived.Shelf.Strings.Builder1
set_option linter.unusedVariables false
set_option linter.unusedSimpArgs false
set_option linter.unusedSectionVars false
namespace Go.Proofs.YtpojdepccecpgaaGreatDoor
open Go.Proofs.Tryz
open Go.Proofs Go.Lib Go.Shelf Go.RowKit
theorem pl66 : Places prog 66 #[(0, 1), (1, 1), (2, 2)] [.int .i64 0, .int .i64 0, .int .i64 0, .int .i64 0] := ⟨_, _, j7, zeroValue66, fun w => by kernel_rfl, rfl⟩
variable {E : World}
set_option maxRecDepth 20000
def GoodS (f : PFunc) (S : List Int) : Prop := S.Nodup ∧ ∀ v ∈ S, v ∈ vsL f
theorem GoodS.see {f : PFunc} {S : List Int} (h : GoodS f S) {v : Int} (hv : v ∈ vsL f) : GoodS f (see1 S v) := by
 have e : see1 S v = seeL S [v] := rfl
 rw [e]
 refine ⟨see_nodup h.1, fun u hu => ?_⟩
 rw [see_mem] at hu
 rcases hu with hu | hu
 ·exact h.2 u hu
 ·rw [List.mem_singleton.1 hu]; exact hv
theorem GoodS.len {f : PFunc} {S : List Int} (h : GoodS f S) : S.length ≤ (vsL f).length := List.Nodup.length_le_of_subset h.1 fun v hv => h.2 v hv
theorem see_snoc (S l : List Int) (v : Int) : see1 (seeL S l) v = seeL S (l ++ [v]) := by rw [see_app]; rfl
theorem at_in (l : List Int) (v : Int) (hl : l.length ≤ 1000000) (h : v ∈ l) : AFun prog E 34 [.fro 1 (l.map encI), .int .i64 v] (.int .i64 (posI l v)) := by
 have := at18_spec (E := E) l v hl
 unfold atI at this
 rw [if_pos h] at this
 exact this
set_option maxHeartbeats 16000000 in
theorem canon18_spec (f : PFunc) (hf : small f) (ht : typedB f = true) (hJ : JoinP f) : AFun prog E 12 [.agg (encF f)] (.agg (encF (canD f))) := by
 obtain ⟨hf1, hf2, hf3, hf4, hf5⟩ := id hf
 have hE := typedE ht
 have hS := typedS ht
 have hnd : (ord f).Nodup := order_nodup hE.grph.toEOk
 have hrg : ∀ {x : Int}, x ∈ ord f → 0 ≤ x ∧ x < f.blocks.length := fun hx => order_rng hE.grph.toEOk hx
 have hol : (ord f).length ≤ f.blocks.length := order_len hE.grph
 have hvl := vs_len ht hJ
 have hvr : ∀ v, v ∈ vsL f → 0 ≤ v ∧ v < f.vars.length := fun v h => by
  have := vs_has ht hJ v h
  unfold hasV at this
  simp only [qn, qp] at this
  exact this
 have hor := order10_spec (E := E) f hE (by omega)
 have hpn : seeL [] f.params = f.params := by rw [see_new (par_nodup hS) (by simp), List.nil_append]
 refine zl func12 Z (by decide) Z<|zSr<|y4 (cs := _) Z Z Z<|zo (cs := [.raw (.slice none 0 0), .raw (.slice none 0 0), .raw (.slice none 0 0)]) Z6 Z Z<|fun i2 => z6<|zSr<|zVGvloadWF jk jg Z Z<|ze (hor) Z<|z7 (zAf Z)<|z6<|zSr<|z7 (zAr Z)<|z6<|adopt_wp (t := 4) (k := 1) (T := 3) Z<|fun i4 => zSr<|z7 (zMo Z)<|zVzFF j6 Z jc Z Z<|zVzLf jm Z<|zu (k := 1) j4 Zu Z Z Z Z Z (fun _ => .head) Z (by decide) (by rw [← cI_fl]; exact cI_cell _) (by rw [qg]; show (0 + _) * 8 ≤ _; omega) (by rw [qg]; omega)<|fun i40 => z7 (zAo Z)<|z6<|zb<|zSr<|zVzMf Z<|zVGvlenM j4 Z<|zVzMi Z<|z6<|zd<|zt (γ := Nat × Nat × List Int) [1, 2, 3, 41, 42] (fun g => [(43, .int .i64 g.1), (4, .own g.2.1 g.2.2.length)]) (fun g => [(g.2.1, .grow 1 3 (cI g.2.2)), (i2, .cells 26 [.raw (.slice none 0 0), .raw (.slice none 0 0), .raw (.slice none 0 0)])]) (fun g => g.1 ≤ (ord f).length ∧ g.2.2 = seeL [] (f.params ++ ((canB f).take g.1).flatMap blkVars) ∧ GoodS f g.2.2) (fun g => (ord f).length - g.1) (0, i40, f.params) ⟨Z, (congrArg (AV.own i40) (by show 0 + _ = _; rw [qg, Nat.zero_add])), trivial⟩ ⟨_, (.refl _), by rw [cI_fl]; rfl⟩ (⟨qc _, by simp [hpn], par_nodup hS, fun v h => vs_par h⟩) ?_
 rintro ⟨k, i, S⟩ ⟨hk, hSe, hG⟩
 try dsimp only at *
 refine zSr<|zVGvlss Z Z<|z6<|zb<|zn Z (fun ck=>?_) (fun ck=>?_)
 ·have hk2 : k < (ord f).length := by omega
  obtain ⟨x, hx⟩ : ∃ x, (ord f)[k] = x := ⟨_, rfl⟩
  have hgx : (ord f)[k]? = some x := by rw [q9 hk2, hx]
  have hxm : x ∈ ord f := hx ▸ qd hk2
  have hxr := hrg hxm
  obtain ⟨b, hb⟩ : ∃ b, f.blocks[x.toNat]'(by omega) = b := ⟨_, rfl⟩
  have hgb : f.blocks[x.toNat]? = some b := by rw [q9 (by omega), hb]
  have hbk : blkX f x = b := by unfold blkX; rw [hgb]; rfl
  obtain ⟨hb0, hb1, hb2, hb3, hb4⟩ := hf5 b (hb ▸ qd (by omega))
  have hcv : ∀ v ∈ blkVars (turnB (ord f) k b), v ∈ vsL f := fun v hv => by
   unfold vsL
   rw [see_mem]
   exact .inr (List.mem_append_right _ (List.mem_flatMap.2 ⟨_, qi (canB_get hgx), by rw [hbk]; exact hv⟩))
  have hnext : seeL S (blkVars (turnB (ord f) k b)) = seeL [] (f.params ++ ((canB f).take (k + 1)).flatMap blkVars) := by
   rw [hSe, ← see_app, List.take_add_one, canB_get hgx, hbk, List.flatMap_append, qb]; simp
  have hphv : ∀ p ∈ b.phis, ∀ v ∈ phiVars (phD (ord f) p), v ∈ vsL f := fun p hp v hv => hcv v (List.mem_append_left _ (List.mem_flatMap.2 ⟨_, List.mem_map_of_mem hp, hv⟩))
  refine zf<|zb<|zd<|zSr<|z7 (zIM k j4 j8 Z Z Z hgx)<|zVzLi jh Z<|zVzAi Z<|z6<|zSr<|zVzFF j6 Z jo Z Z<|zVzLf jw Z<|zVzMi Z<|z7 (zIM x.toNat je jj Z Z (by omega) hgb)<|zVGvloadWF Zc jj Z Z<|zo (cs := [.str ⟨#[]⟩, .raw (.slice none 0 0), .raw (.slice none 0 0), .int .i64 0, .int .i64 0, .int .i64 0, .int .i64 0]) jz Z Z<|fun i7 => zm jj Z Z Z Z Z Z .head Z<|yh (y8 (t := 7) Z .head)<|z6<|zb<|zSr<|zVzFF j5 Z Z2 Z Z<|zVzLf Zd Z<|zVGvlenM jl Z<|zVzMi Z<|z6<|zd<|zt (γ := Nat × Nat × List Int) [1, 2, 3, 7, 41, 42, 43, 53, 54] (fun g => [(55, .int .i64 g.1), (4, .own g.2.1 g.2.2.length)]) (fun g => [(g.2.1, .grow 1 3 (cI g.2.2)), (i2, .cells 26 [.raw (.slice none 0 0), .raw (.slice none 0 0), .raw (.slice none 0 0)])]) (fun g => g.1 ≤ b.phis.length ∧ g.2.2 = seeL S ((b.phis.take g.1).flatMap fun p => phiVars (phD (ord f) p)) ∧ GoodS f g.2.2) (fun g => b.phis.length - g.1) (0, i, S) zR2 zLe (⟨qc _, Z, hG⟩) ?_
  rintro ⟨m, i, T⟩ ⟨hm, hTe, hGT⟩
  try dsimp only at *
  refine zSr<|zVGvlss Z Z<|z6<|zb<|zn Z (fun cm=>?_) (fun cm=>?_)
  ·have hm2 : m < b.phis.length := by omega
   obtain ⟨p, hp⟩ : ∃ p, b.phis[m] = p := ⟨_, rfl⟩
   have hgp : b.phis[m]? = some p := by rw [q9 hm2, hp]
   have hpm : p ∈ b.phis := hp ▸ qd hm2
   have hpm2 : p ∈ (blkX f x).phis := by rw [hbk]; exact hpm
   have hps := phi_shape hS hxr.1 hxr.2 hpm2
   have hpl := hb3 p hpm
   have hpv := hphv p hpm
   have hnx : seeL T (phiVars (phD (ord f) p)) = seeL S ((b.phis.take (m + 1)).flatMap fun p => phiVars (phD (ord f) p)) := by
    rw [hTe, ← see_app, List.take_add_one, hgp, List.flatMap_append]; simp
   have hTl := hGT.len
   have hGd : GoodS f (see1 T p.dst) := hGT.see (hpv _ (.head _))
   refine zf<|zb<|zd<|zSr<|z7 (zIM m jl jp Z Z Z hgp)<|zVGvloadWF Zf jp Z Z<|zo (cs := [.int .i64 0, .raw (.slice none 0 0), .raw (.slice none 0 0)]) Z4 Z Z<|fun i9 => zm jp Z Z Z Z Z Z .head Z<|yh (y8 (t := 9) Z .head)<|z6<|zSr<|z7 (zMo Z)<|zVzFF jd Z j8 Z Z<|zVzLi jh Z<|yl Z (zy (.l (.r (.rest _)))) (with_own T p.dst i T.length Z (by omega)) ?_
   rintro r62 O62 ⟨i, rfl, rfl, _⟩
   refine z7 (zAo Z)<|z6<|zSr<|zVzMf Z<|zVGvlenM j4 Z<|zVzMi Z<|z6<|zd<|zt (γ := Nat × Nat × List Int) [1, 2, 3, 7, 9, 41, 42, 43, 53, 54, 55, 63, 64] (fun g => [(65, .int .i64 g.1), (4, .own g.2.1 g.2.2.length)]) (fun g => [(g.2.1, .grow 1 3 (cI g.2.2)), (i2, .cells 26 [.raw (.slice none 0 0), .raw (.slice none 0 0), .raw (.slice none 0 0)])]) (fun g => g.1 ≤ (ord f).length ∧ g.2.2 = seeL (see1 T p.dst) ((phPT (ord f) p g.1).map (·.2)) ∧ GoodS f g.2.2) (fun g => (ord f).length - g.1) (0, i, see1 T p.dst) zR2 zLe (⟨qc _, Z, hGd⟩) ?_
   rintro ⟨j, i, U⟩ ⟨hj, hUe, hGU⟩
   try dsimp only at *
   refine zSr<|zVGvlss Z Z<|z6<|zb<|zn Z (fun cj=>?_) (fun cj=>?_)
   ·have hj2 : j < (ord f).length := by omega
    obtain ⟨y, hy⟩ : ∃ y, (ord f)[j] = y := ⟨_, rfl⟩
    have hgy : (ord f)[j]? = some y := by rw [q9 hj2, hy]
    have hUl := hGU.len
    refine zf<|zb<|zd<|zSr<|z7 (zIM j j4 j8 Z Z Z hgy)<|zVzLi jh Z<|zVzAi Z<|z6<|zSr<|zVzFF jd Z jc Z Z<|zVzLf jm Z<|zVzMi Z<|ze (at18_spec p.from_ y (by omega)) Z<|zVzAi Z<|z6<|zSr<|zVzMi Z<|z7 (yz Z Z)<|z6<|zn Z (fun ca=>?_) (fun ca=>?_)
    ·have hin : y ∈ p.from_ := Classical.byContradiction fun h => by have := (at_neg p.from_ y).2 h; omega
     obtain ⟨a, ha, hla⟩ := look_in hps.2.1.symm hin
     have hpt := phPT_some hgy hla
     have hat : atI p.from_ y = ((posI p.from_ y).toNat : Int) := by unfold atI posI; rw [if_pos hin]; rfl
     have hav : a ∈ vsL f := hpv a (.tail _ (List.mem_map.2 ⟨((j : Int), a), mem_pairs.2 ⟨j, y, hgy, rfl, hla⟩, rfl⟩))
     refine zRg<|z7 (zMo Z)<|zVzFF jd Z jc Z Z<|zVzLf jm Z<|zVzMi Z<|z7 (yi (j := (posI p.from_ y).toNat) j4 j8 Z Z hat ha)<|zVzLi jh Z<|yl Z (zy (.l (.r (.rest _)))) (with_own U a i U.length Z (by omega)) ?_
     rintro r81 O81 ⟨i, rfl, rfl, _⟩
     refine z7 (zAo Z)<|z6<|zRg<|zVzAd Z Z<|zVzMi Z<|z6 ?_
     exact ⟨(j + 1, i, see1 U a), ⟨rfl, rfl, rfl, rfl, rfl, rfl, rfl, rfl, rfl, rfl, rfl, rfl, rfl, trivial⟩, zR2, zLe, ⟨hj2, by dsimp only; rw [hpt, qj, hUe]; exact see_snoc _ _ _, hGU.see hav⟩, by dsimp only; omega⟩
    ·have hout : y ∉ p.from_ := (at_neg p.from_ y).1 (by omega)
     refine zf<|zRg<|zVzAd Z Z<|zVzMi Z<|z6 ?_
     exact ⟨(j + 1, i, U), ⟨rfl, rfl, rfl, rfl, rfl, rfl, rfl, rfl, rfl, rfl, rfl, rfl, rfl, trivial⟩, zR2, zLe, ⟨hj2, by dsimp only; rw [phPT_none hgy (look_out hps.2.1.symm hout)]; exact hUe, hGU⟩, by dsimp only; omega⟩
   ·obtain rfl : j = (ord f).length := by omega
    have hUe : U = seeL T (phiVars (phD (ord f) p)) := hUe
    refine zr<|zRg<|zVzAd Z Z<|zVzMi Z<|z6 ?_
    exact ⟨(m + 1, i, U), zR9, zR2, zLe, ⟨hm2, by dsimp only; rw [← hnx]; exact hUe, hGU⟩, by dsimp only; omega⟩
  ·obtain rfl : m = b.phis.length := by omega
   rw [qe] at hTe
   have hiv : ∀ x ∈ b.insts, ∀ v ∈ instVars x, v ∈ vsL f := fun z hz v hv => hcv v (List.mem_append_right _ (List.mem_append_left _ (List.mem_flatMap.2 ⟨z, hz, hv⟩)))
   refine zr<|zb<|zSr<|zVzFF j5 Z Z3 Z Z<|zVzLf Zh Z<|zVGvlenM jr Z<|zVzMi Z<|z6<|zd<|zt (γ := Nat × Nat × List Int) [1, 2, 3, 7, 41, 42, 43, 85, 86] (fun g => [(87, .int .i64 g.1), (4, .own g.2.1 g.2.2.length)]) (fun g => [(g.2.1, .grow 1 3 (cI g.2.2)), (i2, .cells 26 [.raw (.slice none 0 0), .raw (.slice none 0 0), .raw (.slice none 0 0)])]) (fun g => g.1 ≤ b.insts.length ∧ g.2.2 = seeL T ((b.insts.take g.1).flatMap instVars) ∧ GoodS f g.2.2) (fun g => b.insts.length - g.1) (0, i, T) zR2 zLe (⟨qc _, Z, hGT⟩) ?_
   rintro ⟨m, i, W⟩ ⟨hm, hWe, hGW⟩
   try dsimp only at *
   refine zSr<|zVGvlss Z Z<|z6<|zb<|zn Z (fun cm=>?_) (fun cm=>?_)
   ·have hm2 : m < b.insts.length := by omega
    obtain ⟨z, hz⟩ : ∃ z, b.insts[m] = z := ⟨_, rfl⟩
    have hgz : b.insts[m]? = some z := by rw [q9 hm2, hz]
    have hzm : z ∈ b.insts := hz ▸ qd hm2
    have hzv := hiv z hzm
    have hzl := hb4 z hzm
    have hnx : seeL W (instVars z) = seeL T ((b.insts.take (m + 1)).flatMap instVars) := by
     rw [hWe, ← see_app, List.take_add_one, hgz, List.flatMap_append]; simp
    refine zf<|zb<|zd<|zSr<|z7 (zIM m jr jt Z Z Z hgz)<|zVGvloadWF Zk jt Z Z<|zo (cs := [.int .i64 0, .int .i64 0, .raw (.slice none 0 0), .int .i64 0]) Zb Z Z<|fun i14 => zm jt Z Z Z Z Z Z .head Z<|yh (y8 (t := 14) Z .head)<|z6<|zb<|zSr<|zVzFF j9 Z jc Z Z<|zVzLf jm Z<|zVGvlenM j4 Z<|zVzMi Z<|z6<|zd<|zt (γ := Nat × Nat × List Int) [1, 2, 3, 7, 14, 41, 42, 43, 85, 86, 87, 92, 93] (fun g => [(94, .int .i64 g.1), (4, .own g.2.1 g.2.2.length)]) (fun g => [(g.2.1, .grow 1 3 (cI g.2.2)), (i2, .cells 26 [.raw (.slice none 0 0), .raw (.slice none 0 0), .raw (.slice none 0 0)])]) (fun g => g.1 ≤ z.args.length ∧ g.2.2 = seeL W (z.args.take g.1) ∧ GoodS f g.2.2) (fun g => z.args.length - g.1) (0, i, W) zR2 zLe (⟨qc _, Z, hGW⟩) ?_
    rintro ⟨j, i, U⟩ ⟨hj, hUe, hGU⟩
    try dsimp only at *
    refine zSr<|zVGvlss Z Z<|z6<|zb<|zn Z (fun cj=>?_) (fun cj=>?_)
    ·have hj2 : j < z.args.length := by omega
     obtain ⟨a, ha⟩ : ∃ a, z.args[j] = a := ⟨_, rfl⟩
     have hga : z.args[j]? = some a := by rw [q9 hj2, ha]
     have hUl := hGU.len
     refine zf<|zb<|zd<|zSr<|z7 (zIM j j4 j8 Z Z Z hga)<|zVzLi jh Z<|zVzAi Z<|z6<|zRg<|z7 (zMo Z)<|zVzMi Z<|yl Z (zy (.l (.r (.rest _)))) (with_own U a i U.length Z (by omega)) ?_
     rintro r100 O100 ⟨i, rfl, rfl, _⟩
     refine z7 (zAo Z)<|z6<|zRg<|zVzAd Z Z<|zVzMi Z<|z6 ?_
     exact ⟨(j + 1, i, see1 U a), ⟨rfl, rfl, rfl, rfl, rfl, rfl, rfl, rfl, rfl, rfl, rfl, rfl, rfl, trivial⟩, zR2, zLe, ⟨hj2, by dsimp only; rw [List.take_add_one, hga, hUe]; exact see_snoc _ _ _, hGU.see (hzv a (List.mem_append_left _ (ha ▸ qd hj2)))⟩, by dsimp only; omega⟩
    ·obtain rfl : j = z.args.length := by omega
     rw [qe] at hUe
     have hUl := hGU.len
     refine zr<|zSr<|zVzFF j9 Z j8 Z Z<|zVzLi jh Z<|z7 (yz Z Z)<|z6<|zn Z (fun cd=>?_) (fun cd=>?_)
     ·have hd : 0 ≤ z.dst := by first | exact cd | omega
      have hiz : instVars z = z.args ++ [z.dst] := by unfold instVars; rw [if_pos hd]
      refine zRg<|z7 (zMo Z)<|zVzFF j9 Z j8 Z Z<|zVzLi jh Z<|yl Z (zy (.l (.r (.rest _)))) (with_own U z.dst i U.length Z (by omega)) ?_
      rintro r108 O108 ⟨i, rfl, rfl, _⟩
      refine z7 (zAo Z)<|z6<|zRg<|zVzAd Z Z<|zVzMi Z<|z6 ?_
      exact ⟨(m + 1, i, see1 U z.dst), zR9, zR2, zLe, ⟨hm2, by dsimp only; rw [← hnx, hiz, hUe]; exact see_snoc _ _ _, hGU.see (hzv _ (by rw [hiz]; simp))⟩, by dsimp only; omega⟩
     ·have hd : ¬ 0 ≤ z.dst := by first | exact cd | omega
      have hiz : instVars z = z.args := by unfold instVars; rw [if_neg hd, List.append_nil]
      refine zf<|zRg<|zVzAd Z Z<|zVzMi Z<|z6 ?_
      exact ⟨(m + 1, i, U), zR9, zR2, zLe, ⟨hm2, by dsimp only; rw [← hnx, hiz]; exact hUe, hGU⟩, by dsimp only; omega⟩
   ·obtain rfl : m = b.insts.length := by omega
    rw [qe] at hWe
    have hWl := hGW.len
    have hbv : seeL W (termVars b.term) = seeL S (blkVars (turnB (ord f) k b)) := by
     unfold blkVars
     rw [see_app, see_app]
     have e1 : (turnB (ord f) k b).phis.flatMap phiVars = b.phis.flatMap fun p => phiVars (phD (ord f) p) := by
      show (b.phis.map (phD (ord f))).flatMap phiVars = _
      rw [List.flatMap_map]
     have e2 : termVars (turnB (ord f) k b).term = termVars b.term := by
      show termVars (trmM id (posI (ord f)) b.term) = _
      unfold termVars trmM
      by_cases h0 : b.term.kind = 0
      ·simp [h0]
      ·rw [if_neg h0, if_neg h0]
       by_cases h1 : b.term.kind = 1
       ·rw [if_pos h1]; dsimp only; rw [if_neg h0]; rfl
       ·rw [if_neg h1]; dsimp only; rw [if_neg h0]; rfl
     rw [e1, e2, ← hTe]
     show _ = seeL (seeL T (b.insts.flatMap instVars)) _
     rw [← hWe]
    refine zr<|zSr<|zVzFF j5 Z jq Z Z<|zVzFF j7 Z Za Z Z<|zVzLi Ze Z<|zVGvneqI Z Z<|z6<|zz Z (fun ct=>?_) (fun ct=>?_)
    ·have hk0 : ¬ b.term.kind = 0 := by first | exact ct | simpa using ct
     have htv : termVars b.term = [b.term.var] := by unfold termVars; rw [if_neg hk0]
     rw [htv] at hbv
     have htm : b.term.var ∈ vsL f := by
      have : b.term.var ∈ seeL W [b.term.var] := by rw [see_mem]; exact .inr (.head _)
      rw [hbv, see_mem] at this
      exact this.elim (fun h => hG.2 _ h) (hcv _)
     refine zRg<|z7 (zMo Z)<|zVzFF j5 Z jq Z Z<|zVzFF j7 Z j8 Z Z<|zVzLi jh Z<|yl Z (zy (.l (.r (.rest _)))) (with_own W b.term.var i W.length Z (by omega)) ?_
     rintro r118 O118 ⟨i, rfl, rfl, _⟩
     refine z7 (zAo Z)<|z6<|zRg<|zVzAd Z Z<|zVzMi Z<|z6 ?_
     exact ⟨(k + 1, i, see1 W b.term.var), zR5, zR2, zLe, ⟨hk2, by dsimp only; rw [← hnext, ← hbv]; rfl, hGW.see htm⟩, by dsimp only; omega⟩
    ·have hk0 : b.term.kind = 0 := by first | exact ct | simpa using ct
     have htv : termVars b.term = [] := by unfold termVars; rw [if_pos hk0]
     rw [htv] at hbv
     refine zf<|zRg<|zVzAd Z Z<|zVzMi Z<|z6 ?_
     exact ⟨(k + 1, i, W), zR5, zR2, zLe, ⟨hk2, by dsimp only; rw [← hnext, ← hbv]; rfl, hGW⟩, by dsimp only; omega⟩
 ·obtain rfl : k = (ord f).length := by omega
  have hSv : S = vsL f := by rw [hSe, List.take_of_length_le (by rw [canB_len]; exact Nat.le_refl _)]; rfl
  subst hSv
  refine zr<|y2 (GStep.knowI (t := 4) Z .head Z)<|zSr<|AOps.buildSlice0 (k := 1) j4 Zu<|fun i120 => zVzFF j6 Z jc Z Z<|zVzLf jm Z<|zu (k := 1) j4 Zu Z Z Z Z Z (fun _ => .head) Z (by decide) (by rw [← cI_fl]; exact cI_cell _) (by rw [qg]; show (0 + _) * 8 ≤ _; omega) (by rw [qg]; omega)<|fun i123 => z7 (y6 (cps := [(1, [_])]) (rs := [.raw (.slice none 0 0), _, .raw (.slice none 0 0)]) pl26 Z Z Z)<|zo (cs := [.raw (.slice none 0 0), .raw (.slice none 0 0), .raw (.slice none 0 0)]) Z6 Z Z<|fun i17 => zm jg Z Z Z Z Z Z .head Z<|z6<|y2 (yn (off := 1) (rows := f.params.map encI) .t1 .head Z (by simp [encI, encVar, encPhi, encInst, encBlk]) (by decide) (by simp))<|zb<|zSr<|zVzMf Z<|zVGvlenM j4 Z<|zVzMi Z<|z6<|adoptC_wp (off := 0) (k := 2) (T := 58) (fun _ => .head) Z<|fun iv => y2 (y7 (yd .t1))<|zd<|zt (γ := Nat × Nat) [1, 2, 3, 4, 17, 125, 126] (fun q => [(127, .int .i64 q.1)]) (fun q => [(i17, .cells 26 [.own q.2 q.1, .fro 1 (f.params.map encI), .raw (.slice none 0 0)]), (q.2, .grow 2 58 ((valsV f q.1).map encVar).flatten), (i2, .cells 26 [.raw (.slice none 0 0), .raw (.slice none 0 0), .raw (.slice none 0 0)])]) (fun q => q.1 ≤ (vsL f).length) (fun q => (vsL f).length - q.1) (0, iv) zR1 zLe (qc _) ?_
  rintro ⟨k, iv⟩ hk
  try dsimp only at *
  refine zSr<|zVGvlss Z Z<|z6<|zb<|zn Z (fun ck=>?_) (fun ck=>?_)
  ·have hk2 : k < (vsL f).length := by omega
   obtain ⟨v, hv⟩ : ∃ v, (vsL f)[k] = v := ⟨_, rfl⟩
   have hgv : (vsL f)[k]? = some v := by rw [q9 hk2, hv]
   have hvv := hvr v (hv ▸ qd hk2)
   obtain ⟨x, hx⟩ : ∃ x, f.vars[v.toNat]'(by omega) = x := ⟨_, rfl⟩
   have hgx : f.vars[v.toNat]? = some x := by rw [q9 (by omega), hx]
   have hkv : kindV f v = x.ty := by unfold kindV; rw [hgx]; rfl
   have hvn : valsV f (k + 1) = valsV f k ++ [⟨nameK 118 k, x.ty⟩] := by
    unfold valsV
    rw [List.take_add_one, qh, List.getElem?_zipIdx, hgv, ← hkv]
    simp [canV]
   have hdl := decD_len k (by omega)
   have hsz : (⟨#[118]⟩ : ByteArray).size + (strL (decDigits k)).size ≤ 100 := by
    rw [strL_size]; show 1 + _ ≤ _; omega
   refine zf<|zb<|zd<|zSr<|zVzMi Z<|z7 (zIM k j4 j8 Z Z Z hgv)<|zVzLi jh Z<|zVzAi Z<|zVzAi Z<|z6<|zw (fun j => Nat.beq j 15) (by kernel_rfl) Z (zy (.r (.rest _)))<|zTk 0 Z (zc j6 Z Z1 (by decide) Z Z)<|zTk 1 Z (zi (c := .own _ _) Z7 Z ⟨_, .head⟩ Z)<|zTk 2 Z (zMi Z)<|zTk 5 Z (zFF j6 Z Z1 Z Z)<|zTk 6 Z (zLf Z7 Z)<|zTk 7 Z (zMi Z)<|zTk 8 Z (zIM v.toNat jn Z0 Z Z (by omega) hgx)<|zTk 9 Z (zFF jv Z Y6 Z Z)<|zTk 10 Z (zLi Yb Z)<|zOn 3 Z<|ze (digits18_spec k (by omega)) Z<|z6<|zTk 4 Z (yb Z Z (by omega))<|zTk 11 Z (y6 (cps := [(0, [_]), (1, [_])]) (rs := [_, _]) pl58 Z Z Z)<|zOn 12 Z<|zk (rows := [[_, _]]) ps22_1 Z Z Z Z Z<|z6<|zOn 13 Z<|zu (k := 2) jn type58 Z Z Z Z Z (fun _ => .head) (by rw [grow_len (k := 2) (fun _ => rfl)]; unfold valsV; rw [qk, qg, List.length_zipIdx]; omega) (by decide) Z (by show (_ + _) * 24 ≤ _; simp <;> omega) (by simp <;> omega)<|fun i145 => z6<|zTk 14 Z (zc j6 Z Z1 (by decide) Z Z)<|yc<|y9 (i := 15) Z (by kernel_rfl) (by kernel_rfl)<|y1 (l := [_]) (new := [_, _, _]) Z1 Z Z Z Z Z Z .head Z Z<|z6<|yg (by kernel_rfl)<|zRg<|zVzAd Z Z<|zVzMi Z ?_
   refine z6 ?_
   exact ⟨(k + 1, i145), zR7, zR1, ⟨_, (.refl _), by rw [hvn, qj, List.flatten_append, show nameK 118 k = ⟨#[118]⟩ ++ strL (decDigits k) from (strL_app [118] _).symm]; rfl⟩, hk2, by dsimp only; omega⟩
  ·obtain rfl : k = (vsL f).length := by omega
   have hvs : valsV f (vsL f).length = (canD f).vars := by
    unfold valsV
    rw [List.take_of_length_le (by rw [qg, List.length_zipIdx]; exact Nat.le_refl _)]; rfl
   rw [hvs]
   refine zr<|y2 (yn (off := 0) (rows := (canD f).vars.map encVar) .t1 .head Z (by intro r hr; obtain ⟨z, _, rfl⟩ := List.mem_map.1 hr; rfl) (by decide) (by rw [qg]; exact can_vlen))<|zb<|zSr<|zVzMf Z<|zVGvlenM j4 Z<|zVzMi Z<|z6<|adoptC_wp (off := 2) (k := 7) (T := 69) (fun _ => .head) Z<|fun ib => y2 (y7 (yd .t1))<|zd<|zt (γ := Nat × Nat) [1, 2, 3, 4, 17, 148, 149] (fun q => [(150, .int .i64 q.1)]) (fun q => [(i17, .cells 26 [.fro 2 ((canD f).vars.map encVar), .fro 1 (f.params.map encI), .own q.2 q.1]), (q.2, .grow 7 69 ((((canB f).take q.1).map (mapV (posI (vsL f)))).map encBlk).flatten), (i2, .cells 26 [.raw (.slice none 0 0), .raw (.slice none 0 0), .raw (.slice none 0 0)])]) (fun q => q.1 ≤ (ord f).length) (fun q => (ord f).length - q.1) (0, ib) zR1 zLe (qc _) ?_
   rintro ⟨k, ib⟩ hk
   try dsimp only at *
   refine zSr<|zVGvlss Z Z<|z6<|zb<|zn Z (fun ck=>?_) (fun ck=>?_)
   ·have hk2 : k < (ord f).length := by omega
    obtain ⟨x, hx⟩ : ∃ x, (ord f)[k] = x := ⟨_, rfl⟩
    have hgx : (ord f)[k]? = some x := by rw [q9 hk2, hx]
    have hxm : x ∈ ord f := hx ▸ qd hk2
    have hxr := hrg hxm
    obtain ⟨b, hb⟩ : ∃ b, f.blocks[x.toNat]'(by omega) = b := ⟨_, rfl⟩
    have hgb : f.blocks[x.toNat]? = some b := by rw [q9 (by omega), hb]
    have hbm : b ∈ f.blocks := hb ▸ qd (by omega)
    have hbk : blkX f x = b := by unfold blkX; rw [hgb]; rfl
    obtain ⟨hb0, hb1, hb2, hb3, hb4⟩ := hf5 b hbm
    obtain ⟨hP1, hP2, hP3⟩ := hS.2.2.2.2.2 b hbm
    have hcv : ∀ v ∈ blkVars (turnB (ord f) k b), v ∈ vsL f := fun v hv => by
     unfold vsL
     rw [see_mem]
     exact .inr (List.mem_append_right _ (List.mem_flatMap.2 ⟨_, qi (canB_get hgx), by rw [hbk]; exact hv⟩))
    have hphv : ∀ p ∈ b.phis, ∀ v ∈ phiVars (phD (ord f) p), v ∈ vsL f := fun p hp v hv => hcv v (List.mem_append_left _ (List.mem_flatMap.2 ⟨_, List.mem_map_of_mem hp, hv⟩))
    have hcl7 : (((((canB f).take k).map (mapV (posI (vsL f)))).map encBlk).flatten).length = k * 7 := by rw [grow_len (k := 7) (fun _ => rfl), qg, qk, canB_len]; omega
    refine zf<|zb<|zd<|zSr<|zVzMi Z<|z7 (zIM k j4 j8 Z Z Z hgx)<|zVzLi jh Z<|zVzAi Z<|zVzAi Z<|z6<|zSr<|zVzFF j6 Z jo Z Z<|zVzLf jw Z<|zVzMi Z<|z7 (zIM x.toNat je jj Z Z (by omega) hgb)<|zVGvloadWF Zc jj Z Z<|zo (cs := [.str ⟨#[]⟩, .raw (.slice none 0 0), .raw (.slice none 0 0), .int .i64 0, .int .i64 0, .int .i64 0, .int .i64 0]) jz Z Z<|fun i22 => zm jj Z Z Z Z Z Z .head Z<|yh (y8 (t := 22) Z .head)<|z6<|zb<|yp (γ := Nat) [1, 2, 3, 4, 17, 22, 148, 149, 150] (fun i => [(23, .po i 0)]) (fun i => [(i, .cells 69 [.str (nameK 98 k), .raw (.slice none 0 0), .raw (.slice none 0 0), .int .i64 b.term.kind, .int .i64 0, .int .i64 0, .int .i64 0]), (i17, .cells 26 [.fro 2 ((canD f).vars.map encVar), .fro 1 (f.params.map encI), .own ib k]), (ib, .grow 7 69 ((((canB f).take k).map (mapV (posI (vsL f)))).map encBlk).flatten), (i2, .cells 26 [.raw (.slice none 0 0), .raw (.slice none 0 0), .raw (.slice none 0 0)])]) (fun i => True) ?_ (fun _ _ h => h) ?_
    ·have hdl := decD_len k (by omega)
     have hsz : (⟨#[98]⟩ : ByteArray).size + (strL (decDigits k)).size ≤ 100 := by
      rw [strL_size]; show 1 + _ ≤ _; omega
     refine zw (fun j => Nat.beq j 9) (by kernel_rfl) Z (zy (.rest _))<|zTk 0 Z (zMi Z)<|zTk 3 Z (zFF j5 Z jq Z Z)<|zTk 4 Z (zFF j7 Z Za Z Z)<|zTk 5 Z (zLi Ze Z)<|zTk 6 Z (y6 (cps := [(0, [_])]) (rs := [_, .int .i64 0, .int .i64 0, .int .i64 0]) pl66 Z Z Z)<|q8 (i := 1) (j := 8) Z Z (by kernel_rfl) ?_ ?_
     ·refine ze (digits18_spec k (by omega)) Z<|z6<|zTk 2 Z (yb Z Z (by omega))<|zTk 7 Z (y6 (cps := [(0, [_]), (3, [_, _, _, _])]) (rs := [_, .raw (.slice none 0 0), .raw (.slice none 0 0), _, _, _, _]) pl69 Z Z Z)<|zOn 8 Z<|zo (cs := [.str ⟨#[]⟩, .raw (.slice none 0 0), .raw (.slice none 0 0), .int .i64 0, .int .i64 0, .int .i64 0, .int .i64 0]) jz Z Z<|fun i23 => z6<|yc<|y9 (i := 9) Z (by kernel_rfl) (by kernel_rfl)<|zm jj Z Z Z Z Z Z .head Z<|z6<|yg (by kernel_rfl) ?_
      exact ⟨i23, zR9, zR1, ⟨_, (.refl _), by rw [show nameK 98 k = ⟨#[98]⟩ ++ strL (decDigits k) from (strL_app [98] _).symm]; rfl⟩, trivial⟩
     ·refine zo (cs := [.str ⟨#[]⟩, .raw (.slice none 0 0), .raw (.slice none 0 0), .int .i64 0, .int .i64 0, .int .i64 0, .int .i64 0]) jz Z Z<|fun i23 => z6<|zOn 1 Z<|ze (digits18_spec k (by omega)) Z<|z6<|zTk 2 Z (yb Z Z (by omega))<|zTk 7 Z (y6 (cps := [(0, [_]), (3, [_, _, _, _])]) (rs := [_, .raw (.slice none 0 0), .raw (.slice none 0 0), _, _, _, _]) pl69 Z Z Z)<|yc<|y9 (i := 9) Z (by kernel_rfl) (by kernel_rfl)<|zm jj Z Z Z Z Z Z .head Z<|z6<|yg (by kernel_rfl) ?_
      exact ⟨i23, zR9, zR1, ⟨_, (.refl _), by rw [show nameK 98 k = ⟨#[98]⟩ ++ strL (decDigits k) from (strL_app [98] _).symm]; rfl⟩, trivial⟩
    ·rintro i23 _
     refine zb<|zSr<|zVzFF j5 Z Z2 Z Z<|zVzLf Zd Z<|zVGvlenM jl Z<|zVzMi Z<|z6<|adoptC_wp (off := 1) (k := 3) (T := 71) (fun _ => .head) Z<|fun ip => y2 (y7 (yd .t1))<|zd<|zt (γ := Nat × Nat) [1, 2, 3, 4, 17, 22, 23, 148, 149, 150, 169, 170] (fun q => [(171, .int .i64 q.1)]) (fun q => [(i23, .cells 69 [.str (nameK 98 k), .own q.2 q.1, .raw (.slice none 0 0), .int .i64 b.term.kind, .int .i64 0, .int .i64 0, .int .i64 0]), (q.2, .grow 3 71 ((((b.phis.take q.1).map (phD (ord f))).map (phM (posI (vsL f)))).map encPhi).flatten), (i17, .cells 26 [.fro 2 ((canD f).vars.map encVar), .fro 1 (f.params.map encI), .own ib k]), (ib, .grow 7 69 ((((canB f).take k).map (mapV (posI (vsL f)))).map encBlk).flatten), (i2, .cells 26 [.raw (.slice none 0 0), .raw (.slice none 0 0), .raw (.slice none 0 0)])]) (fun q => q.1 ≤ b.phis.length) (fun q => b.phis.length - q.1) (0, ip) zR1 zLe (qc _) ?_
     rintro ⟨m, ip⟩ hm
     try dsimp only at *
     refine zSr<|zVGvlss Z Z<|z6<|zb<|zn Z (fun cm=>?_) (fun cm=>?_)
     ·have hm2 : m < b.phis.length := by omega
      obtain ⟨p, hp⟩ : ∃ p, b.phis[m] = p := ⟨_, rfl⟩
      have hgp : b.phis[m]? = some p := by rw [q9 hm2, hp]
      have hpm : p ∈ b.phis := hp ▸ qd hm2
      have hps := hP1 p hpm
      have hpl := hb3 p hpm
      have hpv := hphv p hpm
      have hpml : (((((b.phis.take m).map (phD (ord f))).map (phM (posI (vsL f)))).map encPhi).flatten).length = m * 3 := by rw [grow_len (k := 3) (fun _ => rfl), qg, qg, qk, Nat.min_eq_left hm]
      have hppl : ∀ j, j ≤ (ord f).length → (phPT (ord f) p j).length ≤ 1000 := fun j hj => by
       unfold phPT
       refine Nat.le_trans (List.length_filterMap_le _ _) ?_
       rw [List.length_range]; omega
      refine zf<|zb<|zd<|zSr<|z7 (zIM m jl jp Z Z Z hgp)<|zVGvloadWF Zf jp Z Z<|zo (cs := [.int .i64 0, .raw (.slice none 0 0), .raw (.slice none 0 0)]) Z4 Z Z<|fun i25 => zm jp Z Z Z Z Z Z .head Z<|yh (y8 (t := 25) Z .head)<|z6<|zSr<|zVzMf Z<|zVzFF jd Z j8 Z Z<|zVzLi jh Z<|ze (at_in (vsL f) p.dst (by omega) (hpv _ (.head _))) Z<|z7 (y6 (cps := [(0, [_])]) (rs := [_, .raw (.slice none 0 0), .raw (.slice none 0 0)]) pl71 Z Z Z)<|zo (cs := [.int .i64 0, .raw (.slice none 0 0), .raw (.slice none 0 0)]) Z4 Z Z<|fun i26 => zm jp Z Z Z Z Z Z .head Z<|z6<|zb<|zSr<|zVzMf Z<|zVGvlenM j4 Z<|zVzMi Z<|z6<|adoptC_wp (off := 1) (k := 1) (T := 3) (fun _ => .head) Z<|fun ja => adoptC_wp (off := 2) (k := 1) (T := 3) (fun _ => .t1) Z<|fun jb => y2 (y7 (yd .t1))<|y2 (y7 (yd .t2))<|zd<|zt (γ := Nat × Nat × Nat) [1, 2, 3, 4, 17, 22, 23, 25, 26, 148, 149, 150, 169, 170, 171, 180, 181] (fun q => [(182, .int .i64 q.1)]) (fun q => [(i26, .cells 71 [.int .i64 (posI (vsL f) p.dst), .own q.2.1 (phPT (ord f) p q.1).length, .own q.2.2 (phPT (ord f) p q.1).length]), (q.2.1, .grow 1 3 (cI ((phPT (ord f) p q.1).map fun z => posI (vsL f) z.2))), (q.2.2, .grow 1 3 (cI ((phPT (ord f) p q.1).map (·.1)))), (i23, .cells 69 [.str (nameK 98 k), .own ip m, .raw (.slice none 0 0), .int .i64 b.term.kind, .int .i64 0, .int .i64 0, .int .i64 0]), (ip, .grow 3 71 ((((b.phis.take m).map (phD (ord f))).map (phM (posI (vsL f)))).map encPhi).flatten), (i17, .cells 26 [.fro 2 ((canD f).vars.map encVar), .fro 1 (f.params.map encI), .own ib k]), (ib, .grow 7 69 ((((canB f).take k).map (mapV (posI (vsL f)))).map encBlk).flatten), (i2, .cells 26 [.raw (.slice none 0 0), .raw (.slice none 0 0), .raw (.slice none 0 0)])]) (fun q => q.1 ≤ (ord f).length) (fun q => (ord f).length - q.1) (0, ja, jb) zR1 zLe (qc _) ?_
      rintro ⟨j, ja, jb⟩ hj
      try dsimp only at *
      refine zSr<|zVGvlss Z Z<|z6<|zb<|zn Z (fun cj=>?_) (fun cj=>?_)
      ·have hj2 : j < (ord f).length := by omega
       obtain ⟨y, hy⟩ : ∃ y, (ord f)[j] = y := ⟨_, rfl⟩
       have hgy : (ord f)[j]? = some y := by rw [q9 hj2, hy]
       have hjl := hppl j hj
       refine zf<|zb<|zd<|zSr<|zVzMi Z<|z7 (zIM j j4 j8 Z Z Z hgy)<|zVzLi jh Z<|zVzAi Z<|zVzAi Z<|z6<|zSr<|zVzFF jd Z jc Z Z<|zVzLf jm Z<|zVzMi Z<|ze (at18_spec p.from_ y (by omega)) Z<|zVzAi Z<|z6<|zSr<|zVzMi Z<|z7 (yz Z Z)<|z6<|zn Z (fun ca=>?_) (fun ca=>?_)
       ·have hin : y ∈ p.from_ := Classical.byContradiction fun h => by have := (at_neg p.from_ y).2 h; omega
        obtain ⟨a, ha, hla⟩ := look_in hps.2.1.symm hin
        have hpt := phPT_some hgy hla
        have hat : atI p.from_ y = ((posI p.from_ y).toNat : Int) := by unfold atI posI; rw [if_pos hin]; rfl
        have hav : a ∈ vsL f := hpv a (.tail _ (List.mem_map.2 ⟨((j : Int), a), mem_pairs.2 ⟨j, y, hgy, rfl, hla⟩, rfl⟩))
        have e1 : cI ((phPT (ord f) p j).map fun z => posI (vsL f) z.2) ++ [AV.int .i64 (posI (vsL f) a)] = cI ((phPT (ord f) p (j + 1)).map fun z => posI (vsL f) z.2) := by rw [hpt, qj, ← cI_app]; rfl
        have e2 : cI ((phPT (ord f) p j).map (·.1)) ++ [AV.int .i64 (j : Int)] = cI ((phPT (ord f) p (j + 1)).map (·.1)) := by rw [hpt, qj, ← cI_app]; rfl
        have e3 : (phPT (ord f) p (j + 1)).length = (phPT (ord f) p j).length + 1 := by rw [hpt, qf]; rfl
        refine zSr<|z7 (zc jd Z jc (by decide) Z Z)<|z7 (zi (c := .own _ _) jm Z ⟨_, .head⟩ Z)<|zVzMi Z<|zk (rows := [[_]]) ps23_1 Z Z Z Z Z<|zu (k := 1) j4 Zu Z Z Z Z Z (fun _ => .t2) (by rw [cI_len, qg]; omega) (by decide) Z (by show (_ + _) * 8 ≤ _; simp <;> omega) (by simp <;> omega)<|fun i197 => z7 (zc jd Z jc (by decide) Z Z)<|y1 (l := [_]) (new := [_, _, _]) jc Z Z Z Z Z Z .head Z Z<|z6<|zw (fun j => Nat.beq j 12) (by kernel_rfl) Z (zy (.r (.rest _)))<|zTk 0 Z (zc jd Z jc (by decide) Z Z)<|zTk 1 Z (zi (c := .own _ _) jm Z ⟨_, .head⟩ Z)<|zTk 2 Z (zMf Z)<|zTk 3 Z (zFF jd Z jc Z Z)<|zTk 4 Z (zLf jm Z)<|zTk 5 Z (zMi Z)<|zTk 6 Z (yi (j := (posI p.from_ y).toNat) j4 j8 Z Z hat ha)<|zTk 7 Z (zLi jh Z)<|zOn 8 Z<|ze (at_in (vsL f) a (by omega) hav) Z<|z6<|zOn 9 Z<|zk (rows := [[_]]) ps23_1 Z Z Z Z Z<|z6<|zOn 10 Z<|zu (k := 1) j4 Zu Z Z Z Z Z (fun _ => .head) (by rw [cI_len, qg]; omega) (by decide) Z (by show (_ + 1) * 8 ≤ _; omega) (by show _ + 1 ≤ _; omega)<|fun i209 => z6<|zTk 11 Z (zc jd Z jc (by decide) Z Z)<|yc<|y9 (i := 12) Z (by kernel_rfl) (by kernel_rfl)<|y1 (l := [_]) (new := [_, _, _]) jc Z Z Z Z Z Z .head Z Z<|z6<|yg (by kernel_rfl)<|zRg<|zVzAd Z Z<|zVzMi Z<|z6 ?_
        exact ⟨(j + 1, i209, i197), ⟨rfl, rfl, rfl, rfl, rfl, rfl, rfl, rfl, rfl, rfl, rfl, rfl, rfl, rfl, rfl, rfl, rfl, trivial⟩, zR1, ⟨_, (.refl _), by rw [← e1, ← e2, e3]; rfl⟩, hj2, by dsimp only; omega⟩
       ·have hout : y ∉ p.from_ := (at_neg p.from_ y).1 (by omega)
        refine zf<|zRg<|zVzAd Z Z<|zVzMi Z<|z6 ?_
        exact ⟨(j + 1, ja, jb), ⟨rfl, rfl, rfl, rfl, rfl, rfl, rfl, rfl, rfl, rfl, rfl, rfl, rfl, rfl, rfl, rfl, rfl, trivial⟩, zR1, ⟨_, (.refl _), by rw [phPT_none hgy (look_out hps.2.1.symm hout)]⟩, hj2, by dsimp only; omega⟩
      ·obtain rfl : j = (ord f).length := by omega
       have hmm : ((phPT (ord f) p (ord f).length).map fun z => posI (vsL f) z.2) = ((phPairs (ord f) p).map (·.2)).map (posI (vsL f)) := by rw [phPT_full, List.map_map]; rfl
       rw [hmm, phPT_full, cI_fl, cI_fl]
       refine zr<|y2 (yn (off := 1) (rows := (((phPairs (ord f) p).map (·.2)).map (posI (vsL f))).map encI) .t1 .head Z (by intro r hr; obtain ⟨z, _, rfl⟩ := List.mem_map.1 hr; rfl) (by decide) (by simp))<|y2 (yn (off := 2) (rows := ((phPairs (ord f) p).map (·.1)).map encI) .t1 .head Z (by intro r hr; obtain ⟨z, _, rfl⟩ := List.mem_map.1 hr; rfl) (by decide) (by simp))<|zRg<|z7 (zc j5 Z Z2 (by decide) Z Z)<|z7 (zi (c := .own _ _) Zd Z ⟨_, .t1⟩ Z)<|z7 (yk Zf jp Z ⟨_, .head⟩ Z)<|zk (rows := [[_, _, _]]) ps67_1 Z Z Z Z Z<|zu (k := 3) jl type71 Z Z Z Z Z (fun _ => .t2) hpml (by decide) Z (by show (_ + _) * 56 ≤ _; simp <;> omega) (by simp <;> omega)<|fun i216 => z7 (zc j5 Z Z2 (by decide) Z Z)<|y1 (l := [_]) (new := [_, _, _, _, _, _, _]) Z2 Z Z Z Z Z Z .t1 Z Z<|z6<|zRg<|zVzAd Z Z<|zVzMi Z<|z6 ?_
       exact ⟨(m + 1, i216), zR12, zR1, ⟨_, (.drop (.refl _)), by rw [List.take_add_one, hgp, qj, qj, qj, List.flatten_append]; rfl⟩, hm2, by dsimp only; omega⟩
     ·obtain rfl : m = b.phis.length := by omega
      rw [qe]
      refine zr<|y2 (yn (off := 1) (rows := ((b.phis.map (phD (ord f))).map (phM (posI (vsL f)))).map encPhi) .t1 .head Z (by intro r hr; obtain ⟨z, _, rfl⟩ := List.mem_map.1 hr; rfl) (by decide) (by simp))<|zb<|zSr<|zVzFF j5 Z Z3 Z Z<|zVzLf Zh Z<|zVGvlenM jr Z<|zVzMi Z<|z6<|adoptC_wp (off := 2) (k := 4) (T := 61) (fun _ => .head) Z<|fun ii => y2 (y7 (yd .t1))<|zd<|zt (γ := Nat × Nat) [1, 2, 3, 4, 17, 22, 23, 148, 149, 150, 220, 221] (fun q => [(222, .int .i64 q.1)]) (fun q => [(i23, .cells 69 [.str (nameK 98 k), .fro 3 (((b.phis.map (phD (ord f))).map (phM (posI (vsL f)))).map encPhi), .own q.2 q.1, .int .i64 b.term.kind, .int .i64 0, .int .i64 0, .int .i64 0]), (q.2, .grow 4 61 (((b.insts.take q.1).map (insM (posI (vsL f)))).map encInst).flatten), (i17, .cells 26 [.fro 2 ((canD f).vars.map encVar), .fro 1 (f.params.map encI), .own ib k]), (ib, .grow 7 69 ((((canB f).take k).map (mapV (posI (vsL f)))).map encBlk).flatten), (i2, .cells 26 [.raw (.slice none 0 0), .raw (.slice none 0 0), .raw (.slice none 0 0)])]) (fun q => q.1 ≤ b.insts.length) (fun q => b.insts.length - q.1) (0, ii) zR1 zLe (qc _) ?_
      rintro ⟨m, ii⟩ hm
      try dsimp only at *
      refine zSr<|zVGvlss Z Z<|z6<|zb<|zn Z (fun cm=>?_) (fun cm=>?_)
      ·have hm2 : m < b.insts.length := by omega
       obtain ⟨z, hz⟩ : ∃ z, b.insts[m] = z := ⟨_, rfl⟩
       have hgz : b.insts[m]? = some z := by rw [q9 hm2, hz]
       have hzm : z ∈ b.insts := hz ▸ qd hm2
       have hzl := hb4 z hzm
       have hzP := hP2 z hzm
       have hzv : ∀ v ∈ instVars z, v ∈ vsL f := fun v h => hcv v (List.mem_append_right _ (List.mem_append_left _ (List.mem_flatMap.2 ⟨z, hzm, h⟩)))
       have hinl : ((((b.insts.take m).map (insM (posI (vsL f)))).map encInst).flatten).length = m * 4 := by rw [grow_len (k := 4) (fun _ => rfl), qg, qk, Nat.min_eq_left hm]
       have hpush : ∀ y : PInst, insM (posI (vsL f)) z = y → (((b.insts.take m).map (insM (posI (vsL f)))).map encInst).flatten ++ encInst y = (((b.insts.take (m + 1)).map (insM (posI (vsL f)))).map encInst).flatten := fun y h => by
        rw [List.take_add_one, hgz, qj, qj, List.flatten_append, ← h]
        simp
       refine zf<|zb<|zd<|zSr<|z7 (zIM m jr jt Z Z Z hgz)<|zVGvloadWF Zk jt Z Z<|zo (cs := [.int .i64 0, .int .i64 0, .raw (.slice none 0 0), .int .i64 0]) Zb Z Z<|fun i31 => zm jt Z Z Z Z Z Z .head Z<|yh (y8 (t := 31) Z .head)<|z6<|zSr<|zVzFF j9 Z Zl Z Z<|zVzLi Zr Z<|zVzFF j9 Z Y4 Z Z<|zVzLi Yc Z<|z7 (y6 (cps := [(0, [_]), (1, [_]), (3, [_])]) (rs := [_, _, .raw (.slice none 0 0), _]) pl61 Z Z Z)<|zo (cs := [.int .i64 0, .int .i64 0, .raw (.slice none 0 0), .int .i64 0]) Zb Z Z<|fun i32 => zm jt Z Z Z Z Z Z .head Z<|z6<|zb<|zSr<|zVzFF j9 Z jc Z Z<|zVzLf jm Z<|zVGvlenM j4 Z<|zVzMi Z<|z6<|adoptC_wp (off := 2) (k := 1) (T := 3) (fun _ => .head) Z<|fun ja => y2 (y7 (yd .t1))<|zd<|zt (γ := Nat × Nat) [1, 2, 3, 4, 17, 22, 23, 31, 32, 148, 149, 150, 220, 221, 222, 232, 233] (fun q => [(234, .int .i64 q.1)]) (fun q => [(i32, .cells 61 [.int .i64 z.op, .int .i64 (-1), .own q.2 q.1, .int .i64 z.num]), (q.2, .grow 1 3 (cI ((z.args.take q.1).map (posI (vsL f))))), (i23, .cells 69 [.str (nameK 98 k), .fro 3 (((b.phis.map (phD (ord f))).map (phM (posI (vsL f)))).map encPhi), .own ii m, .int .i64 b.term.kind, .int .i64 0, .int .i64 0, .int .i64 0]), (ii, .grow 4 61 (((b.insts.take m).map (insM (posI (vsL f)))).map encInst).flatten), (i17, .cells 26 [.fro 2 ((canD f).vars.map encVar), .fro 1 (f.params.map encI), .own ib k]), (ib, .grow 7 69 ((((canB f).take k).map (mapV (posI (vsL f)))).map encBlk).flatten), (i2, .cells 26 [.raw (.slice none 0 0), .raw (.slice none 0 0), .raw (.slice none 0 0)])]) (fun q => q.1 ≤ z.args.length) (fun q => z.args.length - q.1) (0, ja) zR1 zLe (qc _) ?_
       rintro ⟨j, ja⟩ hj
       try dsimp only at *
       refine zSr<|zVGvlss Z Z<|z6<|zb<|zn Z (fun cj=>?_) (fun cj=>?_)
       ·have hj2 : j < z.args.length := by omega
        obtain ⟨a, ha⟩ : ∃ a, z.args[j] = a := ⟨_, rfl⟩
        have hga : z.args[j]? = some a := by rw [q9 hj2, ha]
        have hav : a ∈ vsL f := hzv a (List.mem_append_left _ (ha ▸ qd hj2))
        refine zf<|zb<|zd<|zSr<|z7 (zIM j j4 j8 Z Z Z hga)<|zVzLi jh Z<|zVzAi Z<|z6<|zw (fun j => Nat.beq j 8) (by kernel_rfl) Z (zy (.r (.rest _)))<|zTk 0 Z (zc j9 Z jc (by decide) Z Z)<|zTk 1 Z (zi (c := .own _ _) jm Z ⟨_, .head⟩ Z)<|zTk 2 Z (zMf Z)<|zTk 3 Z (zMi Z)<|zOn 4 Z<|ze (at_in (vsL f) a (by omega) hav) Z<|z6<|zOn 5 Z<|zk (rows := [[_]]) ps23_1 Z Z Z Z Z<|z6<|zOn 6 Z<|zu (k := 1) j4 Zu Z Z Z Z Z (fun _ => .head) (by rw [cI_len, qg, qk]; omega) (by decide) Z (by show (_ + _) * 8 ≤ _; simp <;> omega) (by simp <;> omega)<|fun i244 => z6<|zTk 7 Z (zc j9 Z jc (by decide) Z Z)<|yc<|y9 (i := 8) Z (by kernel_rfl) (by kernel_rfl)<|y1 (l := [_]) (new := [_, _, _, _]) jc Z Z Z Z Z Z .head Z Z<|z6<|yg (by kernel_rfl)<|zRg<|zVzAd Z Z<|zVzMi Z<|z6 ?_
        exact ⟨(j + 1, i244), ⟨rfl, rfl, rfl, rfl, rfl, rfl, rfl, rfl, rfl, rfl, rfl, rfl, rfl, rfl, rfl, rfl, rfl, trivial⟩, zR1, ⟨_, (.refl _), by rw [List.take_add_one, hga, qj, ← cI_app]; rfl⟩, hj2, by dsimp only; omega⟩
       ·obtain rfl : j = z.args.length := by omega
        rw [qe, cI_fl]
        refine zr<|y2 (yn (off := 2) (rows := (z.args.map (posI (vsL f))).map encI) .t1 .head Z (by intro r hr; obtain ⟨z, _, rfl⟩ := List.mem_map.1 hr; rfl) (by decide) (by simp))<|zb<|zSr<|zVzFF j9 Z j8 Z Z<|zVzLi jh Z<|z7 (yz Z Z)<|z6<|zn Z (fun cd=>?_) (fun cd=>?_)
        ·have hd : 0 ≤ z.dst := by first | exact cd | omega
         have hzd : z.dst ∈ vsL f := hzv _ (List.mem_append_right _ (by rw [if_pos hd]; exact .head _))
         refine zRg<|zVzMf Z<|zVzFF j9 Z j8 Z Z<|zVzLi jh Z<|ze (at_in (vsL f) z.dst (by omega) hzd) Z<|z7 (zc j9 Z j8 (by decide) Z Z)<|y1 (l := [_]) (new := [_, _, _, _]) j8 Z Z Z Z Z Z .head Z Z<|z6<|zRg<|z7 (zc j5 Z Z3 (by decide) Z Z)<|z7 (zi (c := .own _ _) Zh Z ⟨_, .t1⟩ Z)<|z7 (yk Zk jt Z ⟨_, .head⟩ Z)<|zk (rows := [[_, _, _, _]]) ps62_1 Z Z Z Z Z<|zu (k := 4) jr type61 Z Z Z Z Z (fun _ => .t2) hinl (by decide) Z (by show (_ + _) * 48 ≤ _; simp <;> omega) (by simp <;> omega)<|fun i259 => z7 (zc j5 Z Z3 (by decide) Z Z)<|y1 (l := [_]) (new := [_, _, _, _, _, _, _]) Z3 Z Z Z Z Z Z .t1 Z Z<|z6<|zRg<|zVzAd Z Z<|zVzMi Z<|z6 ?_
         exact ⟨(m + 1, i259), zR12, zR1, ⟨_, (.drop (.refl _)), by rw [← hpush ⟨z.op, posI (vsL f) z.dst, z.args.map (posI (vsL f)), z.num⟩ (by unfold insM; rw [if_pos hd])]; rfl⟩, hm2, by dsimp only; omega⟩
        ·have hd : ¬ 0 ≤ z.dst := by first | exact cd | omega
         have hd1 : z.dst = -1 := by
          have := hzP.2.2.1
          unfold bad2 at this
          simp only [Bool.or_eq_false_iff] at this
          have := this.2.2.1
          by_cases e : z.dst = -1
          ·exact e
          ·rw [qm e] at this
           simp only [Bool.not_false, Bool.true_and, Bool.not_eq_false'] at this
           unfold hasV at this
           simp only [qn, qp] at this
           exact absurd this.1 hd
         refine zf<|zRg<|z7 (zc j5 Z Z3 (by decide) Z Z)<|z7 (zi (c := .own _ _) Zh Z ⟨_, .t1⟩ Z)<|z7 (yk Zk jt Z ⟨_, .head⟩ Z)<|zk (rows := [[_, _, _, _]]) ps62_1 Z Z Z Z Z<|zu (k := 4) jr type61 Z Z Z Z Z (fun _ => .t2) hinl (by decide) Z (by show (_ + _) * 48 ≤ _; simp <;> omega) (by simp <;> omega)<|fun i259 => z7 (zc j5 Z Z3 (by decide) Z Z)<|y1 (l := [_]) (new := [_, _, _, _, _, _, _]) Z3 Z Z Z Z Z Z .t1 Z Z<|z6<|zRg<|zVzAd Z Z<|zVzMi Z<|z6 ?_
         exact ⟨(m + 1, i259), zR12, zR1, ⟨_, (.drop (.refl _)), by rw [← hpush ⟨z.op, -1, z.args.map (posI (vsL f)), z.num⟩ (by unfold insM; rw [if_neg hd, hd1])]; rfl⟩, hm2, by dsimp only; omega⟩
      ·obtain rfl : m = b.insts.length := by omega
       rw [qe]
       have htk := hP3
       unfold termOK at htk
       have hpush : ∀ t : PTerm, t = trmM (posI (vsL f)) id (trmM id (posI (ord f)) b.term) → ((((canB f).take k).map (mapV (posI (vsL f)))).map encBlk).flatten ++ [AV.str (nameK 98 k), .fro 3 (((b.phis.map (phD (ord f))).map (phM (posI (vsL f)))).map encPhi), .fro 4 ((b.insts.map (insM (posI (vsL f)))).map encInst), .int .i64 t.kind, .int .i64 t.var, .int .i64 t.to0, .int .i64 t.to1] = ((((canB f).take (k + 1)).map (mapV (posI (vsL f)))).map encBlk).flatten := fun t h => by
        rw [List.take_add_one, canB_get hgx, qj, qj, List.flatten_append, hbk]
        congr 1
        show _ = ([encBlk (mapV (posI (vsL f)) (turnB (ord f) k b))] : List (List AV)).flatten
        unfold mapV turnB
        rw [← h]; rfl
       have hto : ∀ c ∈ endsL b.term, c ∈ ord f := fun c hc => ord_rch hE hxm (by rw [ends_at hxr.1 hxr.2, hbk]; exact hc)
       have htv : ¬ b.term.kind = 0 → b.term.var ∈ vsL f := fun h => hcv _ (List.mem_append_right _ (List.mem_append_right _ (by
        show b.term.var ∈ termVars (trmM id (posI (ord f)) b.term)
        unfold termVars trmM
        rw [if_neg h]
        by_cases h1 : b.term.kind = 1
        ·rw [if_pos h1]; dsimp only; rw [if_neg h]; exact .head _
        ·rw [if_neg h1]; dsimp only; rw [if_neg h]; exact .head _)))
       refine zr<|y2 (yn (off := 2) (rows := (b.insts.map (insM (posI (vsL f)))).map encInst) .t1 .head Z (by intro r hr; obtain ⟨z, _, rfl⟩ := List.mem_map.1 hr; rfl) (by decide) (by simp))<|zb<|zSr<|zVzFF j5 Z jq Z Z<|zVzFF j7 Z Za Z Z<|zVzLi Ze Z<|z6<|zd<|zSr<|zVGveqlI Z Z<|zVzAb Z<|z6<|zz Z (fun c0=>?_) (fun c0=>?_)
       ·have h0 : b.term.kind = 0 := by simpa using c0
        rw [if_pos h0] at htk
        simp only [qn, qp] at htk
        refine zRg<|zVzMf Z<|zVzFF j5 Z jq Z Z<|zVzFF j7 Z js Z Z<|z7 (yj (j := 0) ji j8 Z Z Z (by decide) Z)<|zVzLi jh Z<|ze (at_in (ord f) b.term.to0 (by omega) (hto _ (by unfold endsL; rw [if_pos h0]; exact .head _))) Z<|z7 (zc j5 Z jq (by decide) Z Z)<|z7 (zc j7 Z js (by decide) Z Z)<|z7 (q7 (j := 0) ji j8 Z Z Z (by decide) Z)<|y1 (l := [_]) (new := [_, _, _, _, _, _, _]) j8 Z Z Z Z Z Z .head Z Z<|z6<|zRg<|z7 (zc j6 Z jo (by decide) Z Z)<|z7 (zi (c := .own _ _) jw Z ⟨_, .t1⟩ Z)<|z7 (yk Zc jj Z ⟨_, .head⟩ Z)<|zk (rows := [[_, _, _, _, _, _, _]]) ps24_1 Z Z Z Z Z<|zu (k := 7) je Ye Z Z Z Z Z (fun _ => .t2) hcl7 (by decide) Z (by show (_ + _) * 96 ≤ _; simp <;> omega) (by simp <;> omega)<|fun i311 => z7 (zc j6 Z jo (by decide) Z Z)<|y1 (l := [_]) (new := [_, _, _]) jo Z Z Z Z Z Z .t1 Z Z<|z6<|zRg<|zVzAd Z Z<|zVzMi Z<|z6 ?_
        exact ⟨(k + 1, i311), zR7, zR1, ⟨_, (.drop (.refl _)), by rw [← hpush ⟨b.term.kind, 0, posI (ord f) b.term.to0, 0⟩ (by rw [trm_two]; unfold trmM; rw [if_pos h0, htk.1.2, htk.2])]; rfl⟩, hk2, by dsimp only; omega⟩
       ·have h0 : ¬ b.term.kind = 0 := by simpa using c0
        rw [if_neg h0] at htk
        refine zSr<|zVGveqlI Z Z<|zVzAb Z<|z6<|zz Z (fun c1=>?_) (fun c1=>?_)
        ·have h1 : b.term.kind = 1 := by simpa using c1
         rw [if_pos h1] at htk
         refine zSr<|zVzMf Z<|zVzFF j5 Z jq Z Z<|zVzFF j7 Z j8 Z Z<|zVzLi jh Z<|ze (at_in (vsL f) b.term.var (by omega) (htv h0)) Z<|z7 (zc j5 Z jq (by decide) Z Z)<|z7 (zc j7 Z j8 (by decide) Z Z)<|y1 (l := [_]) (new := [_, _, _, _, _, _, _]) j8 Z Z Z Z Z Z .head Z Z<|z6<|zw (fun j => Nat.beq j 15) (by kernel_rfl) Z (zy (.rest _))<|zTk 0 Z (zMf Z)<|zTk 1 Z (zFF j5 Z jq Z Z)<|zTk 2 Z (zFF j7 Z js Z Z)<|zTk 3 Z (yj (j := 0) ji j8 Z Z Z (by decide) Z)<|zTk 4 Z (zLi jh Z)<|zTk 6 Z (zMf Z)<|zTk 7 Z (zFF j5 Z jq Z Z)<|zTk 8 Z (zFF j7 Z js Z Z)<|zTk 9 Z (yj (j := 1) ji j8 Z Z Z (by decide) Z)<|zTk 10 Z (zLi jh Z)<|zOn 5 Z<|ze (at_in (ord f) b.term.to0 (by omega) (hto _ (by unfold endsL; rw [if_neg h0, if_pos h1]; split <;> simp))) Z<|z6<|zOn 11 Z<|ze (at_in (ord f) b.term.to1 (by omega) (hto _ (by unfold endsL; rw [if_neg h0, if_pos h1]; split <;> simp [*]))) Z<|z6<|zTk 12 Z (Gv.buildA (cps := [(0, [_]), (1, [_])]) (rs := [_, _]) pl64 Z Z Z)<|AAny.takeK (i := 13) Z (by kernel_rfl) (by kernel_rfl) (by kernel_rfl) (by kernel_rfl) (zc j5 Z jq (by decide) Z Z)<|zTk 14 Z (zc j7 Z js (by decide) Z Z)<|yc<|y9 (i := 15) Z (by kernel_rfl) (by kernel_rfl)<|y1 (l := [_, _]) (new := [_, _, _, _, _, _, _]) js Z Z Z Z Z Z .head Z Z<|z6<|yg (by kernel_rfl)<|zRg<|z7 (zc j6 Z jo (by decide) Z Z)<|z7 (zi (c := .own _ _) jw Z ⟨_, .t1⟩ Z)<|z7 (yk Zc jj Z ⟨_, .head⟩ Z)<|zk (rows := [[_, _, _, _, _, _, _]]) ps24_1 Z Z Z Z Z<|zu (k := 7) je Ye Z Z Z Z Z (fun _ => .t2) hcl7 (by decide) Z (by show (_ + _) * 96 ≤ _; simp <;> omega) (by simp <;> omega) ?_
         intro i311
         refine z7 (zc j6 Z jo (by decide) Z Z)<|y1 (l := [_]) (new := [_, _, _]) jo Z Z Z Z Z Z .t1 Z Z<|z6<|zRg<|zVzAd Z Z<|zVzMi Z<|z6 ?_
         exact ⟨(k + 1, i311), zR7, zR1, ⟨_, (.drop (.refl _)), by rw [← hpush ⟨b.term.kind, posI (vsL f) b.term.var, posI (ord f) b.term.to0, posI (ord f) b.term.to1⟩ (by rw [trm_two]; unfold trmM; rw [if_neg h0, if_pos h1])]; rfl⟩, hk2, by dsimp only; omega⟩
        ·have h1 : ¬ b.term.kind = 1 := by simpa using c1
         rw [if_neg h1] at htk
         have h2 : b.term.kind = 2 := Classical.byContradiction fun h => by rw [if_neg h] at htk; cases htk
         rw [if_pos h2] at htk
         simp only [qn, qp] at htk
         refine zRg<|zVzMf Z<|zVzFF j5 Z jq Z Z<|zVzFF j7 Z j8 Z Z<|zVzLi jh Z<|ze (at_in (vsL f) b.term.var (by omega) (htv h0)) Z<|z7 (zc j5 Z jq (by decide) Z Z)<|z7 (zc j7 Z j8 (by decide) Z Z)<|y1 (l := [_]) (new := [_, _, _, _, _, _, _]) j8 Z Z Z Z Z Z .head Z Z<|z6<|zRg<|z7 (zc j6 Z jo (by decide) Z Z)<|z7 (zi (c := .own _ _) jw Z ⟨_, .t1⟩ Z)<|z7 (yk Zc jj Z ⟨_, .head⟩ Z)<|zk (rows := [[_, _, _, _, _, _, _]]) ps24_1 Z Z Z Z Z<|zu (k := 7) je Ye Z Z Z Z Z (fun _ => .t2) hcl7 (by decide) Z (by show (_ + _) * 96 ≤ _; simp <;> omega) (by simp <;> omega)<|fun i311 => z7 (zc j6 Z jo (by decide) Z Z)<|y1 (l := [_]) (new := [_, _, _]) jo Z Z Z Z Z Z .t1 Z Z<|z6<|zRg<|zVzAd Z Z<|zVzMi Z<|z6 ?_
         exact ⟨(k + 1, i311), zR7, zR1, ⟨_, (.drop (.refl _)), by rw [← hpush ⟨b.term.kind, posI (vsL f) b.term.var, 0, 0⟩ (by rw [trm_two]; unfold trmM; rw [if_neg h0, if_neg h1, htk.2.1, htk.2.2])]; rfl⟩, hk2, by dsimp only; omega⟩
   ·obtain rfl : k = (ord f).length := by omega
    rw [List.take_of_length_le (by rw [canB_len]; exact Nat.le_refl _)]
    refine zr<|y2 (yn (off := 2) (rows := (canD f).blocks.map encBlk) .t1 .head Z (by intro r hr; obtain ⟨z, _, rfl⟩ := List.mem_map.1 hr; rfl) (by decide) (by rw [qg, can_len]))<|zSr<|z7 (yk jk jg Z ⟨_, .head⟩ Z)<|zm jg Z Z Z Z Z Z .t1 Z<|z6<|zh<|afin.c1 Z ⟨_, .t1⟩ jk jg Z ?_
    rfl
end Go.Proofs.YtpojdepccecpgaaGreatDoor
namespace Go.Proofs.YtpojdepccecpgaaGreatDoor
open Go.Proofs.Tryz
open Go.Proofs Go.Lib Go.Shelf Go.RowKit
set_option maxRecDepth 20000
def nl : ByteArray := ⟨#[10]⟩
def colon : ByteArray := ⟨#[58]⟩
theorem takesL_len (op : Int) : (takesL op).length ≤ 3 := by
 rcases kRow_mem op with h | h
 ·unfold takesL; rw [h]; decide
 ·have : ∀ r ∈ kindT, r.2.1.data.toList.length ≤ 3 := by decide
  have := this _ h
  unfold takesL; simpa using this
def eqS : ByteArray := ⟨#[61]⟩
def phiS : ByteArray := ⟨#[112, 104, 105]⟩
def jumpS : ByteArray := ⟨#[106, 117, 109, 112]⟩
def ifS : ByteArray := ⟨#[105, 102]⟩
def retS : ByteArray := ⟨#[114, 101, 116]⟩
def blockS : ByteArray := ⟨#[98, 108, 111, 99, 107]⟩
def varS : ByteArray := ⟨#[118, 97, 114]⟩
def funcS : ByteArray := ⟨#[102, 117, 110, 99]⟩
def lineS (l : List ByteArray) : ByteArray := joinS l ⟨#[32]⟩
def unB : List (List ByteArray) → ByteArray
 | [] => ⟨#[]⟩
 | l :: ls => (lineS l ++ nl) ++ unB ls
def pairW (v : PVar) : ByteArray := (v.name ++ colon) ++ tyWord v.ty
structure FOk (f : PFunc) : Prop where
 vars : ∀ v ∈ f.vars, scanName v.name = true ∧ 0 ≤ v.ty ∧ v.ty ≤ 2
 blks : ∀ b ∈ f.blocks, scanName b.name = true ∧ BlkP f b
def inter : List ByteArray → List ByteArray → List ByteArray
 | a :: l, b :: m => a :: b :: inter l m
 | _, _ => []
def phiL (f : PFunc) (p : PPhi) : List ByteArray := vname f p.dst :: eqS :: phiS :: inter (p.from_.map (bname f)) (p.args.map (vname f))
def termL (f : PFunc) (t : PTerm) : List ByteArray :=
 if t.kind = 0 then [jumpS, bname f t.to0] else if t.kind = 1 then [ifS, vname f t.var, bname f t.to0, bname f t.to1] else [retS, vname f t.var]
def blkL (f : PFunc) (b : PBlock) : List (List ByteArray) := [blockS, b.name] :: (b.phis.map (phiL f) ++ (b.insts.map (wordsOf f) ++ [termL f b.term]))
def headL (f : PFunc) : List ByteArray := funcS :: (f.vars.take f.params.length).map pairW
def varL (v : PVar) : List ByteArray := [varS, pairW v]
def linesF (f : PFunc) : List (List ByteArray) := headL f :: ((f.vars.drop f.params.length).map varL ++ f.blocks.flatMap (blkL f))
def NumsOk (f : PFunc) : Prop := ∀ b ∈ f.blocks, ∀ x ∈ b.insts, -9223372036854775808 ≤ x.num ∧ x.num ≤ 9223372036854775807
def Unlike (ns : List ByteArray) : Prop := ∀ i (h : i < ns.length), ns[i] ∉ ns.take i
theorem shaped_ok {f : PFunc} (h : ShapedP f) : FOk f ∧ Unlike (f.vars.map PVar.name) ∧ Unlike (f.blocks.map PBlock.name) ∧ f.blocks ≠ [] := by
 obtain ⟨h1, h2, h3, h4, h5, h6⟩ := h
 refine ⟨⟨fun v hv => ?_, fun b hb => ?_⟩, fun i hi hm => ?_, fun i hi hm => ?_, fun e=>?_⟩
 ·obtain ⟨i, hi, rfl⟩ := List.getElem_of_mem hv
  obtain ⟨g1, g2, g3, _⟩ := h3 i hi
  exact ⟨by rw [← name_eq]; exact g1, g2, g3⟩
 ·obtain ⟨i, hi, rfl⟩ := List.getElem_of_mem hb
  exact ⟨by rw [← name_eq]; exact (h4 i hi).1, h6 _ hb⟩
 ·have hi2 : i < f.vars.length := by simpa using hi
  rw [List.getElem_map, ← List.map_take] at hm
  exact (h3 i hi2).2.2.2 _ hm rfl
 ·have hi2 : i < f.blocks.length := by simpa using hi
  rw [List.getElem_map, ← List.map_take] at hm
  exact (h4 i hi2).2 _ hm rfl
 ·unfold bad1 at h1; rw [e] at h1; simp at h1
def textF (f : PFunc) : ByteArray := unB (linesF f)
theorem lit_size (a : Array UInt8) : (⟨a⟩ : ByteArray).size = a.size := rfl
theorem unB_app : ∀ (ls : List (List ByteArray)) (l : List ByteArray), unB (ls ++ [l]) = unB ls ++ (lineS l ++ nl)
 | [], l => by show (lineS l ++ nl) ++ unB [] = unB [] ++ (lineS l ++ nl); show (lineS l ++ nl) ++ ByteArray.empty = ByteArray.empty ++ _; rw [ByteArray.append_empty, ByteArray.empty_append]
 | x :: ls, l => by rw [List.cons_append, unB, unB_app ls l, unB]; simp only [ByteArray.append_assoc]
theorem lineS_snoc (w : ByteArray) (ws : List ByteArray) (a : ByteArray) : lineS ((w :: ws) ++ [a]) = (lineS (w :: ws) ++ spc) ++ a := joinS_app w ws a
theorem lineS_one (w : ByteArray) : lineS [w] = w := joinS_one w
theorem lineS_two (a b : ByteArray) : lineS [a, b] = (a ++ spc) ++ b := by rw [show [a, b] = [a] ++ [b] from rfl, lineS_snoc, lineS_one]
theorem lineS_three (a b c : ByteArray) : lineS [a, b, c] = (((a ++ spc) ++ b) ++ spc) ++ c := by rw [show [a, b, c] = [a, b] ++ [c] from rfl, lineS_snoc, lineS_two]
theorem lineS_four (a b c d : ByteArray) : lineS [a, b, c, d] = (((((a ++ spc) ++ b) ++ spc) ++ c) ++ spc) ++ d := by rw [show [a, b, c, d] = [a, b, c] ++ [d] from rfl, lineS_snoc, lineS_three]
theorem ty_size {t : Int} (h : 0 ≤ t ∧ t ≤ 2) : (tyWord t).size ≤ 4 := by
 have : t = 0 ∨ t = 1 ∨ t = 2 := by omega
 rcases this with rfl | rfl | rfl <;> decide
structure TBlk (b : PBlock) : Prop where
 phis : b.phis.length ≤ 2100
 insts : b.insts.length ≤ 2100
 args : ∀ p ∈ b.phis, p.args.length ≤ 2100 ∧ p.from_.length ≤ 2100
structure TOk (f : PFunc) : Prop where
 vars : f.vars.length ≤ 1000
 blks : f.blocks.length ≤ 100
 vn : ∀ v ∈ f.vars, v.name.size ≤ 1000
 bn : ∀ b ∈ f.blocks, b.name.size ≤ 1000
 each : ∀ b ∈ f.blocks, TBlk b
theorem inst_line_eq {f : PFunc} {x : PInst} (h : InstP f x) : refLine f x = lineS (wordsOf f x) := by
 rw [← line_eq h]; unfold instLine; rw [if_pos ((instOK_iff f x).2 h)]; rfl
theorem inter_succ : ∀ {l m : List ByteArray} {k : Nat} {a b : ByteArray}, l[k]? = some a → m[k]? = some b → inter (l.take (k + 1)) (m.take (k + 1)) = inter (l.take k) (m.take k) ++ [a, b]
 | [], _, _, _, _, h, _ => by simp at h
 | _ :: _, [], _, _, _, _, h => by simp at h
 | x :: l, y :: m, 0, a, b, h1, h2 => by
  simp at h1 h2; subst h1 h2
  simp [inter]
 | x :: l, y :: m, k + 1, a, b, h1, h2 => by
  rw [List.take_succ_cons, List.take_succ_cons, List.take_succ_cons, List.take_succ_cons, inter, inter, inter_succ (by simpa using h1) (by simpa using h2)]; rfl
def phiLk (f : PFunc) (p : PPhi) (k : Nat) : List ByteArray := vname f p.dst :: eqS :: phiS :: inter ((p.from_.map (bname f)).take k) ((p.args.map (vname f)).take k)
def headLk (f : PFunc) (k : Nat) : List ByteArray := funcS :: (f.vars.take k).map pairW
theorem vname_sz {f : PFunc} (hT : TOk f) {v : Int} (h : hasV f v = true) : (vname f v).size ≤ 1000 := by
 obtain ⟨h1, _, _, h2⟩ := has_get h
 rw [h2]; exact hT.vn _ (qd h1)
theorem bname_sz {f : PFunc} (hT : TOk f) {v : Int} (h : hasB f v = true) : (bname f v).size ≤ 1000 := by
 obtain ⟨h1, _, _, h2⟩ := hasB_get h
 rw [h2]; exact hT.bn _ (qd h1)
theorem refLine_sz {f : PFunc} (hT : TOk f) {x : PInst} (hx : InstP f x) (hI : -9223372036854775808 ≤ x.num ∧ x.num ≤ 9223372036854775807) : x.args.length ≤ 3 ∧ (refLine f x).size ≤ 20000 := by
 have hF := instP_F hx
 have h3 := takesL_len x.op
 have hl := hF.len
 have hs := refArgs_size hT.vn x x.args.length (Nat.le_refl _)
 have hi := itoa_length_le x.num hI.1 hI.2
 refine ⟨by omega, ?_⟩
 unfold refLine
 split
 ·rw [app_size, app_size, strL_size]
  have : spc.size = 1 := rfl
  omega
 ·omega
theorem Left.none0 : ∀ O : OL, Left O []
 | [] => ⟨_, .refl _, rfl⟩
 | x :: O => let ⟨_, h1, h2⟩ := Left.none0 O; ⟨_, .drop h1, h2⟩
end Go.Proofs.YtpojdepccecpgaaGreatDoor
namespace Go.Proofs.YtpojdepccecpgaaGreatDoor
open Go.Proofs.Tryz
open Go Go.Shelf Go.RowKit Go.Proofs Go.Lib
variable {P : Program} {ρ : Ren}
set_option maxHeartbeats 1000000 in
set_option maxRecDepth 100000 in
theorem string_raw (L : Lays.n169 P ρ) (X : Builder.Extra P ρ) (b g cap : Nat) (p : Value) (cur : Array Value) (l : List UInt8) (w : World) (hbk : w.heap[b]? = some (.cells #[p, .slice (some ⟨g, 0, none⟩) l.length cap] (ρ.t 72) (0, 0)))
  (hg : w.heap[g]? = some (.cells cur (ρ.t 5) (0, 0))) (hnc : l.length ≤ cap) (hcs : cap ≤ cur.size) (hsm : l.length ≤ 9223372036854775807) (hcell : ∀ (j : Nat) (x : UInt8), l[j]? = some x → cur[j]? = some (Value.int .u8 x.toNat)) (h0 : l ≠ []) :
  Calls P (ρ.f 169) #[.pointer (some ⟨b, 0, none⟩)] w fun e w' => e = .returned (.string ⟨l.toArray⟩) ∧ w' = w.drew.freeze ⟨g, 0, none⟩ l.length := by
 have hl0 : l.length ≠ 0 := by simpa using h0
 have c1 : w.drew.cell? ⟨b, 1, none⟩ = some (.slice (some ⟨g, 0, none⟩) l.length cap) := by
  have : w.drew.heap[b]? = some (.cells #[p, .slice (some ⟨g, 0, none⟩) l.length cap] (ρ.t 72) (0, 0)) := hbk
  rw [Lib.cell_of_heap this]; rfl
 have hSD : (Builtin.unsafeSliceData_ #[(ρ.t 37)] (ρ.t 127) #[.slice (some ⟨g, 0, none⟩) l.length cap]).run P w.drew = .ok (.pointer (some ⟨g, 0, none⟩)) w.drew :=
  Lib.run_unsafeSliceData_row _ _ _ _ _ _ (by omega)
 have hg' : w.drew.heap[g]? = some (.cells cur (ρ.t 5) (0, 0)) := hg
 have hUS : (Builtin.unsafeString_ #[(ρ.t 127), (ρ.t 3)] (ρ.t 9) #[.pointer (some ⟨g, 0, none⟩), .int .i64 l.length]).run P w.drew = .ok (.string ⟨l.toArray⟩) (w.drew.freeze ⟨g, 0, none⟩ l.length) := by
  refine Lib.run_unsafeString_row w.drew (ρ.t 127) (ρ.t 3) (ρ.t 9) (ρ.t 5) L.t127 X.cellsByte g cur.size (by simp [World.shape?, hg']) l h0 (by omega) (by omega) ?_
  intro j x hx
  have ha : (⟨g, 0, none⟩ : Addr).add j = ⟨g, j, none⟩ := by unfold Addr.add; split <;> simp_all
  rw [ha, Lib.cell_of_heap hg']
  exact hcell j x hx
 have mixed := L.mixed
 have t72 := L.t72; have a72 := L.a72; have z72 := L.z72; have v72 := L.v72; have u72 := run_underlying L.t72
 have t70 := L.t70; have a70 := L.a70; have z70 := L.z70; have v70 := L.v70; have u70 := run_underlying L.t70
 have t37 := L.t37; have a37 := L.a37; have z37 := L.z37; have v37 := L.v37; have u37 := run_underlying L.t37
 have t127 := L.t127; have a127 := L.a127; have z127 := L.z127; have v127 := L.v127; have u127 := run_underlying L.t127
 have t3 := L.t3; have a3 := L.a3; have z3 := L.z3; have v3 := L.v3; have u3 := run_underlying L.t3
 have t9 := L.t9; have a9 := L.a9; have z9 := L.z9; have v9 := L.v9; have u9 := run_underlying L.t9
 have t5 := X.t5; have a5 := X.a5; have z5 := X.z5; have v5 := X.v5; have u5 := run_underlying X.t5
 go_enter L.f169, Body.n169_ntmps ρ
 go_wp2
 go_region_o
 all_goals (go_wp2; go_ret; exact ⟨rfl, rfl⟩)
end Go.Proofs.YtpojdepccecpgaaGreatDoor
namespace Go.Proofs.YtpojdepccecpgaaGreatDoor
open Go.Proofs.Tryz
open Go.Proofs Go.Lib Go.Shelf Go.RowKit
set_option maxRecDepth 20000
variable {E : World}
theorem check_new {i : Nat} {x : AV} : ACall prog E 98 [.po i 0] [(i, .cells 106 [.raw (.pointer none), x])] (fun z O' => z = .tup [] ∧ O' = [(i, .cells 106 [.po i 0, x])]) := by
 refine zl func98 Z (by decide) Z<|zSr<|z7 (zMp Z)<|z7 (ya Z)<|z7 (zc Zm Z sizeOf103 (by decide) Z Z)<|z7 (zi (c := .raw _) isAgg103 Z ⟨_, .head⟩ Z)<|z7 (Gv.eqlNilR (by kernel_rfl) Z)<|z6<|ym Z Z<|zRg<|z7 (zMp Z)<|z7 (zMp Z)<|z7 (Gv.toUnsafe underlying103 underlying194 type106 (by decide) Z ⟨_, .head⟩ (by show 0 < 2; omega))<|z7 (Gv.noEscape func139 Z Z (by kernel_rfl) (by kernel_rfl) Z)<|z7 (Gv.fromUnsafe underlying194 underlying103 type106 Z ⟨_, .head⟩ (by kernel_rfl))<|z7 (ya Z)<|z7 (zc Zm Z sizeOf103 (by decide) Z Z)<|y1 (l := [_]) (new := [_, _]) sizeOf103 Z Z Z Z Z Z .head Z Z<|z6<|afin.t0 ?_
 exact ⟨rfl, rfl⟩
theorem check_used {i : Nat} {x : AV} : ACall prog E 98 [.po i 0] [(i, .cells 106 [.po i 0, x])] (fun z O' => z = .tup [] ∧ O' = [(i, .cells 106 [.po i 0, x])]) := by
 refine zl func98 Z (by decide) Z<|zSr<|z7 (zMp Z)<|z7 (ya Z)<|z7 (zc Zm Z sizeOf103 (by decide) Z Z)<|z7 (zi (c := .po _ _) isAgg103 Z ⟨_, .head⟩ Z)<|z7 (Gv.eqlNilO (by kernel_rfl) Z)<|z6<|yf Z Z<|zSr<|z7 (zMp Z)<|z7 (ya Z)<|z7 (zc Zm Z sizeOf103 (by decide) Z Z)<|z7 (zi (c := .po _ _) isAgg103 Z ⟨_, .head⟩ Z)<|z7 (zMp Z)<|z7 (Gv.neqPO underlying103 type106 Z Z)<|z6<|yf Z Z<|zf<|afin.t0 ?_
 exact ⟨rfl, rfl⟩
def bldO (i j : Nat) (p0 : AV) (acc : ByteArray) : OL := [(i, .cells 106 [p0, .own j acc.size]), (j, .grow 1 5 (strAV acc))]
theorem bld_push {i j : Nat} {acc s : ByteArray} : [(i, AObj.cells 106 [.po i 0, .own j (acc.size + s.size)]), (j, .grow 1 5 (strAV acc ++ strAV s))] = bldO i j (.po i 0) (acc ++ s) := by
 unfold bldO; rw [strAV_app, ByteArray.size_append]
theorem write_new {i j : Nat} (acc s : ByteArray) (hb : acc.size + s.size ≤ 140737488355328) : ACall prog E 59 [.po i 0, .str s] (bldO i j (.raw (.pointer none)) acc)
  (fun z O' => ∃ j' : Nat, z = .tup [.int .i64 s.size, .raw .nilIface] ∧ Left O' (bldO i j' (.po i 0) (acc ++ s)) ∧ True) := by
 have hl := strAV_len acc
 refine zl func59 Z (by decide) Z<|zSr<|zVzAi Z<|z7 (zAr Z)<|z6<|zSr<|z7 (zMp Z)<|yl Z (zy (.l (.r (.rest _)))) (check_new) ?_
 rintro r7 O7 ⟨rfl, rfl⟩
 refine z6<|zSr<|z7 (zMp Z)<|z7 (zMp Z)<|z7 (ya Z)<|z7 (zc Zm Z Y0 (by decide) Z Z)<|z7 (zi (c := .own _ _) isAgg104 Z ⟨_, .head⟩ Z)<|z7 (y3 (v := .str _) Z)<|AOps.appendT Zj jx type5 Z Z Z Z Z (fun _ => .t1) (by omega) (by omega)<|fun i14 => z7 (ya Z)<|z7 (zc Zm Z Y0 (by decide) Z Z)<|y1 (l := [_]) (new := [_, _]) Y0 Z Z Z Z Z Z .head Z Z<|z6<|zSr<|z7 (y3 (v := .str _) Z)<|z7 (Gv.lenT jx Z)<|zVzAi Z<|z7 (zAr Z)<|z6<|zh<|afin.t2 (x := .int _ _) (y := .raw _) Z Z ?_
 exact ⟨i14, rfl, ⟨_, .refl _, bld_push⟩, trivial⟩
theorem write_used {i j : Nat} (acc s : ByteArray) (hb : acc.size + s.size ≤ 140737488355328) : ACall prog E 59 [.po i 0, .str s] (bldO i j (.po i 0) acc)
  (fun z O' => ∃ j' : Nat, z = .tup [.int .i64 s.size, .raw .nilIface] ∧ Left O' (bldO i j' (.po i 0) (acc ++ s)) ∧ True) := by
 have hl := strAV_len acc
 refine zl func59 Z (by decide) Z<|zSr<|zVzAi Z<|z7 (zAr Z)<|z6<|zSr<|z7 (zMp Z)<|yl Z (zy (.l (.r (.rest _)))) (check_used) ?_
 rintro r7 O7 ⟨rfl, rfl⟩
 refine z6<|zSr<|z7 (zMp Z)<|z7 (zMp Z)<|z7 (ya Z)<|z7 (zc Zm Z Y0 (by decide) Z Z)<|z7 (zi (c := .own _ _) isAgg104 Z ⟨_, .head⟩ Z)<|z7 (y3 (v := .str _) Z)<|AOps.appendT Zj jx type5 Z Z Z Z Z (fun _ => .t1) (by omega) (by omega)<|fun i14 => z7 (ya Z)<|z7 (zc Zm Z Y0 (by decide) Z Z)<|y1 (l := [_]) (new := [_, _]) Y0 Z Z Z Z Z Z .head Z Z<|z6<|zSr<|z7 (y3 (v := .str _) Z)<|z7 (Gv.lenT jx Z)<|zVzAi Z<|z7 (zAr Z)<|z6<|zh<|afin.t2 (x := .int _ _) (y := .raw _) Z Z ?_
 exact ⟨i14, rfl, ⟨_, .refl _, bld_push⟩, trivial⟩
theorem line_new {i j : Nat} (acc : ByteArray) (ws : List ByteArray) (hw : ws.length ≤ 100000000) (hz : (lineS ws).size ≤ 10000000000000) (hb : acc.size ≤ 10000000000000) : ACall prog E 58 ([.fro 1 (ws.map encS)] ++ [.po i 0]) (bldO i j (.raw (.pointer none)) acc)
  (fun z O' => ∃ j' : Nat, z = .tup [] ∧ Left O' (bldO i j' (.po i 0) (acc ++ (lineS ws ++ nl))) ∧ True) := by
 have hjs : (Lib.join (ws.map (·.data.toList)) [32]).length = (lineS ws).size := (strL_size _).symm
 refine zl func58 Z (by decide) Z<|zRg<|zVzMf Z<|ze (join_spec ws _ (by omega) (by show (Lib.join _ [32]).length ≤ _; omega)) Z<|z7 (yb Z Z (by show (lineS ws).size + 1 ≤ _; omega))<|yl Z (zy (.l (.l (.rest _)))) ((write_new acc (lineS ws ++ nl) (by rw [app_size]; show _ + (_ + 1) ≤ _; omega)).exact) ?_
 rintro r6 O6 ⟨j2, rfl, rfl, _⟩
 refine z6<|afin.t0 ?_
 exact ⟨j2, rfl, ⟨_, .refl _, rfl⟩, trivial⟩
theorem line_used {i j : Nat} (acc : ByteArray) (ws : List ByteArray) (hw : ws.length ≤ 100000000) (hz : (lineS ws).size ≤ 10000000000000) (hb : acc.size ≤ 10000000000000) : ACall prog E 58 ([.fro 1 (ws.map encS)] ++ [.po i 0]) (bldO i j (.po i 0) acc)
  (fun z O' => ∃ j' : Nat, z = .tup [] ∧ Left O' (bldO i j' (.po i 0) (acc ++ (lineS ws ++ nl))) ∧ True) := by
 have hjs : (Lib.join (ws.map (·.data.toList)) [32]).length = (lineS ws).size := (strL_size _).symm
 refine zl func58 Z (by decide) Z<|zRg<|zVzMf Z<|ze (join_spec ws _ (by omega) (by show (Lib.join _ [32]).length ≤ _; omega)) Z<|z7 (yb Z Z (by show (lineS ws).size + 1 ≤ _; omega))<|yl Z (zy (.l (.l (.rest _)))) ((write_used acc (lineS ws ++ nl) (by rw [app_size]; show _ + (_ + 1) ≤ _; omega)).exact) ?_
 rintro r6 O6 ⟨j2, rfl, rfl, _⟩
 refine z6<|afin.t0 ?_
 exact ⟨j2, rfl, ⟨_, .refl _, rfl⟩, trivial⟩
theorem bldLen_spec {i j : Nat} {p0 : AV} (acc : ByteArray) : ACall prog E 65 [.po i 0] (bldO i j p0 acc) (fun z O' => z = .int .i64 acc.size ∧ O' = bldO i j p0 acc) := by
 refine zl func65 Z (by decide) Z<|zSr<|zVzAi Z<|z6<|zSr<|z7 (zMp Z)<|z7 (ya Z)<|z7 (zc Zm Z Y0 (by decide) Z Z)<|z7 (zi (c := .own _ _) isAgg104 Z ⟨_, .head⟩ Z)<|z7 (Gv.lenO Zj Z)<|zVzAi Z<|z6<|zh<|zj (x := .int _ _) Z ?_
 exact ⟨rfl, rfl⟩
theorem bldString_spec {i j : Nat} {p0 : AV} (acc : ByteArray) (h0 : acc.size ≠ 0) (hb : acc.size ≤ 140737488355328) : ACall prog E 66 [.po i 0] (bldO i j p0 acc) (fun z O' => z = .str acc ∧ O' = []) := fun I F w vs h1 h2 => by
 obtain ⟨v, us, rfl, ⟨b, c, e1, rfl⟩, h3⟩ := h1
 have h3 : us = [] := h3
 subst h3
 obtain ⟨ht, L, hL, hS⟩ := h2
 obtain ⟨A, B0, rfl, hA, B, C, rfl, hB, hC⟩ := hL
 have hC : C = [] := hC
 subst hC
 obtain ⟨b', c', ws, e2, hws, hwc, rfl⟩ := hA
 simp only at e2
 rw [e1] at e2
 cases e2
 obtain ⟨v0, us, rfl, hv0, v1, us2, rfl, ⟨g, cg, e3, rfl⟩, hz⟩ := hws
 have hz : us2 = [] := hz
 subst hz
 obtain ⟨g', cg', n', bs, e4, hbs, hbc, h5, h6, h7⟩ := hB
 simp only at e4
 rw [e3] at e4
 simp only [Option.some.injEq, Prod.mk.injEq] at e4
 obtain ⟨rfl, rfl⟩ := e4
 have hv := strAV_un hbs
 subst hv
 have hlen := strCells_length acc
 have hl2 : acc.data.toList.length = acc.size := Array.length_toList
 rcases h7 with ⟨ea, hc0, _⟩ | ⟨g2, junk, ea, rfl, hj⟩
 ·omega
 ·cases g with
  | none => simp [adr] at ea
  | some g =>
   simp [adr] at ea
   subst ea
   have hS1 : SL I.k ((b, .cells #[v0, .slice (some ⟨g, 0, none⟩) acc.size cg] 106 (0, 0)) :: (g, .cells (strCells acc ++ junk).toArray 5 (0, 0)) :: F) E w := by simpa [adr] using hS
   have hbk := hS1.own _ (.head _)
   have hgk := hS1.own _ (.tail _ (.head _))
   simp only at hbk hgk
   refine Fn.ofCalls func66 Z (by decide) ?_
   have hcall := string_raw Tryz.lays169 Tryz.Builder_Extra_169 b g cg v0 (strCells acc ++ junk).toArray acc.data.toList w (by rw [hl2]; exact hbk) hgk (by rw [hl2]; omega) (by rw [List.size_toArray, hj]; omega) (by omega) (fun k x hx => by
    have hk : k < (strCells acc).length := by rw [hlen, ← hl2]; exact (List.getElem?_eq_some_iff.1 hx).1
    rw [List.getElem?_toArray, List.getElem?_append_left hk]
    unfold strCells
    rw [qh, hx]; rfl) (fun e => h0 (by rw [← hl2, e]; rfl))
   refine hcall.mono fun e w' ⟨he, hw⟩ => ⟨_, he, I, .str acc, [], .refl _, Z, ⟨ht, [], Z, ?_⟩, Z, Z⟩
   subst hw
   have hl0 : ¬ acc.data.toList.length = 0 := by rw [hl2]; exact h0
   refine hS1.drop.drew.scrap ?_ ?_ ?_ fun k hk => ?_
   ·unfold World.freeze; rw [if_neg hl0]
   ·unfold World.freeze; rw [if_neg hl0]
   ·unfold World.freeze; rw [if_neg hl0]
   ·unfold World.freeze; rw [if_neg hl0]
    simp only [Array.getElem?_modify]
    rw [if_neg (by omega)]
end Go.Proofs.YtpojdepccecpgaaGreatDoor
