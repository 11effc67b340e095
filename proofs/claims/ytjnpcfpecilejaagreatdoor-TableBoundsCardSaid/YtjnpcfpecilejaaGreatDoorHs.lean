/- The document's edges. Of programs that are little. -/
import Derived.Test.YtjnpcfpecilejaaGreatDoorHr
import Derived.Test.YtjnpcfpecilejaaGreatDoorHo
import Derived.Test.YtjnpcfpecilejaaGreatDoorHn
set_option linter.unusedVariables false
set_option linter.unusedSimpArgs false
set_option linter.unusedSectionVars false
namespace Go.Proofs.YtjnpcfpecilejaaGreatDoor
open Go.Proofs.Tryz
open Go.Proofs Go.Lib Go.Shelf Go.RowKit
theorem pl171 : Places prog 171 #[(0, 3), (3, 1), (4, 1), (5, 1), (6, 1), (7, 1)] [.raw (.slice none 0 0), .raw (.slice none 0 0), .raw (.slice none 0 0), .raw (.pointer none), .raw (.slice none 0 0), .int .i64 0, .bool false, .raw (.slice none 0 0)] := ⟨_, _, underlying171, zeroValue171, fun w => by kernel_rfl, rfl⟩
variable {E : World}
set_option maxRecDepth 20000
theorem eC_flat (es : List Ejk) : eC es = (es.map encE).flatten := by unfold eC Enc.av; rw [List.flatMap_def]; rfl
theorem hasV_ofNat {f : PFunc} {v : Nat} (hv : v < f.vars.length) : hasV f v = true := by unfold hasV; simp; omega
def edgesB (f : PFunc) (l : List Rng) (up : Bool) : List Ejk := if (typedB f && singB f) = true ∧ l.length = f.vars.length then edgesE f l up else []
theorem tyV_get {f : PFunc} {v : Nat} (hv : v < f.vars.length) : tyV f v = f.vars[v].ty := by unfold tyV; rw [show ((v : Int).toNat) = v from rfl, qj hv]; rfl
theorem edges_len {f : PFunc} (hf : small f) (l : List Rng) (up : Bool) {i j : Nat} (hi : i < f.blocks.length) (hj : j ≤ f.blocks[i].insts.length) :
  (varsE f l up f.vars.length ++ (blksE f l up i ++ insE f l up i (f.blocks[i].insts.take j))).length ≤ 70000000 := by
 have hn := hf.2.2.1
 have a := varsE_len f l up f.vars.length
 have b := blksE_len f l up (m := 1000) (fun b hb => by have := (hf.2.2.2.2 b hb).2.2.1; omega) i (by omega)
 have c := insE_len f l up i f.blocks[i].insts j hj
 have d := (hf.2.2.2.2 _ (qn hi)).2.2.1
 have e := hf.1
 simp only [qp]
 have : i * (3 * 1000) ≤ 1000 * 3000 := Nat.mul_le_mul (by omega) (by omega)
 omega
set_option maxHeartbeats 8000000 in
theorem edges_ok (f : PFunc) (hf : small f) (hL : Letters E) (h : (typedB f && singB f) = true) (l : List Rng) (hol : ∀ r ∈ l, ok64 r) (hll : l.length = f.vars.length) (up : Bool) :
  AFun prog E 58 [.agg (encF f), .fro 2 (l.map encZ), .bool up] (.fro 3 ((edgesE f l up).map encE)) := by
 have hn := hf.2.2.1
 have hvn := hf.1
 have hR := SingRight_spec (E := E) f hf hL
 rw [h] at hR
 have ht := (and3 h).1
 have hF := ruleF_of hf h
 have hS := hF.shaped
 have hE := typedB_ends ht
 have hok : ∀ u : Int, 0 ≤ u → ok64 (lv l u) := fun u _ => lv_ok hol u
 have hml := makersT_len f
 refine zo func58 rfl (by decide) rfl<|zSr<|y7 (cs := _) rfl rfl rfl<|z2 (zAr rfl)<|z6<|za<|zSr<|z2 (zk isAgg26 sizeOf26 rfl rfl)<|ze (hR) rfl<|z2 (yi rfl rfl)<|z2 (zMb rfl)<|z8 rfl rfl rfl<|z2 (zMf rfl)<|z8 rfl rfl rfl<|z2 (zz underlying41 rfl)<|z8 rfl rfl rfl<|z2 (zFF underlying26 rfl sizeOf22 rfl rfl)<|z8 rfl rfl rfl<|z2 (zLf isAgg22 rfl)<|z8 rfl rfl rfl<|z2 (zz underlying22 rfl)<|z8 rfl rfl rfl<|z2 (yi rfl rfl)<|z2 (zPf rfl rfl rfl)<|z6<|yh rfl (by simp [hll])<|zc<|zSr<|z2 (zk isAgg26 sizeOf26 rfl rfl)<|ze (New_spec f hf hL ht) rfl<|z2 (zMu rfl)<|z2 (yy (v := .pf _) rfl rfl)<|z2 (zXi rfl rfl)<|z2 (ye (v := .pf _) rfl)<|z2 (zAi rfl)<|z6<|za<|zSr<|z2 (zMi rfl)<|z2 (yi rfl rfl)<|z6 ?_
 refine yh rfl rfl<|zc<|zSr<|z2 (zk isAgg26 sizeOf26 rfl rfl)<|z2 (zMg rfl)<|z2 (zMf rfl)<|z2 (zFF underlying26 rfl sizeOf22 rfl rfl)<|z2 (zLf isAgg22 rfl)<|z2 (zz underlying22 rfl)<|z2 (zMb rfl)<|z2 (y5 (cps := [(0, [_, _, _]), (1, [_]), (2, [_]), (3, [_]), (4, [_])]) (rs := [_, _, _, _, _, _, _, .raw (.slice none 0 0)]) pl171 rfl rfl rfl)<|yn (cs := _) rfl rfl rfl rfl<|fun i42 => z2 (zAp rfl)<|z6<|adoptC_wp (off := 7) (k := 3) (T := 53) (fun _ => .head) rfl<|fun jo => yf (zg (zi .t1))<|za<|zSr<|z2 (zk isAgg26 sizeOf26 rfl rfl)<|ze (Makers_spec f hf hL ht) rfl<|z2 (zz underlying102 rfl)<|z2 (zMi rfl)<|z6<|zh<|y6 (γ := Nat × Nat) [3, 9, 44, 45] (fun g => [(46, .int .i64 g.1)]) (fun g => [(i42, .cells 171 (tblL f l up (.own g.2 (varsE f l up g.1).length))), (g.2, .grow 3 53 (eC (varsE f l up g.1)))]) (fun g => g.1 ≤ f.vars.length) (fun g => f.vars.length - g.1) (0, jo) zR1 zLe (qm _) ?_
 rintro ⟨k, jo⟩ hk
 try dsimp only at *
 refine zSr<|z2 (y8 rfl rfl)<|z6<|za<|zp rfl (fun ck=>?_) (fun ck=>?_)
 ·have hk2 : k < f.vars.length := by simp at ck; omega
  have hvl := varsE_len f l up k
  refine zc<|za<|zh<|zSr<|z2 (zMi rfl)<|z2 (zIM k underlying102 sizeOf109 rfl rfl rfl (makersT_get hk2))<|z2 (zk isAgg109 sizeOf109 rfl rfl)<|zq (cs := [.int .i64 0, .int .i64 0]) zeroValue109 rfl rfl<|fun i11 => z2 (zAi rfl)<|zm sizeOf109 rfl rfl rfl rfl rfl rfl .head rfl<|zd (y9 (t := 11) rfl .head)<|z6<|za<|yc (γ := Bool) [3, 9, 10, 44, 45, 46] (fun u => [(62, .bool u)]) (fun u => [(i42, .cells 171 (tblL f l up (.own jo (varsE f l up k).length))), (jo, .grow 3 53 (eC (varsE f l up k)))]) (fun u => u = decide ((makerT f k).1 < 0 ∧ tyV f k ≠ 1)) ?_ (fun _ _ h => h) ?_
  ·refine zRg<|z2 (zFF underlying109 rfl sizeOf3 rfl rfl)<|z2 (zLi isAgg3 rfl)<|z2 (y8 rfl rfl)<|z2 (zMb rfl)<|zl (s := 54) rfl (fun c1=>?_) (fun c1=>?_)
   ·refine z8 rfl rfl c1<|z2 (zFF underlying26 rfl sizeOf22 rfl rfl)<|z8 rfl rfl c1<|z2 (zLf isAgg22 rfl)<|z8 rfl rfl c1<|z2 (zMi rfl)<|z8 rfl rfl c1<|z2 (zIM k underlying22 sizeOf56 rfl rfl rfl (qj hk2))<|z8 rfl rfl c1<|z2 (zFF underlying56 rfl sizeOf54 rfl rfl)<|z8 rfl rfl c1<|z2 (zLi isAgg54 rfl)<|z8 rfl rfl c1<|z2 (yi rfl rfl)<|z2 (zPt rfl c1 rfl)<|z6 ?_
    exact ⟨_, zR6, zR1, zLe, by rw [tyV_get hk2]; simp_all <;> omega⟩
   ·refine z7 rfl rfl c1<|z7 rfl rfl c1<|z7 rfl rfl c1<|z7 rfl rfl c1<|z7 rfl rfl c1<|z7 rfl rfl c1<|z7 rfl rfl c1<|z2 (zPf rfl c1 rfl)<|z6 ?_
    exact ⟨_, zR6, zR1, zLe, by rw [tyV_get hk2]; simp_all <;> omega⟩
  ·rintro u hu
   subst hu
   refine zp rfl (fun cm=>?_) (fun cm=>?_)
   ·refine zRg<|z2 (zMp rfl)<|z2 (zMi rfl)<|zt rfl (zn (.l (.l (.rest _)))) (town_spec f hS l hll up i42 jo (varsE f l up k) (by omega) (hasV_ofNat hk2)) ?_
    rintro r65 O65 ⟨j2, rfl, rfl, _⟩
    refine z6<|zRg<|z2 (zAd rfl rfl)<|z2 (zMi rfl)<|z6 ?_
    exact ⟨(k + 1, j2), zR4, zR1, ⟨_, (.refl _), by rw [varsE_succ, varE, if_pos cm]; rfl⟩, hk2, by dsimp only; omega⟩
   ·refine zc<|zRg<|z2 (zAd rfl rfl)<|z2 (zMi rfl)<|z6 ?_
    exact ⟨(k + 1, jo), zR4, zR1, ⟨_, (.refl _), by rw [varsE_succ, varE, if_neg cm, qt]⟩, hk2, by dsimp only; omega⟩
 ·have hkn : k = f.vars.length := by simp at ck; omega
  subst hkn
  refine y4<|za<|zSr<|z2 (zFF underlying26 rfl sizeOf24 rfl rfl)<|z2 (zLf isAgg24 rfl)<|z2 (zz underlying24 rfl)<|z2 (zMi rfl)<|z6 ?_
  obtain ⟨V0, hV0⟩ : ∃ V0, varsE f l up f.vars.length = V0 := ⟨_, rfl⟩
  have hbnd : ∀ {i j : Nat} (hi : i < f.blocks.length), j ≤ f.blocks[i].insts.length → (V0 ++ (blksE f l up i ++ insE f l up i (f.blocks[i].insts.take j))).length ≤ 70000000 := fun hi hj => by rw [← hV0]; exact edges_len hf l up hi hj
  rw [hV0]
  refine zh<|y6 (γ := Nat × Nat) [3, 9, 68, 69] (fun g => [(70, .int .i64 g.1)]) (fun g => [(i42, .cells 171 (tblL f l up (.own g.2 (V0 ++ blksE f l up g.1).length))), (g.2, .grow 3 53 (eC (V0 ++ blksE f l up g.1)))]) (fun g => g.1 ≤ f.blocks.length) (fun g => f.blocks.length - g.1) (0, jo) zR1 ⟨_, (.refl _), by rw [show blksE f l up 0 = [] by simp [blksE], qt]⟩ (qm _) ?_
  rintro ⟨i, jo⟩ hi
  try dsimp only at *
  refine zSr<|z2 (y8 rfl rfl)<|z6<|za<|zp rfl (fun ci=>?_) (fun ci=>?_)
  ·have hi2 : i < f.blocks.length := by simp at ci; omega
   obtain ⟨b, hbi⟩ : ∃ b, f.blocks[i] = b := ⟨_, rfl⟩
   have hget : f.blocks[i]? = some b := by rw [qj hi2, hbi]
   have hmem : b ∈ f.blocks := hbi ▸ qn hi2
   obtain ⟨hb0, hb1, hb2, hb3, hb4⟩ := hf.2.2.2.2 b hmem
   obtain ⟨hPh, hIn, hTm⟩ := hS.2.2.2.2.2 b hmem
   have hbnd2 : ∀ j, j ≤ b.insts.length → (V0 ++ (blksE f l up i ++ insE f l up i (b.insts.take j))).length ≤ 70000000 := fun j hj => by have := hbnd hi2 (j := j) (by rw [hbi]; exact hj); rwa [hbi] at this
   refine zc<|za<|zh<|zSr<|z2 (zMi rfl)<|z2 (zIM i underlying24 sizeOf66 rfl rfl rfl hget)<|z2 (zk isAgg66 sizeOf66 rfl rfl)<|zq (cs := [.str ⟨#[]⟩, .raw (.slice none 0 0), .raw (.slice none 0 0), .int .i64 0, .int .i64 0, .int .i64 0, .int .i64 0]) zeroValue66 rfl rfl<|fun i13 => z2 (zAi rfl)<|zm sizeOf66 rfl rfl rfl rfl rfl rfl .head rfl<|zd (y9 (t := 13) rfl .head)<|z6<|zSr<|z2 (zFF underlying66 rfl sizeOf60 rfl rfl)<|z2 (zLf isAgg60 rfl)<|z2 (zz underlying60 rfl)<|z2 (zMi rfl)<|z6<|zh<|y6 (γ := Nat × Nat) [3, 9, 12, 68, 69, 70, 76, 77] (fun g => [(78, .int .i64 g.1)]) (fun g => [(i42, .cells 171 (tblL f l up (.own g.2 (V0 ++ (blksE f l up i ++ insE f l up i (b.insts.take g.1))).length))), (g.2, .grow 3 53 (eC (V0 ++ (blksE f l up i ++ insE f l up i (b.insts.take g.1)))))]) (fun g => g.1 ≤ b.insts.length) (fun g => b.insts.length - g.1) (0, jo) zR1 ⟨_, (.refl _), by rw [show insE f l up i (b.insts.take 0) = [] by simp [insE], qt]⟩ (qm _) ?_
   rintro ⟨j, jo⟩ hj
   try dsimp only at *
   refine zSr<|z2 (y8 rfl rfl)<|z6<|za<|zp rfl (fun cj=>?_) (fun cj=>?_)
   ·have hj2 : j < b.insts.length := by simp at cj; omega
    obtain ⟨z, hz⟩ : ∃ z, b.insts[j] = z := ⟨_, rfl⟩
    have hI := instP_F (hIn z (hz ▸ qn hj2))
    have hle := hbnd2 j (by omega)
    have hsn : V0 ++ (blksE f l up i ++ insE f l up i (b.insts.take (j + 1))) = V0 ++ (blksE f l up i ++ insE f l up i (b.insts.take j)) ++ stepE f l up z i j := by rw [insE_succ f l up i hj2, hz]; simp
    obtain ⟨es, hes⟩ : ∃ es, V0 ++ (blksE f l up i ++ insE f l up i (b.insts.take j)) = es := ⟨_, rfl⟩
    rw [hes] at hle hsn
    rw [hes]
    have hdst : 0 ≤ z.dst → z.dst.toNat < f.vars.length ∧ hasV f z.dst = true := fun h0 => by
     rcases hI.dst with ⟨_, h⟩ | ⟨_, _, h⟩
     ·omega
     ·have := hasV_rng h; exact ⟨by omega, h⟩
    refine zc<|za<|zh<|zSr<|z2 (zMi rfl)<|z2 (zIM j underlying60 sizeOf33 rfl rfl rfl (by rw [qj hj2, hz]))<|z2 (zk isAgg33 sizeOf33 rfl rfl)<|zq (cs := [.int .i64 0, .int .i64 0, .raw (.slice none 0 0), .int .i64 0]) zeroValue33 rfl rfl<|fun i15 => z2 (zAi rfl)<|zm sizeOf33 rfl rfl rfl rfl rfl rfl .head rfl<|zd (y9 (t := 15) rfl .head)<|z6<|za<|yc (γ := Bool) [3, 9, 12, 14, 15, 68, 69, 70, 76, 77, 78] (fun u => [(95, .bool u)]) (fun u => [(i42, .cells 171 (tblL f l up (.own jo es.length))), (jo, .grow 3 53 (eC es))]) (fun u => u = decide (0 ≤ z.dst ∧ tyV f z.dst ≠ 1)) ?_ (fun _ _ h => h) ?_
    ·refine zRg<|z2 (zFF underlying33 rfl sizeOf3 rfl rfl)<|z2 (zLi isAgg3 rfl)<|z2 (q9 rfl rfl)<|z2 (zMb rfl)<|zl (s := 86) rfl (fun cd=>?_) (fun cd=>?_)
     ·have hd0 : 0 ≤ z.dst := qz cd
      have hdl := (hdst hd0).1
      have hty : tyV f z.dst = f.vars[z.dst.toNat].ty := by have := tyV_get (f := f) hdl; rwa [qy hd0] at this
      refine z8 rfl rfl cd<|z2 (zFF underlying26 rfl sizeOf22 rfl rfl)<|z8 rfl rfl cd<|z2 (zLf isAgg22 rfl)<|z8 rfl rfl cd<|z2 (zFF underlying33 rfl sizeOf3 rfl rfl)<|z8 rfl rfl cd<|z2 (zLi isAgg3 rfl)<|z8 rfl rfl cd<|z2 (zIM z.dst.toNat underlying22 sizeOf56 rfl rfl (by omega) (qj hdl))<|z8 rfl rfl cd<|z2 (zFF underlying56 rfl sizeOf54 rfl rfl)<|z8 rfl rfl cd<|z2 (zLi isAgg54 rfl)<|z8 rfl rfl cd<|z2 (yi rfl rfl)<|z2 (zPt rfl cd rfl)<|z6 ?_
      exact ⟨_, zR11, zR1, zLe, by rw [hty]; simp [hd0]⟩
     ·refine z7 rfl rfl cd<|z7 rfl rfl cd<|z7 rfl rfl cd<|z7 rfl rfl cd<|z7 rfl rfl cd<|z7 rfl rfl cd<|z7 rfl rfl cd<|z7 rfl rfl cd<|z2 (zPf rfl cd rfl)<|z6 ?_
      exact ⟨_, zR11, zR1, zLe, (qv (fun h => w3 cd h.1)).symm⟩
    ·rintro u hu
     subst hu
     refine zp rfl (fun cc=>?_) (fun cc=>?_)
     ·have hst : stepE f l up z i j = instE f l up z i j ++ ownE f l up z.dst := by unfold stepE; rw [if_pos cc]
      have hil := instE_len f l up z i j
      refine zSr<|z2 (zMp rfl)<|z2 (zk isAgg33 sizeOf33 rfl rfl)<|z2 (zMi rfl)<|z2 (zMi rfl)<|zt rfl (zn (.l (.l (.rest _)))) (tinst_spec f hf hS hE l hll hok up i42 jo es (by omega) z hI i j) ?_
      rintro r100 O100 ⟨j2, rfl, rfl, _⟩
      refine z6<|zRg<|z2 (zMp rfl)<|z2 (zFF underlying33 rfl sizeOf3 rfl rfl)<|z2 (zLi isAgg3 rfl)<|zt rfl (zn (.l (.l (.rest _)))) (town_spec f hS l hll up i42 j2 (es ++ instE f l up z i j) (by rw [qp]; omega) (hdst cc.1).2) ?_
      rintro r104 O104 ⟨j3, rfl, rfl, _⟩
      refine z6<|zRg<|z2 (zAd rfl rfl)<|z2 (zMi rfl)<|z6 ?_
      exact ⟨(j + 1, j3), zR8, zR1, ⟨_, (.refl _), by rw [hsn, hst, ← ql]; rfl⟩, hj2, by dsimp only; omega⟩
     ·have hst : stepE f l up z i j = [] := by unfold stepE; rw [if_neg cc]
      refine zc<|zRg<|z2 (zAd rfl rfl)<|z2 (zMi rfl)<|z6 ?_
      exact ⟨(j + 1, jo), zR8, zR1, ⟨_, (.refl _), by rw [hsn, hst, qt]⟩, hj2, by dsimp only; omega⟩
   ·have hjn : j = b.insts.length := by simp at cj; omega
    subst hjn
    refine y4<|zRg<|z2 (zAd rfl rfl)<|z2 (zMi rfl)<|z6 ?_
    exact ⟨(i + 1, jo), zR4, zR1, ⟨_, (.refl _), by rw [qo, blksE_succ l up hi2, hbi]⟩, hi2, by dsimp only; omega⟩
  ·have hin : i = f.blocks.length := by simp at ci; omega
   subst hin
   have hed : V0 ++ blksE f l up f.blocks.length = edgesE f l up := by rw [← hV0]; rfl
   rw [hed, eC_flat]
   refine y4<|zSr<|z2 (zMp rfl)<|z2 (ya rfl)<|z2 (zu underlying171 rfl sizeOf42 (by decide) rfl rfl)<|z2 (zy (c := .own _ _) isAgg42 rfl ⟨_, .head⟩ rfl)<|z2 (zAo rfl)<|z6<|zf ?_
   repeat (first | refine aseqQ_ret ?_ | refine ablockQ_ret ?_)
   refine GStep.fin (GStep.know (t := 6) (rows := (edgesE f l up).map encE) rfl .t1 (by (intro r hr; obtain ⟨x, _, rfl⟩ := List.mem_map.1 hr; rfl)) (by decide) (by (rw [qq])))<|zj (x := .fro _ _) rfl ?_
   rfl
theorem edges_bad (f : PFunc) (hf : small f) (hL : Letters E) (l : List Rng) (h : ¬ ((typedB f && singB f) = true ∧ l.length = f.vars.length)) (up : Bool) : AFun prog E 58 [.agg (encF f), .fro 2 (l.map encZ), .bool up] (.fro 3 []) := by
 have hR := SingRight_spec (E := E) f hf hL
 refine zo func58 rfl (by decide) rfl<|zSr<|y7 (cs := _) rfl rfl rfl<|z2 (zAr rfl)<|z6<|za<|za<|yc (γ := Bool) [1, 2, 3] (fun u => [(26, .bool u)]) (fun u => []) (fun u => u = true) ?_ (fun _ _ h => h) ?_
 ·refine zRg<|z2 (zk isAgg26 sizeOf26 rfl rfl)<|ze (hR) rfl<|z2 (yi rfl rfl)<|z2 (zMb rfl)<|zl (s := 19) rfl (fun c1=>?_) (fun c1=>?_)
  ·refine z7 rfl rfl c1<|z7 rfl rfl c1<|z7 rfl rfl c1<|z7 rfl rfl c1<|z7 rfl rfl c1<|z7 rfl rfl c1<|z2 (zPt rfl c1 rfl)<|z6 ?_
   exact ⟨_, zR3, zR1, zLe, rfl⟩
  ·have hs : (typedB f && singB f) = true := by cases hh : (typedB f && singB f); rw [hh] at c1; simp at c1; rfl
   have hne : ¬ l.length = f.vars.length := fun e => h ⟨hs, e⟩
   refine z8 rfl rfl c1<|z2 (zMf rfl)<|z8 rfl rfl c1<|z2 (zz underlying41 rfl)<|z8 rfl rfl c1<|z2 (zFF underlying26 rfl sizeOf22 rfl rfl)<|z8 rfl rfl c1<|z2 (zLf isAgg22 rfl)<|z8 rfl rfl c1<|z2 (zz underlying22 rfl)<|z8 rfl rfl c1<|z2 (yi rfl rfl)<|z2 (zPf rfl c1 rfl)<|z6 ?_
   exact ⟨_, zR3, zR1, zLe, by simp; omega⟩
 ·rintro u hu
  subst hu
  refine yr rfl rfl<|zSr<|z2 (zAr rfl)<|z6<|yf (qa (t := 6) rfl (Imp.nil 3))<|zf<|zj (x := .fro _ _) rfl ?_
  rfl
theorem edges_spec (f : PFunc) (hf : small f) (hL : Letters E) (l : List Rng) (hol : ∀ r ∈ l, ok64 r) (up : Bool) : AFun prog E 58 [.agg (encF f), .fro 2 (l.map encZ), .bool up] (.fro 3 ((edgesB f l up).map encE)) := by
 by_cases h : (typedB f && singB f) = true ∧ l.length = f.vars.length
 ·rw [edgesB, if_pos h]; exact edges_ok f hf hL h.1 l hol h.2 up
 ·rw [edgesB, if_neg h]; exact edges_bad f hf hL l h up
theorem upper_spec (f : PFunc) (hf : small f) (hL : Letters E) (l : List Rng) (hol : ∀ r ∈ l, ok64 r) : AFun prog E 22 [.agg (encF f), .fro 2 (l.map encZ)] (.fro 3 ((edgesB f l true).map encE)) := by
 refine zo func22 rfl (by decide) rfl<|zSr<|y7 (cs := _) rfl rfl rfl<|z2 (zAr rfl)<|z6<|zSr<|z2 (zk isAgg26 sizeOf26 rfl rfl)<|z2 (zMf rfl)<|ze (edges_spec f hf hL l hol true) rfl<|z2 (zAf rfl)<|z6<|zf<|zj (x := .fro _ _) rfl ?_
 rfl
theorem lower_spec (f : PFunc) (hf : small f) (hL : Letters E) (l : List Rng) (hol : ∀ r ∈ l, ok64 r) : AFun prog E 23 [.agg (encF f), .fro 2 (l.map encZ)] (.fro 3 ((edgesB f l false).map encE)) := by
 refine zo func23 rfl (by decide) rfl<|zSr<|y7 (cs := _) rfl rfl rfl<|z2 (zAr rfl)<|z6<|zSr<|z2 (zk isAgg26 sizeOf26 rfl rfl)<|z2 (zMf rfl)<|ze (edges_spec f hf hL l hol false) rfl<|z2 (zAf rfl)<|z6<|zf<|zj (x := .fro _ _) rfl ?_
 rfl
end Go.Proofs.YtjnpcfpecilejaaGreatDoor
namespace Go.Proofs.YtjnpcfpecilejaaGreatDoor
open Go.Proofs.Tryz
open Go.Proofs Go.Lib Go.Shelf Go.RowKit
theorem pl119 : Places prog 119 #[(0, 1), (1, 1), (2, 1)] [.int .i64 0, .int .i64 0, .int .i64 0] := ⟨_, _, underlying119, zeroValue119, fun w => by kernel_rfl, rfl⟩
theorem ps44_1 : PlacesS prog 44 119 1 3 [.int .i64 0, .int .i64 0, .int .i64 0] := ⟨_, underlying44, sizeOf119, zeroValue119, by decide, by decide, by kernel_rfl⟩
variable {E : World}
set_option maxRecDepth 20000
def withE (es : List Ejk) (to from_ : Int) (r : Rng) (n s : Int) : List Ejk := es ++ putIf (toldB r n) (from_, to, s * n)
theorem withE_len (es : List Ejk) (to from_ : Int) (r : Rng) (n s : Int) : (withE es to from_ r n s).length ≤ es.length + 1 := by
 unfold withE
 have := putIf_len (toldB r n) (from_, to, s * n)
 rw [qp]; omega
def ownQ (es : List Ejk) : AV → OL → Prop := fun y O => ∃ j : Nat, y = .own j es.length ∧ O = [(j, .grow 3 119 (eC es))] ∧ True
theorem with_spec (i : Nat) (es : List Ejk) (hb : es.length ≤ 90000000) (to from_ : Int) (r : Rng) (n s : Int) (hs : toldB r n = true → is64 (s * n)) :
  ACall prog E 62 [.own i es.length, .int .i64 to, .int .i64 from_, .agg (encZ r), .int .i64 n, .int .i64 s] [(i, .grow 3 119 (eC es))] (ownQ (withE es to from_ r n s)) := by
 refine ACall.exact (γ := Nat) (x := fun j => .own j (withE es to from_ r n s).length) (M := fun j => [(j, .grow 3 119 (eC (withE es to from_ r n s)))]) (p := fun _ => True)<|zo func62 rfl (by decide) rfl<|zSr<|y7 (cs := _) rfl rfl rfl<|z2 (zAr rfl)<|z6<|za<|za<|yc (γ := Bool) [0, 1, 2, 4, 5] (fun u => [(25, .bool u)]) (fun u => [(i, .grow 3 119 (eC es))]) (fun u => u = !toldB r n) ?_ (fun _ _ h => h) ?_
 ·refine zRg<|z2 (zFF underlying75 rfl sizeOf2 rfl rfl)<|z2 (zLi isAgg2 rfl)<|z2 (zFF underlying75 rfl sizeOf2 rfl rfl)<|z2 (zLi isAgg2 rfl)<|z2 (yv rfl rfl)<|z2 (zMb rfl)<|zl (s := 18) rfl (fun c1=>?_) (fun c1=>?_)
  ·refine z7 rfl rfl c1<|z7 rfl rfl c1<|z2 (zPt rfl c1 rfl)<|z2 (zMb rfl)<|z7 rfl rfl rfl<|z7 rfl rfl rfl<|z2 (zPt rfl rfl rfl)<|z6 ?_
   exact ⟨_, zR5, zR1, zLe, by unfold toldB m64 M64; simp_all <;> omega⟩
  ·refine z8 rfl rfl c1<|z2 (zMi rfl)<|z8 rfl rfl c1<|z2 (y3 rfl rfl)<|z2 (zPf rfl c1 rfl)<|z2 (zMb rfl)<|zl (s := 22) rfl (fun c2=>?_) (fun c2=>?_)
   ·refine z7 rfl rfl c2<|z7 rfl rfl c2<|z2 (zPt rfl c2 rfl)<|z6 ?_
    exact ⟨_, zR5, zR1, zLe, by unfold toldB m64 M64; simp_all <;> omega⟩
   ·refine z8 rfl rfl c2<|z2 (zMi rfl)<|z8 rfl rfl c2<|z2 (y3 rfl rfl)<|z2 (zPf rfl c2 rfl)<|z6 ?_
    exact ⟨_, zR5, zR1, zLe, by unfold toldB m64 M64; simp_all <;> omega⟩
 ·rintro u hu
  subst hu
  refine zr rfl (fun c=>?_) (fun c=>?_)
  ·have hf : toldB r n = false := by simpa using c
   have he : withE es to from_ r n s = es := by unfold withE; rw [hf]; simp [putIf]
   refine zSr<|z2 (zMo rfl)<|z2 (zAo rfl)<|z6<|zf<|zj (x := .own _ _) rfl ?_
   exact ⟨i, by rw [he], ⟨_, .refl _, by rw [he]⟩, trivial⟩
  ·have hf : toldB r n = true := by simpa using c
   have he : withE es to from_ r n s = es ++ [(from_, to, IntKind.i64.wrap (s * n))] := by unfold withE; rw [hf, wrap_fit (hs hf)]; rfl
   refine zc<|zSr<|z2 (zMo rfl)<|z2 (zMi rfl)<|z2 (zMi rfl)<|z2 (zMi rfl)<|z2 (zMi rfl)<|z2 (Gv.mulW rfl rfl)<|z2 (y5 (cps := [(0, [_]), (1, [_]), (2, [_])]) (rs := [_, _, _]) pl119 rfl rfl rfl)<|zw (rows := [[_, _, _]]) ps44_1 rfl rfl rfl rfl rfl<|yl (k := 3) underlying44 type119 rfl rfl rfl rfl rfl (fun _ => .head) (by rw [eC_len]) (by decide) rfl (by show (_ + 1) * 24 ≤ _; omega) (by show _ + 1 ≤ _; omega)<|fun i35 => z2 (zAo rfl)<|z6<|zf<|zj (x := .own _ _) rfl ?_
   exact ⟨i35, by rw [he, qp]; rfl, ⟨_, .refl _, by rw [he, ← eC_push]; rfl⟩, trivial⟩
end Go.Proofs.YtjnpcfpecilejaaGreatDoor
