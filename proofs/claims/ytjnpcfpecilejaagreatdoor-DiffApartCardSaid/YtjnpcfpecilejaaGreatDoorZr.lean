/- What is asked of the program itself, of the law DiffApart, fact for fact. No conditions. -/
import Derived.Test.YtjnpcfpecilejaaGreatDoorZq
import Derived.Test.YtjnpcfpecilejaaGreatDoorZm
import Derived.Test.YtjnpcfpecilejaaGreatDoorZg
import Derived.Test.YtjnpcfpecilejaaGreatDoorZc
import Derived.Test.YtjnpcfpecilejaaGreatDoorZd
import Derived.Lib.LaidRTab
import Derived.Test.YtjnpcfpecilejaaGreatDoorRows
import Derived.Test.YtjnpcfpecilejaaGreatDoorChecked
import Derived.ProofKit
import Derived.JoinedOf
set_option linter.unusedVariables false
set_option linter.unusedSimpArgs false
set_option linter.unusedSectionVars false
namespace Go.Proofs.YtjnpcfpecilejaaGreatDoor
open Go.Proofs.Tryz
open Go.Proofs Go.Lib Go.Shelf Go.RowKit
theorem pl171 : Places Tryz.prog 171 #[(0, 3), (3, 1), (4, 1), (5, 1), (6, 1), (7, 1)] [.raw (.slice none 0 0), .raw (.slice none 0 0), .raw (.slice none 0 0), .raw (.pointer none), .raw (.slice none 0 0), .int .i64 0, .bool false, .raw (.slice none 0 0)] := ⟨_, _, underlying171, zeroValue171, fun w => by kernel_rfl, rfl⟩
variable {E : World}
set_option maxRecDepth 20000
theorem eC_flat (es : List Edge) : eC es = (es.map encE).flatten := by unfold eC Enc.av; rw [List.flatMap_def]; rfl
theorem hasV_ofNat {f : PFunc} {v : Nat} (hv : v < f.vars.length) : hasV f v = true := by unfold hasV; simp; omega
def edgesB (f : PFunc) (l : List Rng) (up : Bool) : List Edge := if (typedB f && singB f) = true ∧ l.length = f.vars.length then edgesE f l up else []
theorem tyV_get {f : PFunc} {v : Nat} (hv : v < f.vars.length) : tyV f v = f.vars[v].ty := by unfold tyV; rw [show ((v : Int).toNat) = v from rfl, qd hv]; rfl
theorem edges_len {f : PFunc} (hf : small f) (l : List Rng) (up : Bool) {i j : Nat} (hi : i < f.blocks.length) (hj : j ≤ f.blocks[i].insts.length) :
  (varsE f l up f.vars.length ++ (blksE f l up i ++ insE f l up i (f.blocks[i].insts.take j))).length ≤ 70000000 := by
 have hn := hf.2.2.1
 have a := varsE_len f l up f.vars.length
 have b := blksE_len f l up (m := 1000) (fun b hb => by have := (hf.2.2.2.2 b hb).2.2.1; omega) i (by omega)
 have c := insE_len f l up i f.blocks[i].insts j hj
 have d := (hf.2.2.2.2 _ (qh hi)).2.2.1
 have e := hf.1
 simp only [qj]
 have : i * (3 * 1000) ≤ 1000 * 3000 := Nat.mul_le_mul (by omega) (by omega)
 omega
set_option maxHeartbeats 8000000 in
theorem edges_ok (f : PFunc) (hf : small f) (hL : Letters E) (h : (typedB f && singB f) = true) (l : List Rng) (hol : ∀ r ∈ l, ok64 r) (hll : l.length = f.vars.length) (up : Bool) :
  AFun Tryz.prog E 58 [.agg (encF f), .fro 2 (l.map encZ), .bool up] (.fro 3 ((edgesE f l up).map encE)) := by
 have hn := hf.2.2.1
 have hvn := hf.1
 have hR := SingRight_spec (E := E) f hf hL
 rw [h] at hR
 have ht := (and3 h).1
 have hF := ruleF_of hf h
 have hS := hF.shaped
 have hE := typedB_ends ht
 have hok : ∀ u : Int, 0 ≤ u → ok64 (lv l u) := fun u _ => lv_ok hol u
 have hml := makersT_len f
 refine zp func58 rfl (by decide) rfl<|zb<|z7 rfl<|yd (cs := _) rfl rfl rfl<|z2 (zy (v := .raw _) rfl)<|z6<|zb<|zb<|z7 rfl<|z2 (zm isAgg26 sizeOf26 rfl rfl)<|zi (hR) rfl<|z2 (yl rfl rfl)<|z2 (zMb rfl)<|za rfl rfl rfl<|z2 (zMf rfl)<|za rfl rfl rfl<|z2 (y1 underlying41 rfl)<|za rfl rfl rfl<|z2 (zc underlying26 rfl sizeOf22 (by decide) rfl rfl)<|za rfl rfl rfl<|z2 (zLf isAgg22 rfl)<|za rfl rfl rfl<|z2 (y1 underlying22 rfl)<|za rfl rfl rfl<|z2 (yl rfl rfl)<|z2 (zPf rfl rfl rfl)<|z6<|yg rfl (by simp [hll])<|ze<|zb<|z7 rfl<|z2 (zm isAgg26 sizeOf26 rfl rfl)<|zi (New_spec f hf hL ht) rfl<|z2 (zq (v := .tup _) rfl)<|z2 (yh (v := .pf _) rfl rfl)<|z2 (yh (v := .int _ _) rfl rfl)<|z2 (zy (v := .pf _) rfl)<|z2 (zAi rfl)<|z6<|zb<|zb ?_
 refine z7 rfl<|z2 (zMi rfl)<|z2 (yl rfl rfl)<|z6<|yg rfl rfl<|ze<|zb<|z7 rfl<|z2 (zm isAgg26 sizeOf26 rfl rfl)<|z2 (zq (v := .pf _) rfl)<|z2 (zMf rfl)<|z2 (zc underlying26 rfl sizeOf22 (by decide) rfl rfl)<|z2 (zLf isAgg22 rfl)<|z2 (y1 underlying22 rfl)<|z2 (zMb rfl)<|z2 (zz (cps := [(0, [_, _, _]), (1, [_]), (2, [_]), (3, [_]), (4, [_])]) (rs := [_, _, _, _, _, _, _, .raw (.slice none 0 0)]) pl171 rfl rfl rfl)<|ym (cs := _) rfl rfl rfl rfl<|fun i42 => z2 (zy (v := .po _ _) rfl)<|z6<|adoptC_wp (off := 7) (k := 3) (T := 53) (fun _ => .head) rfl<|fun jo => yt (zg (zk (.tail .head)))<|zb<|zb<|z7 rfl<|z2 (zm isAgg26 sizeOf26 rfl rfl)<|zi (Makers_spec f hf hL ht) rfl<|z2 (y1 underlying102 rfl)<|z2 (zMi rfl)<|z6<|zh<|y8 (γ := Nat × Nat) [3, 9, 44, 45] (fun g => [(46, .int .i64 g.1)]) (fun g => [(i42, .cells 171 (tblL f l up (.own g.2 (varsE f l up g.1).length))), (g.2, .grow 3 53 (eC (varsE f l up g.1)))]) (fun g => g.1 ≤ f.vars.length) (fun g => f.vars.length - g.1) (0, jo) zR1 zLe (qg _) ?_
 rintro ⟨k, jo⟩ hk
 try dsimp only at *
 refine zb<|z7 rfl<|z2 (yf rfl rfl)<|z6<|zb<|zx rfl (fun ck => ?_) (fun ck => ?_)
 ·have hk2 : k < f.vars.length := by simp at ck; omega
  have hvl := varsE_len f l up k
  refine ze<|zb<|zh<|zb<|z7 rfl<|z2 (zMi rfl)<|z2 (y6 (j := k) underlying102 sizeOf109 rfl rfl rfl (makersT_get hk2))<|z2 (zm isAgg109 sizeOf109 rfl rfl)<|yb (cs := [.int .i64 0, .int .i64 0]) zeroValue109 rfl rfl<|fun i11 => z2 (zAi rfl)<|y4 sizeOf109 rfl rfl rfl rfl rfl rfl .head rfl<|zf (yi (t := 11) rfl .head)<|z6<|zb<|yp (γ := Bool) [3, 9, 10, 44, 45, 46] (fun u => [(62, .bool u)]) (fun u => [(i42, .cells 171 (tblL f l up (.own jo (varsE f l up k).length))), (jo, .grow 3 53 (eC (varsE f l up k)))]) (fun u => u = decide ((makerT f k).1 < 0 ∧ tyV f k ≠ 1)) ?_ (fun _ _ h => h) ?_
  ·refine z7 rfl<|z2 (zc underlying109 rfl sizeOf3 (by decide) rfl rfl)<|z2 (zLi isAgg3 rfl)<|z2 (yf rfl rfl)<|z2 (zMb rfl)<|zn (s := 54) rfl (fun c1 => ?_) (fun c1 => ?_)
   ·refine za rfl rfl c1<|z2 (zc underlying26 rfl sizeOf22 (by decide) rfl rfl)<|za rfl rfl c1<|z2 (zLf isAgg22 rfl)<|za rfl rfl c1<|z2 (zMi rfl)<|za rfl rfl c1<|z2 (y6 (j := k) underlying22 sizeOf56 rfl rfl rfl (qd hk2))<|za rfl rfl c1<|z2 (zc underlying56 rfl sizeOf54 (by decide) rfl rfl)<|za rfl rfl c1<|z2 (zLi isAgg54 rfl)<|za rfl rfl c1<|z2 (yl rfl rfl)<|z2 (zPt rfl c1 rfl)<|z6 ?_
    exact ⟨_, zR6, zR1, zLe, by rw [tyV_get hk2]; simp_all <;> omega⟩
   ·refine z8 rfl rfl c1<|z8 rfl rfl c1<|z8 rfl rfl c1<|z8 rfl rfl c1<|z8 rfl rfl c1<|z8 rfl rfl c1<|z8 rfl rfl c1<|z2 (zPf rfl c1 rfl)<|z6 ?_
    exact ⟨_, zR6, zR1, zLe, by rw [tyV_get hk2]; simp_all <;> omega⟩
  ·rintro u hu
   subst hu
   refine zx rfl (fun cm => ?_) (fun cm => ?_)
   ·refine z7 rfl<|z2 (zq (v := .po _ _) rfl)<|z2 (zMi rfl)<|zt rfl (zo (.l (.l (.rest _)))) (town_spec f hS l hll up i42 jo (varsE f l up k) (by omega) (hasV_ofNat hk2)) ?_
    rintro r65 O65 ⟨j2, rfl, rfl, _⟩
    refine z6<|z7 rfl<|z2 (y9 rfl rfl (by unfold I64; omega))<|z2 (zMi rfl)<|z6 ?_
    exact ⟨(k + 1, j2), zR4, zR1, ⟨_, (.refl _), by rw [varsE_succ, varE, if_pos cm]; rfl⟩, hk2, by dsimp only; omega⟩
   ·refine ze<|z7 rfl<|z2 (y9 rfl rfl (by unfold I64; omega))<|z2 (zMi rfl)<|z6 ?_
    exact ⟨(k + 1, jo), zR4, zR1, ⟨_, (.refl _), by rw [varsE_succ, varE, if_neg cm, List.append_nil]⟩, hk2, by dsimp only; omega⟩
 ·have hkn : k = f.vars.length := by simp at ck; omega
  subst hkn
  refine y7<|zb<|zb<|z7 rfl<|z2 (zc underlying26 rfl sizeOf24 (by decide) rfl rfl)<|z2 (zLf isAgg24 rfl)<|z2 (y1 underlying24 rfl)<|z2 (zMi rfl)<|z6 ?_
  obtain ⟨V0, hV0⟩ : ∃ V0, varsE f l up f.vars.length = V0 := ⟨_, rfl⟩
  have hbnd : ∀ {i j : Nat} (hi : i < f.blocks.length), j ≤ f.blocks[i].insts.length → (V0 ++ (blksE f l up i ++ insE f l up i (f.blocks[i].insts.take j))).length ≤ 70000000 := fun hi hj => by rw [← hV0]; exact edges_len hf l up hi hj
  rw [hV0]
  refine zh<|y8 (γ := Nat × Nat) [3, 9, 68, 69] (fun g => [(70, .int .i64 g.1)]) (fun g => [(i42, .cells 171 (tblL f l up (.own g.2 (V0 ++ blksE f l up g.1).length))), (g.2, .grow 3 53 (eC (V0 ++ blksE f l up g.1)))]) (fun g => g.1 ≤ f.blocks.length) (fun g => f.blocks.length - g.1) (0, jo) zR1 ⟨_, (.refl _), by rw [show blksE f l up 0 = [] by simp [blksE], List.append_nil]⟩ (qg _) ?_
  rintro ⟨i, jo⟩ hi
  try dsimp only at *
  refine zb<|z7 rfl<|z2 (yf rfl rfl)<|z6<|zb<|zx rfl (fun ci => ?_) (fun ci => ?_)
  ·have hi2 : i < f.blocks.length := by simp at ci; omega
   obtain ⟨b, hbi⟩ : ∃ b, f.blocks[i] = b := ⟨_, rfl⟩
   have hget : f.blocks[i]? = some b := by rw [qd hi2, hbi]
   have hmem : b ∈ f.blocks := hbi ▸ qh hi2
   obtain ⟨hb0, hb1, hb2, hb3, hb4⟩ := hf.2.2.2.2 b hmem
   obtain ⟨hPh, hIn, hTm⟩ := hS.2.2.2.2.2 b hmem
   have hbnd2 : ∀ j, j ≤ b.insts.length → (V0 ++ (blksE f l up i ++ insE f l up i (b.insts.take j))).length ≤ 70000000 := fun j hj => by have := hbnd hi2 (j := j) (by rw [hbi]; exact hj); rwa [hbi] at this
   refine ze<|zb<|zh<|zb<|z7 rfl<|z2 (zMi rfl)<|z2 (y6 (j := i) underlying24 sizeOf66 rfl rfl rfl hget)<|z2 (zm isAgg66 sizeOf66 rfl rfl)<|yb (cs := [.str ⟨#[]⟩, .raw (.slice none 0 0), .raw (.slice none 0 0), .int .i64 0, .int .i64 0, .int .i64 0, .int .i64 0]) zeroValue66 rfl rfl<|fun i13 => z2 (zAi rfl)<|y4 sizeOf66 rfl rfl rfl rfl rfl rfl .head rfl<|zf (yi (t := 13) rfl .head)<|z6<|zb<|z7 rfl<|z2 (zc underlying66 rfl sizeOf60 (by decide) rfl rfl)<|z2 (zLf isAgg60 rfl)<|z2 (y1 underlying60 rfl)<|z2 (zMi rfl)<|z6<|zh<|y8 (γ := Nat × Nat) [3, 9, 12, 68, 69, 70, 76, 77] (fun g => [(78, .int .i64 g.1)]) (fun g => [(i42, .cells 171 (tblL f l up (.own g.2 (V0 ++ (blksE f l up i ++ insE f l up i (b.insts.take g.1))).length))), (g.2, .grow 3 53 (eC (V0 ++ (blksE f l up i ++ insE f l up i (b.insts.take g.1)))))]) (fun g => g.1 ≤ b.insts.length) (fun g => b.insts.length - g.1) (0, jo) zR1 ⟨_, (.refl _), by rw [show insE f l up i (b.insts.take 0) = [] by simp [insE], List.append_nil]⟩ (qg _) ?_
   rintro ⟨j, jo⟩ hj
   try dsimp only at *
   refine zb<|z7 rfl<|z2 (yf rfl rfl)<|z6<|zb<|zx rfl (fun cj => ?_) (fun cj => ?_)
   ·have hj2 : j < b.insts.length := by simp at cj; omega
    obtain ⟨z, hz⟩ : ∃ z, b.insts[j] = z := ⟨_, rfl⟩
    have hI := instP_F (hIn z (hz ▸ qh hj2))
    have hle := hbnd2 j (by omega)
    have hsn : V0 ++ (blksE f l up i ++ insE f l up i (b.insts.take (j + 1))) = V0 ++ (blksE f l up i ++ insE f l up i (b.insts.take j)) ++ stepE f l up z i j := by rw [insE_succ f l up i hj2, hz]; simp
    obtain ⟨es, hes⟩ : ∃ es, V0 ++ (blksE f l up i ++ insE f l up i (b.insts.take j)) = es := ⟨_, rfl⟩
    rw [hes] at hle hsn
    rw [hes]
    have hdst : 0 ≤ z.dst → z.dst.toNat < f.vars.length ∧ hasV f z.dst = true := fun h0 => by
     rcases hI.dst with ⟨_, h⟩ | ⟨_, _, h⟩
     ·omega
     ·have := hasV_rng h; exact ⟨by omega, h⟩
    refine ze<|zb<|zh<|zb<|z7 rfl<|z2 (zMi rfl)<|z2 (y6 (j := j) underlying60 sizeOf33 rfl rfl rfl (by rw [qd hj2, hz]))<|z2 (zm isAgg33 sizeOf33 rfl rfl)<|yb (cs := [.int .i64 0, .int .i64 0, .raw (.slice none 0 0), .int .i64 0]) zeroValue33 rfl rfl<|fun i15 => z2 (zAi rfl)<|y4 sizeOf33 rfl rfl rfl rfl rfl rfl .head rfl<|zf (yi (t := 15) rfl .head)<|z6<|zb<|yp (γ := Bool) [3, 9, 12, 14, 15, 68, 69, 70, 76, 77, 78] (fun u => [(95, .bool u)]) (fun u => [(i42, .cells 171 (tblL f l up (.own jo es.length))), (jo, .grow 3 53 (eC es))]) (fun u => u = decide (0 ≤ z.dst ∧ tyV f z.dst ≠ 1)) ?_ (fun _ _ h => h) ?_
    ·refine z7 rfl<|z2 (zc underlying33 rfl sizeOf3 (by decide) rfl rfl)<|z2 (zLi isAgg3 rfl)<|z2 (q6 rfl rfl)<|z2 (zMb rfl)<|zn (s := 86) rfl (fun cd => ?_) (fun cd => ?_)
     ·have hd0 : 0 ≤ z.dst := of_decide_eq_true cd
      have hdl := (hdst hd0).1
      have hty : tyV f z.dst = f.vars[z.dst.toNat].ty := by have := tyV_get (f := f) hdl; rwa [Int.toNat_of_nonneg hd0] at this
      refine za rfl rfl cd<|z2 (zc underlying26 rfl sizeOf22 (by decide) rfl rfl)<|za rfl rfl cd<|z2 (zLf isAgg22 rfl)<|za rfl rfl cd<|z2 (zc underlying33 rfl sizeOf3 (by decide) rfl rfl)<|za rfl rfl cd<|z2 (zLi isAgg3 rfl)<|za rfl rfl cd<|z2 (y6 (j := z.dst.toNat) underlying22 sizeOf56 rfl rfl (by omega) (qd hdl))<|za rfl rfl cd<|z2 (zc underlying56 rfl sizeOf54 (by decide) rfl rfl)<|za rfl rfl cd<|z2 (zLi isAgg54 rfl)<|za rfl rfl cd<|z2 (yl rfl rfl)<|z2 (zPt rfl cd rfl)<|z6 ?_
      exact ⟨_, zR11, zR1, zLe, by rw [hty]; simp [hd0]⟩
     ·refine z8 rfl rfl cd<|z8 rfl rfl cd<|z8 rfl rfl cd<|z8 rfl rfl cd<|z8 rfl rfl cd<|z8 rfl rfl cd<|z8 rfl rfl cd<|z8 rfl rfl cd<|z2 (zPf rfl cd rfl)<|z6 ?_
      exact ⟨_, zR11, zR1, zLe, (qn (fun h => of_decide_eq_false cd h.1)).symm⟩
    ·rintro u hu
     subst hu
     refine zx rfl (fun cc => ?_) (fun cc => ?_)
     ·have hst : stepE f l up z i j = instE f l up z i j ++ ownE f l up z.dst := by unfold stepE; rw [if_pos cc]
      have hil := instE_len f l up z i j
      refine zb<|z7 rfl<|z2 (zq (v := .po _ _) rfl)<|z2 (zm isAgg33 sizeOf33 rfl rfl)<|z2 (zMi rfl)<|z2 (zMi rfl)<|zt rfl (zo (.l (.l (.rest _)))) (tinst_spec f hf hS hE l hll hok up i42 jo es (by omega) z hI i j) ?_
      rintro r100 O100 ⟨j2, rfl, rfl, _⟩
      refine z6<|z7 rfl<|z2 (zq (v := .po _ _) rfl)<|z2 (zc underlying33 rfl sizeOf3 (by decide) rfl rfl)<|z2 (zLi isAgg3 rfl)<|zt rfl (zo (.l (.l (.rest _)))) (town_spec f hS l hll up i42 j2 (es ++ instE f l up z i j) (by rw [qj]; omega) (hdst cc.1).2) ?_
      rintro r104 O104 ⟨j3, rfl, rfl, _⟩
      refine z6<|z7 rfl<|z2 (y9 rfl rfl (by unfold I64; omega))<|z2 (zMi rfl)<|z6 ?_
      exact ⟨(j + 1, j3), zR8, zR1, ⟨_, (.refl _), by rw [hsn, hst, ← qf]; rfl⟩, hj2, by dsimp only; omega⟩
     ·have hst : stepE f l up z i j = [] := by unfold stepE; rw [if_neg cc]
      refine ze<|z7 rfl<|z2 (y9 rfl rfl (by unfold I64; omega))<|z2 (zMi rfl)<|z6 ?_
      exact ⟨(j + 1, jo), zR8, zR1, ⟨_, (.refl _), by rw [hsn, hst, List.append_nil]⟩, hj2, by dsimp only; omega⟩
   ·have hjn : j = b.insts.length := by simp at cj; omega
    subst hjn
    refine y7<|z7 rfl<|z2 (y9 rfl rfl (by unfold I64; omega))<|z2 (zMi rfl)<|z6 ?_
    exact ⟨(i + 1, jo), zR4, zR1, ⟨_, (.refl _), by rw [qi, blksE_succ l up hi2, hbi]⟩, hi2, by dsimp only; omega⟩
  ·have hin : i = f.blocks.length := by simp at ci; omega
   subst hin
   have hed : V0 ++ blksE f l up f.blocks.length = edgesE f l up := by rw [← hV0]; rfl
   rw [hed, eC_flat]
   refine y7<|zb<|z7 rfl<|z2 (zq (v := .po _ _) rfl)<|z2 (ye rfl)<|z2 (zr underlying171 rfl sizeOf42 (by decide) rfl rfl)<|z2 (zw (c := .own _ _) isAgg42 rfl ⟨_, .head⟩ rfl)<|z2 (zy (v := .own _ _) rfl)<|z6<|zj ?_
   repeat (first | refine aseqQ_ret ?_ | refine ablockQ_ret ?_)
   refine GStep.fin (GStep.know (t := 6) (rows := (edgesE f l up).map encE) rfl (.tail .head) (by (intro r hr; obtain ⟨x, _, rfl⟩ := List.mem_map.1 hr; rfl)) (by decide) (by (rw [qk])))<|zl (x := .fro _ _) rfl ?_
   rfl
theorem edges_bad (f : PFunc) (hf : small f) (hL : Letters E) (l : List Rng) (h : ¬ ((typedB f && singB f) = true ∧ l.length = f.vars.length)) (up : Bool) : AFun Tryz.prog E 58 [.agg (encF f), .fro 2 (l.map encZ), .bool up] (.fro 3 []) := by
 have hR := SingRight_spec (E := E) f hf hL
 refine zp func58 rfl (by decide) rfl<|zb<|z7 rfl<|yd (cs := _) rfl rfl rfl<|z2 (zy (v := .raw _) rfl)<|z6<|zb<|zb<|yp (γ := Bool) [1, 2, 3] (fun u => [(26, .bool u)]) (fun u => []) (fun u => u = true) ?_ (fun _ _ h => h) ?_
 ·refine z7 rfl<|z2 (zm isAgg26 sizeOf26 rfl rfl)<|zi (hR) rfl<|z2 (yl rfl rfl)<|z2 (zMb rfl)<|zn (s := 19) rfl (fun c1 => ?_) (fun c1 => ?_)
  ·refine z8 rfl rfl c1<|z8 rfl rfl c1<|z8 rfl rfl c1<|z8 rfl rfl c1<|z8 rfl rfl c1<|z8 rfl rfl c1<|z2 (zPt rfl c1 rfl)<|z6 ?_
   exact ⟨_, zR3, zR1, zLe, rfl⟩
  ·have hs : (typedB f && singB f) = true := by cases hh : (typedB f && singB f); rw [hh] at c1; simp at c1; rfl
   have hne : ¬ l.length = f.vars.length := fun e => h ⟨hs, e⟩
   refine za rfl rfl c1<|z2 (zMf rfl)<|za rfl rfl c1<|z2 (y1 underlying41 rfl)<|za rfl rfl c1<|z2 (zc underlying26 rfl sizeOf22 (by decide) rfl rfl)<|za rfl rfl c1<|z2 (zLf isAgg22 rfl)<|za rfl rfl c1<|z2 (y1 underlying22 rfl)<|za rfl rfl c1<|z2 (yl rfl rfl)<|z2 (zPf rfl c1 rfl)<|z6 ?_
   exact ⟨_, zR3, zR1, zLe, by simp; omega⟩
 ·rintro u hu
  subst hu
  refine yo rfl rfl<|zb<|z7 rfl<|z2 (zy (v := .raw _) rfl)<|z6<|yt (GStep.slot (t := 6) rfl (Imp.nil 3))<|zj<|zl (x := .fro _ _) rfl ?_
  rfl
theorem edges_spec (f : PFunc) (hf : small f) (hL : Letters E) (l : List Rng) (hol : ∀ r ∈ l, ok64 r) (up : Bool) : AFun Tryz.prog E 58 [.agg (encF f), .fro 2 (l.map encZ), .bool up] (.fro 3 ((edgesB f l up).map encE)) := by
 by_cases h : (typedB f && singB f) = true ∧ l.length = f.vars.length
 ·rw [edgesB, if_pos h]; exact edges_ok f hf hL h.1 l hol h.2 up
 ·rw [edgesB, if_neg h]; exact edges_bad f hf hL l h up
theorem upper_spec (f : PFunc) (hf : small f) (hL : Letters E) (l : List Rng) (hol : ∀ r ∈ l, ok64 r) : AFun Tryz.prog E 22 [.agg (encF f), .fro 2 (l.map encZ)] (.fro 3 ((edgesB f l true).map encE)) := by
 refine zp func22 rfl (by decide) rfl<|zb<|z7 rfl<|yd (cs := _) rfl rfl rfl<|z2 (zy (v := .raw _) rfl)<|z6<|zb<|z7 rfl<|z2 (zm isAgg26 sizeOf26 rfl rfl)<|z2 (zMf rfl)<|zi (edges_spec f hf hL l hol true) rfl<|z2 (zAf rfl)<|z6<|zj<|zl (x := .fro _ _) rfl ?_
 rfl
theorem lower_spec (f : PFunc) (hf : small f) (hL : Letters E) (l : List Rng) (hol : ∀ r ∈ l, ok64 r) : AFun Tryz.prog E 23 [.agg (encF f), .fro 2 (l.map encZ)] (.fro 3 ((edgesB f l false).map encE)) := by
 refine zp func23 rfl (by decide) rfl<|zb<|z7 rfl<|yd (cs := _) rfl rfl rfl<|z2 (zy (v := .raw _) rfl)<|z6<|zb<|z7 rfl<|z2 (zm isAgg26 sizeOf26 rfl rfl)<|z2 (zMf rfl)<|zi (edges_spec f hf hL l hol false) rfl<|z2 (zAf rfl)<|z6<|zj<|zl (x := .fro _ _) rfl ?_
 rfl
end Go.Proofs.YtjnpcfpecilejaaGreatDoor
namespace Go.Proofs.YtjnpcfpecilejaaGreatDoor
open Go.Proofs.Tryz
open Go.Proofs Go.Lib Go.Shelf Go.RowKit
theorem pl56 : Places Tryz.prog 56 #[(0, 1), (1, 1)] [.str ⟨#[]⟩, .int .i64 0] := ⟨_, _, underlying56, zeroValue56, fun w => by kernel_rfl, rfl⟩
theorem ps22_3 : PlacesS Tryz.prog 22 56 3 2 [.str ⟨#[]⟩, .int .i64 0, .str ⟨#[]⟩, .int .i64 0, .str ⟨#[]⟩, .int .i64 0] := ⟨_, underlying22, sizeOf56, zeroValue56, by decide, by decide, by kernel_rfl⟩
theorem pl33 : Places Tryz.prog 33 #[(0, 1), (1, 1), (2, 1), (3, 1)] [.int .i64 0, .int .i64 0, .raw (.slice none 0 0), .int .i64 0] := ⟨_, _, underlying33, zeroValue33, fun w => by kernel_rfl, rfl⟩
theorem ps60_2 : PlacesS Tryz.prog 60 33 2 4 [.int .i64 0, .int .i64 0, .raw (.slice none 0 0), .int .i64 0, .int .i64 0, .int .i64 0, .raw (.slice none 0 0), .int .i64 0] := ⟨_, underlying60, sizeOf33, zeroValue33, by decide, by decide, by kernel_rfl⟩
theorem pl64 : Places Tryz.prog 64 #[(0, 1), (1, 1), (2, 2)] [.int .i64 0, .int .i64 0, .int .i64 0, .int .i64 0] := ⟨_, _, underlying64, zeroValue64, fun w => by kernel_rfl, rfl⟩
theorem ps41_3 : PlacesS Tryz.prog 41 74 3 2 [.int .i64 0, .int .i64 0, .int .i64 0, .int .i64 0, .int .i64 0, .int .i64 0] := ⟨_, underlying41, sizeOf74, zeroValue74, by decide, by decide, by kernel_rfl⟩
theorem ps51_2 : PlacesS Tryz.prog 51 42 2 1 [.raw (.slice none 0 0), .raw (.slice none 0 0)] := ⟨_, underlying51, sizeOf42, zeroValue42, by decide, by decide, by kernel_rfl⟩
variable {E : World}
set_option maxRecDepth 20000
structure EdgeOk (f : PFunc) (e : Edge) : Prop where
 to0 : 0 ≤ e.2.1
 to1 : e.2.1 < f.vars.length
 from0 : 0 ≤ e.1
 from1 : e.1 ≤ f.vars.length
 tty : tyV f e.2.1 ≠ 1
 fty : e.1 < f.vars.length → tyV f e.1 ≠ 1
 noPhi : ¬ (0 ≤ (makerT f e.2.1).1 ∧ (makerT f e.2.1).2 < 0)
 ne : e.1 ≠ e.2.1
theorem mem_putIf {c : Bool} {e d : Edge} (h : e ∈ putIf c d) : e = d := by
 unfold putIf at h
 split at h
 ·simpa using h
 ·cases h
theorem mem_endE {f : PFunc} {l : List Rng} {up : Bool} {v : Int} {o : Bool} {to from_ s : Int} {e : Edge} (h : e ∈ endE f l up v o to from_ s) : e.1 = from_ ∧ e.2.1 = to := by
 rw [mem_putIf h]; exact ⟨rfl, rfl⟩
def fromOps (op : Int) : Prop := op = 1 ∨ op = 2 ∨ op = 3 ∨ op = 5 ∨ op = 6 ∨ op = 12 ∨ op = 15 ∨ op = 25 ∨ op = 26
def fromOps2 (op : Int) : Prop := op = 2 ∨ op = 3 ∨ op = 5 ∨ op = 6 ∨ op = 25 ∨ op = 26
theorem inst_from {f : PFunc} {l : List Rng} {up : Bool} {x : PInst} {blk at_ : Int} {e : Edge} (h : e ∈ instE f l up x blk at_) :
  e.2.1 = x.dst ∧ (e.1 = n0 f ∨ (e.1 = x0 x ∧ fromOps x.op) ∨ (e.1 = x1 x ∧ fromOps2 x.op)) := by
 unfold instE at h
 unfold fromOps fromOps2
 by_cases c0 : x.op = 0
 ·rw [if_pos c0] at h; simp at h; subst h; exact ⟨rfl, .inl rfl⟩
 rw [if_neg c0] at h
 by_cases c1 : x.op = 1 ∨ x.op = 12 ∨ x.op = 15
 ·rw [if_pos c1] at h; simp at h; subst h; exact ⟨rfl, .inr (.inl ⟨rfl, by omega⟩)⟩
 rw [if_neg c1] at h
 by_cases c2 : x.op = 2 ∨ x.op = 3
 ·rw [if_pos c2] at h
  unfold sumE at h
  split at h
  ·split at h
   ·have := mem_endE h; exact ⟨this.2, .inr (.inl ⟨this.1, by omega⟩)⟩
   ·rcases List.mem_append.1 h with h | h
    ·have := mem_endE h; exact ⟨this.2, .inr (.inl ⟨this.1, by omega⟩)⟩
    ·have := mem_endE h; exact ⟨this.2, .inr (.inr ⟨this.1, by omega⟩)⟩
  ·cases h
 rw [if_neg c2] at h
 by_cases c5 : x.op = 5 ∨ x.op = 6
 ·rw [if_pos c5] at h
  unfold restE at h
  rcases List.mem_append.1 h with h | h
  ·split at h
   ·split at h
    ·simp at h; subst h; exact ⟨rfl, .inr (.inl ⟨rfl, by omega⟩)⟩
    ·simp at h; subst h; exact ⟨rfl, .inl rfl⟩
   ·cases h
  ·rw [mem_putIf h]; exact ⟨rfl, .inr (.inr ⟨rfl, by omega⟩)⟩
 rw [if_neg c5] at h
 by_cases c16 : x.op = 16
 ·rw [if_pos c16] at h; simp at h; subst h; exact ⟨rfl, .inl rfl⟩
 rw [if_neg c16] at h
 by_cases c25 : x.op = 25
 ·rw [if_pos c25] at h
  unfold piE at h
  rcases List.mem_cons.1 h with h | h
  ·subst h; exact ⟨rfl, .inr (.inl ⟨rfl, by omega⟩)⟩
  ·split at h
   ·simp at h; subst h; exact ⟨rfl, .inr (.inr ⟨rfl, by omega⟩)⟩
   ·split at h
    ·simp at h; subst h; exact ⟨rfl, .inr (.inr ⟨rfl, by omega⟩)⟩
    ·split at h
     ·simp at h; subst h; exact ⟨rfl, .inr (.inr ⟨rfl, by omega⟩)⟩
     ·cases h
 rw [if_neg c25] at h
 by_cases c26 : x.op = 26
 ·rw [if_pos c26] at h
  rcases List.mem_cons.1 h with h | h
  ·subst h; exact ⟨rfl, .inr (.inl ⟨rfl, by omega⟩)⟩
  ·split at h
   ·simp at h; subst h; exact ⟨rfl, .inr (.inr ⟨rfl, by omega⟩)⟩
   ·simp at h; subst h; exact ⟨rfl, .inl rfl⟩
 rw [if_neg c26] at h
 cases h
theorem fromOps_len {op : Int} (h : fromOps op) : 1 ≤ (takesL op).length := by unfold fromOps at h; rcases h with rfl | rfl | rfl | rfl | rfl | rfl | rfl | rfl | rfl <;> decide
theorem fromOps_ty {op : Int} (h : fromOps op) (h1 : op ≠ 1) : ∀ t ∈ takesL op, t ≠ 1 := by unfold fromOps at h; rcases h with rfl | rfl | rfl | rfl | rfl | rfl | rfl | rfl | rfl <;> first | (exact absurd rfl h1) | decide
theorem x0_mem {x : PInst} (h : 1 ≤ x.args.length) : x0 x ∈ x.args := by unfold x0; rw [qd (by omega)]; exact qh _
theorem x1_mem {x : PInst} (h : 2 ≤ x.args.length) : x1 x ∈ x.args := by unfold x1; rw [qd (by omega)]; exact qh _
structure InstS (f : PFunc) (i k : Nat) (x : PInst) : Prop where
 F : InstF f x
 typed : instT f x = true
 made : 0 ≤ x.dst → makerT f x.dst = ((i : Int), (k : Int))
 ahead : ∀ v ∈ x.args, AheadP f (makerT f v) i k
theorem inst_s {f : PFunc} (hF : RuleF f) (h : (typedB f && singB f) = true) {i k : Nat} {b : PBlock} {x : PInst} (hb : f.blocks[i]? = some b) (hx : b.insts[k]? = some x) : InstS f i k x := by
 have hmem := List.mem_of_getElem? hb
 have hxm := List.mem_of_getElem? hx
 have hI := instP_F ((hF.shaped.2.2.2.2.2 b hmem).2.1 x hxm)
 have hty := (and3 h).1
 have hsi := (singB_iff (typedB_ends hty)).1 (and3 h).2
 refine ⟨hI, ?_, fun h0 => ?_, fun v hv => ?_⟩
 ·unfold typedB at hty
  rw [qo] at hty
  have h1 := List.all_eq_true.1 hty.2 b hmem
  unfold blkT at h1
  simp only [qo] at h1
  exact List.all_eq_true.1 h1.1.2 x hxm
 ·have hm : ((i : Int), (k : Int)) ∈ makings f x.dst := mem_makings.2 ⟨i, b, hb, mem_mkBlk.2 (.inr ⟨k, x, hx, rfl, rfl⟩)⟩
  have h1 : x.dst < f.vars.length := by
   rcases hI.dst with ⟨_, h⟩ | ⟨_, _, h⟩
   ·omega
   ·exact (hasV_rng h).2
  have ho := (hF.once x.dst.toNat (by omega)).1
  rw [Int.toNat_of_nonneg h0] at ho
  exact maker_eq ho hm
 ·have hi := (List.getElem?_eq_some_iff.1 hb)
  obtain ⟨hi, rfl⟩ := hi
  obtain ⟨hk, rfl⟩ := List.getElem?_eq_some_iff.1 hx
  exact (hsi.2.2.2 i hi).2.1 k hk v hv
theorem arg_ne {f : PFunc} {i k : Nat} {x : PInst} (h : InstS f i k x) (h0 : 0 ≤ x.dst) {v : Int} (hv : v ∈ x.args) : v ≠ x.dst := fun e => by
 have := h.ahead v hv
 rw [e, h.made h0] at this
 unfold AheadP at this
 dsimp only at this
 omega
theorem arg_ty {f : PFunc} {i k : Nat} {x : PInst} (h : InstS f i k x) (ho : fromOps x.op) (hd : tyV f x.dst ≠ 1) {v : Int} (hv : v ∈ x.args) (hv0 : x.op = 1 → v = x0 x) : tyV f v ≠ 1 := by
 have ht := h.typed
 unfold instT at ht
 by_cases c : x.op = 1
 ·rw [if_pos c, qq] at ht
  have e : x.args.headD 0 = x0 x := by unfold x0; cases x.args <;> rfl
  rw [hv0 c, ← e]
  intro e2
  exact hd (show kindV f x.dst = 1 from ht.trans e2)
 ·rw [if_neg c, qo, qq] at ht
  have : kindV f v ∈ takesL x.op := by rw [← ht.1]; exact List.mem_map_of_mem hv
  exact fromOps_ty ho c _ this
theorem step_ok {f : PFunc} {l : List Rng} {up : Bool} {i k : Nat} {x : PInst} (h : InstS f i k x) {e : Edge} (he : e ∈ stepE f l up x i k) : EdgeOk f e := by
 unfold stepE at he
 split at he
 ·rename_i hc
  obtain ⟨h0, hd⟩ := hc
  have hdr : x.dst < f.vars.length := by
   rcases h.F.dst with ⟨_, h⟩ | ⟨_, _, h⟩
   ·omega
   ·exact (hasV_rng h).2
  have hm := h.made h0
  have key : e.2.1 = x.dst ∧ (e.1 = n0 f ∨ (∃ v ∈ x.args, e.1 = v ∧ fromOps x.op ∧ (x.op = 1 → v = x0 x))) := by
   rcases List.mem_append.1 he with he | he
   ·obtain ⟨h1, h2 | ⟨h2, h3⟩ | ⟨h2, h3⟩⟩ := inst_from he
    ·exact ⟨h1, .inl h2⟩
    ·exact ⟨h1, .inr ⟨x0 x, x0_mem (by rw [h.F.len]; exact fromOps_len h3), h2, h3, fun _ => rfl⟩⟩
    ·have hl := takes2 h3
     exact ⟨h1, .inr ⟨x1 x, x1_mem (by rw [h.F.len, hl]; exact Nat.le_refl 2), h2, by unfold fromOps; unfold fromOps2 at h3; omega, fun c => by unfold fromOps2 at h3; omega⟩⟩
   ·unfold ownE at he
    have := mem_endE he
    exact ⟨this.2, .inl this.1⟩
  obtain ⟨h1, h2⟩ := key
  have hto : (0 : Int) ≤ e.2.1 ∧ e.2.1 < f.vars.length := by rw [h1]; exact ⟨h0, hdr⟩
  refine ⟨hto.1, hto.2, ?_, ?_, by rw [h1]; exact hd, ?_, by rw [h1, hm]; dsimp only; omega, ?_⟩
  ·rcases h2 with h2 | ⟨v, hv, h2, _⟩
   ·rw [h2]; unfold n0; omega
   ·rw [h2]; exact (hasV_rng (h.F.args v hv)).1
  ·rcases h2 with h2 | ⟨v, hv, h2, _⟩
   ·rw [h2]; exact Int.le_refl _
   ·rw [h2]; have := (hasV_rng (h.F.args v hv)).2; omega
  ·intro hl
   rcases h2 with h2 | ⟨v, hv, h2, h3, h4⟩
   ·rw [h2] at hl; unfold n0 at hl; omega
   ·rw [h2]; exact arg_ty h h3 hd hv h4
  ·rcases h2 with h2 | ⟨v, hv, h2, _⟩
   ·rw [h2, h1]; unfold n0; omega
   ·rw [h2, h1]; exact arg_ne h h0 hv
 ·cases he
theorem mem_insE {f : PFunc} {l : List Rng} {up : Bool} {i : Nat} {xs : List PInst} {e : Edge} : e ∈ insE f l up i xs ↔ ∃ (k : Nat) (x : PInst), xs[k]? = some x ∧ e ∈ stepE f l up x i k := by
 unfold insE
 rw [List.mem_flatMap]
 constructor
 ·rintro ⟨⟨x, k⟩, h1, h2⟩; exact ⟨k, x, List.mem_zipIdx_iff_getElem?.1 h1, h2⟩
 ·rintro ⟨k, x, h1, h2⟩; exact ⟨(x, k), List.mem_zipIdx_iff_getElem?.2 h1, h2⟩
theorem mem_blksE {f : PFunc} {l : List Rng} {up : Bool} {e : Edge} : e ∈ blksE f l up f.blocks.length ↔ ∃ (i : Nat) (b : PBlock), f.blocks[i]? = some b ∧ e ∈ insE f l up i b.insts := by
 unfold blksE
 rw [qi, List.mem_flatMap]
 constructor
 ·rintro ⟨⟨b, i⟩, h1, h2⟩; exact ⟨i, b, List.mem_zipIdx_iff_getElem?.1 h1, h2⟩
 ·rintro ⟨i, b, h1, h2⟩; exact ⟨(b, i), List.mem_zipIdx_iff_getElem?.2 h1, h2⟩
theorem edge_ok {f : PFunc} (hF : RuleF f) (h : (typedB f && singB f) = true) (l : List Rng) (up : Bool) : ∀ e ∈ edgesE f l up, EdgeOk f e := fun e he => by
 rcases List.mem_append.1 he with he | he
 ·unfold varsE at he
  obtain ⟨k, hk, he⟩ := List.mem_flatMap.1 he
  rw [List.mem_range] at hk
  unfold varE at he
  split at he
  ·rename_i hc
   unfold ownE at he
   obtain ⟨h1, h2⟩ := mem_endE he
   unfold n0 at h1
   refine ⟨by omega, by omega, by omega, by omega, by rw [h2]; exact hc.2, fun hl => by omega, by rw [h2]; omega, by omega⟩
  ·cases he
 ·obtain ⟨i, b, hb, he⟩ := mem_blksE.1 he
  obtain ⟨k, x, hx, he⟩ := mem_insE.1 he
  exact step_ok (inst_s hF h hb hx) he
def outOf (op : Int) : Prop := op = 12 ∨ op = 15 ∨ op = 25 ∨ op = 26
instance (op : Int) : Decidable (outOf op) := by unfold outOf; infer_instance
theorem outOf_makes {op : Int} (h : outOf op) : makesB op = true ∧ makesT op ≠ 1 ∧ op ≠ 1 ∧ 1 ≤ (takesL op).length := by unfold outOf at h; rcases h with rfl | rfl | rfl | rfl <;> decide
theorem edge_in {f : PFunc} (hF : RuleF f) (h : (typedB f && singB f) = true) (l : List Rng) (up : Bool) {i k : Nat} {b : PBlock} {x : PInst} (hb : f.blocks[i]? = some b) (hx : b.insts[k]? = some x) (ho : outOf x.op) : (x0 x, x.dst, 0) ∈ edgesE f l up := by
 have hI := inst_s hF h hb hx
 obtain ⟨h1, h2, h3, _⟩ := outOf_makes ho
 refine List.mem_append_right _ (mem_blksE.2 ⟨i, b, hb, mem_insE.2 ⟨k, x, hx, ?_⟩⟩)
 have h0 : 0 ≤ x.dst := by
  rcases hI.F.dst with ⟨h, _⟩ | ⟨_, _, h⟩
  ·rw [h1] at h; cases h
  ·exact (hasV_rng h).1
 have hty : tyV f x.dst ≠ 1 := by
  have ht := hI.typed
  unfold instT at ht
  rw [if_neg h3, qo, h1] at ht
  have : kindV f x.dst = makesT x.op := by simpa using ht.2
  intro e
  exact h2 (this.symm.trans e)
 unfold stepE
 rw [if_pos ⟨h0, hty⟩]
 refine List.mem_append_left _ ?_
 unfold outOf at ho
 unfold instE
 rw [if_neg (by omega)]
 by_cases c1 : x.op = 1 ∨ x.op = 12 ∨ x.op = 15
 ·rw [if_pos c1]; exact List.mem_singleton.2 rfl
 ·rw [if_neg c1, if_neg (by omega), if_neg (by omega), if_neg (by omega)]
  by_cases c25 : x.op = 25
  ·rw [if_pos c25]; exact .head _
  ·rw [if_neg c25, if_pos (by omega)]; exact .head _
def lives23 : PFunc := ⟨[⟨⟨#[110]⟩, 0⟩, ⟨⟨#[107]⟩, 0⟩, ⟨⟨#[109]⟩, 0⟩], [0], [⟨⟨#[97]⟩, [], [⟨0, 1, [], 3⟩, ⟨3, 2, [0, 1], 0⟩], ⟨2, 2, 0, 0⟩⟩]⟩
theorem small23 : small lives23 := by unfold small lives23; simp [smallBlk]; decide
theorem edges23 : edgesB lives23 [(0, 9), (3, 3), (-3, 6)] true = [(3, 0, 9), (3, 1, 3), (3, 1, 3), (0, 2, -3), (3, 2, 6)] := by decide +kernel
theorem eq_edge (a b c a' b' c' : Int) (w : World) : (Op.equalIn 10000 53 (.agg [.int .i64 a, .int .i64 b, .int .i64 c].toArray) (.agg [.int .i64 a', .int .i64 b', .int .i64 c'].toArray)).run Tryz.prog w = .ok (decide (a = a' ∧ b = b' ∧ c = c')) w := by
 have hS : Tryz.prog.underlying 53 = some (.struct (Tryz.prog.fieldsOf 53)) := by kernel_rfl
 have hp : Tryz.prog.stoodInHeld 53 = false := by kernel_rfl
 rw [show (10000 : Nat) = 9999 + 1 from rfl, run_equalIn_agg w 9999 _ _ _ hS hp]
 simp only [Program.fieldsOf, underlying53]
 simp [Op.eqFields, part, isAgg3, isAgg2, run_equalIn_int, underlying3, underlying2]
 by_cases h1 : a = a' <;> by_cases h2 : b = b' <;> by_cases h3 : c = c' <;> simp [h1, h2, h3]
theorem lives23_spec (hL : Letters E) : AFun Tryz.prog E 21 [] (.bool true) := by
 have ha := upper_spec (E := E) lives23 small23 hL [(0, 9), (3, 3), (-3, 6)] (by intro r hr; simp at hr; rcases hr with rfl | rfl | rfl <;> exact ⟨by decide, by decide⟩)
 rw [edges23] at ha
 refine zp func21 rfl (by decide) rfl<|zb<|z7 rfl<|z2 (zAb rfl)<|z6<|zb<|z7 rfl<|z2 (zz (cps := [(0, [_])]) (rs := [_, .int .i64 0]) pl56 rfl rfl rfl)<|z2 (zz (cps := [(0, [_])]) (rs := [_, .int .i64 0]) pl56 rfl rfl rfl)<|z2 (zz (cps := [(0, [_])]) (rs := [_, .int .i64 0]) pl56 rfl rfl rfl)<|y5 (rows := [[_, _], [_, _], [_, _]]) ps22_3 rfl rfl rfl rfl rfl<|y5 (rows := [[_]]) ps23_1 rfl rfl rfl rfl rfl<|z2 (zz (cps := [(0, [_]), (1, [_]), (3, [_])]) (rs := [_, _, .raw (.slice none 0 0), _]) pl33 rfl rfl rfl)<|zf (GStep.slot (t := 9) rfl (Imp.agg (.cons (.refl _) (.cons (.refl _) (.cons (.nil 1) (.cons (.refl _) .nil))))))<|y5 (rows := [[_], [_]]) ps23_2 rfl rfl rfl rfl rfl<|z2 (zz (cps := [(0, [_]), (1, [_]), (2, [_])]) (rs := [_, _, _, .int .i64 0]) pl33 rfl rfl rfl)<|y5 (rows := [[_, _, _, _], [_, _, _, _]]) ps60_2 rfl rfl rfl rfl rfl<|z2 (zz (cps := [(0, [_]), (1, [_])]) (rs := [_, _, .int .i64 0, .int .i64 0]) pl64 rfl rfl rfl)<|z2 (zz (cps := [(0, [_]), (2, [_]), (3, [_, _, _, _])]) (rs := [_, .raw (.slice none 0 0), _, _, _, _, _]) pl66 rfl rfl rfl)<|zf (GStep.slot (t := 14) rfl (Imp.agg (.cons (.refl _) (.cons (.nil 3) (.cons (.refl _) (.cons (.refl _) (.cons (.refl _) (.cons (.refl _) (.cons (.refl _) .nil)))))))))<|y5 (rows := [[_, _, _, _, _, _, _]]) ps24_1 rfl rfl rfl rfl rfl<|z2 (zz (cps := [(0, [_]), (1, [_]), (2, [_])]) (rs := [_, _, _]) pl26 rfl rfl rfl)<|yb (cs := [.raw (.slice none 0 0), .raw (.slice none 0 0), .raw (.slice none 0 0)]) zeroValue26 rfl rfl<|fun i1 => y4 sizeOf26 rfl rfl rfl rfl rfl rfl .head rfl<|zf (yi (t := 1) rfl .head)<|z6<|zb<|z7 rfl<|z2 (zm isAgg26 sizeOf26 rfl rfl)<|z2 (zz (cps := [(0, [_]), (1, [_])]) (rs := [_, _]) pl74 rfl rfl rfl)<|z2 (zz (cps := [(0, [_]), (1, [_])]) (rs := [_, _]) pl74 rfl rfl rfl)<|z2 (zz (cps := [(0, [_]), (1, [_])]) (rs := [_, _]) pl74 rfl rfl rfl)<|y5 (rows := [[_, _], [_, _], [_, _]]) ps41_3 rfl rfl rfl rfl rfl<|zi (ha) rfl<|z2 (zAf rfl)<|z6<|zb<|z7 rfl<|z2 (zMf rfl)<|z2 (y1 underlying42 rfl) ?_
 refine z2 (zAi rfl)<|z6<|zb<|z7 rfl<|z2 (zMi rfl)<|z2 (y3 rfl rfl)<|z2 (zMb rfl)<|za rfl rfl rfl<|z2 (zMf rfl)<|za rfl rfl rfl<|z2 (zMi rfl)<|za rfl rfl rfl<|z2 (Gv.sub rfl rfl (by unfold I64; decide))<|za rfl rfl rfl<|z2 (y6 (j := 3) underlying42 sizeOf53 rfl rfl rfl rfl)<|za rfl rfl rfl<|z2 (zm isAgg53 sizeOf53 rfl rfl)<|za rfl rfl rfl<|z2 (zz (cps := [(0, [_]), (1, [_]), (2, [_])]) (rs := [_, _, _]) pl53 rfl rfl rfl)<|za rfl rfl rfl<|z2 (Gv.eqlP (xs := [.int _ _, .int _ _, .int _ _]) (ys := [.int _ _, .int _ _, .int _ _]) (by kernel_rfl) rfl rfl (fun w => eq_edge _ _ _ _ _ _ w))<|z2 (zPt rfl rfl rfl)<|z2 (zMb rfl)<|za rfl rfl rfl<|z2 (zMf rfl)<|za rfl rfl rfl<|z2 (zMi rfl)<|za rfl rfl rfl<|z2 (Gv.sub rfl rfl (by unfold I64; decide))<|za rfl rfl rfl<|z2 (y6 (j := 4) underlying42 sizeOf53 rfl rfl rfl rfl)<|za rfl rfl rfl<|z2 (zm isAgg53 sizeOf53 rfl rfl)<|za rfl rfl rfl<|z2 (zz (cps := [(0, [_]), (1, [_]), (2, [_])]) (rs := [_, _, _]) pl53 rfl rfl rfl)<|za rfl rfl rfl<|z2 (Gv.eqlP (xs := [.int _ _, .int _ _, .int _ _]) (ys := [.int _ _, .int _ _, .int _ _]) (by kernel_rfl) rfl rfl (fun w => eq_edge _ _ _ _ _ _ w))<|z2 (zPt rfl rfl rfl)<|z2 (zAb rfl)<|z6<|zj ?_
 refine zl (x := .bool _) rfl ?_
 rfl
theorem edges_few {f : PFunc} (hf : small f) (l : List Rng) (up : Bool) : (edgesE f l up).length ≤ 80000000 := by
 have hn := hf.2.2.1
 have a := varsE_len f l up f.vars.length
 have b := blksE_len f l up (m := 1000) (fun b hb => by have := (hf.2.2.2.2 b hb).2.2.1; omega) f.blocks.length (Nat.le_refl _)
 have e := hf.1
 unfold edgesE
 rw [qj]
 have : f.blocks.length * (3 * 1000) ≤ 1000 * 3000 := Nat.mul_le_mul (by omega) (by omega)
 omega
def hitE (x : PInst) (e : Edge) : Bool := decide (e.2.1 = x.dst) && (decide (e.1 = x0 x) && decide (e.2.2 = 0))
theorem countP_take {α : Type} {p : α → Bool} {l : List α} {k : Nat} (h : k < l.length) : (l.take (k + 1)).countP p = (l.take k).countP p + if p l[k] = true then 1 else 0 := by
 rw [qe h, List.countP_append, List.countP_singleton]
theorem hit_some {x : PInst} {es : List Edge} (h : (x0 x, x.dst, 0) ∈ es) : 1 ≤ es.countP (hitE x) := by
 have : 0 < es.countP (hitE x) := List.countP_pos_iff.2 ⟨_, h, by unfold hitE; simp⟩
 omega
set_option maxHeartbeats 800000000 in
theorem diffApart_law (f : PFunc) (hw : wFunc f) (hL : Letters E) (l : List Rng) (ho : ∀ r ∈ l, ok64 r) : AFun Tryz.prog E 5 [.agg (encF f), .fro 2 (l.map encZ)] (.bool true) := by
 have hlv := lives23_spec (E := E) hL
 refine zp func5 rfl (by decide) rfl<|zb<|z7 rfl<|yd (cs := _) rfl rfl rfl<|z2 (zAb rfl)<|z6<|zb<|zb<|z7 rfl<|zi (hlv) rfl<|z2 (yj rfl)<|z2 (zMb rfl)<|za rfl rfl rfl<|z2 (zm isAgg26 sizeOf26 rfl rfl)<|za rfl rfl rfl<|zi (lawSingle_spec f hw hL) rfl<|za rfl rfl rfl<|z2 (yj rfl)<|z2 (zPf rfl rfl rfl)<|z2 (zMb rfl)<|zn (s := 29) rfl (fun cs => ?_) (fun cs => ?_)
 ·refine z8 rfl rfl cs<|z8 rfl rfl cs<|z8 rfl rfl cs<|z8 rfl rfl cs<|z8 rfl rfl cs<|z8 rfl rfl cs<|z2 (zPt rfl cs rfl)<|z6<|yo rfl rfl<|zb<|z7 rfl<|zi (hlv) rfl<|z2 (zAb rfl)<|z6<|zj<|zl (x := .bool _) rfl ?_
  rfl
 ·have hS : lawSing f = true := by cases h : lawSing f; rw [h] at cs; simp at cs; rfl
  have hfew : fewB f = true := by cases h : fewB f; unfold lawSing at hS; rw [h] at hS; simp at hS; rfl
  have hsm := ((fewB_iff f).1 hfew).small
  have hs : (typedB f && singB f) = true := by unfold lawSing at hS; rw [hfew] at hS; exact hS
  have hF := ruleF_of hsm hs
  have hvn := hsm.1
  have hbn := hsm.2.2.1
  refine za rfl rfl cs<|z2 (zMf rfl)<|za rfl rfl cs<|z2 (y1 underlying41 rfl)<|za rfl rfl cs<|z2 (zc underlying26 rfl sizeOf22 (by decide) rfl rfl)<|za rfl rfl cs<|z2 (zLf isAgg22 rfl)<|za rfl rfl cs<|z2 (y1 underlying22 rfl)<|za rfl rfl cs<|z2 (yl rfl rfl)<|z2 (zPf rfl cs rfl)<|z6<|zu rfl (fun cn => ?_) (fun cn => ?_)
  ·refine zb<|z7 rfl<|zi (hlv) rfl<|z2 (zAb rfl)<|z6<|zj<|zl (x := .bool _) rfl ?_
   rfl
  ·have hll : l.length = f.vars.length := by have h : (!decide ((l.length : Int) = (f.vars.length : Int))) = false := cn; simp at h; omega
   have hu := upper_spec (E := E) f hsm hL l ho
   have hd := lower_spec (E := E) f hsm hL l ho
   rw [edgesB, if_pos ⟨hs, hll⟩] at hu hd
   have hUok := edge_ok hF hs l true
   have hDok := edge_ok hF hs l false
   have hUl := edges_few hsm l true
   have hDl := edges_few hsm l false
   have hUin := fun i k b x hb hx ho => edge_in hF hs l true (i := i) (k := k) (b := b) (x := x) hb hx ho
   have hDin := fun i k b x hb hx ho => edge_in hF hs l false (i := i) (k := k) (b := b) (x := x) hb hx ho
   obtain ⟨U, hU⟩ : ∃ U, edgesE f l true = U := ⟨_, rfl⟩
   obtain ⟨D, hD⟩ : ∃ D, edgesE f l false = D := ⟨_, rfl⟩
   rw [hU] at hu hUok hUl
   rw [hD] at hd hDok hDl
   simp only [hU] at hUin
   simp only [hD] at hDin
   refine ze<|zb<|yc (fun j => false) (by kernel_rfl) rfl (zo (.rest _))<|zTk (i := 0) rfl (zm isAgg26 sizeOf26 rfl rfl)<|zTk (i := 1) rfl (zMf rfl)<|zTk (i := 3) rfl (zm isAgg26 sizeOf26 rfl rfl)<|zTk (i := 4) rfl (zMf rfl)<|zOn (i := 2) rfl<|zi (hu) rfl<|z6<|zOn (i := 5) rfl<|zi (hd) rfl<|z6<|zTk (i := 6) rfl (zAf rfl)<|zTk (i := 7) rfl (zAf rfl)<|zDn<|zb<|zb<|z7 rfl<|z2 (zMf rfl)<|z2 (zMf rfl)<|y5 (rows := [[_], [_]]) ps51_2 rfl rfl rfl rfl rfl<|z2 (Gv.lenF underlying51 rfl)<|z2 (zMi rfl)<|z6<|zh<|y8 (γ := Nat) [2, 5, 6, 46, 47] (fun s => [(48, .int .i64 s)]) (fun s => []) (fun s => s ≤ 2) (fun s => 2 - s) 0 zR1 zLe (qg _) ?_
   rintro s hs2
   refine zb<|z7 rfl<|z2 (yf rfl rfl)<|z6<|zb<|zx rfl (fun c2 => ?_) (fun c2 => ?_)
   ·have hs3 : s < 2 := by simp at c2; omega
    obtain ⟨es, hget, hEok, hEl⟩ : ∃ es : List Edge, ([[AV.fro 3 (U.map encE)], [AV.fro 3 (D.map encE)]] : List (List AV))[s]? = some [AV.fro 3 (es.map encE)] ∧ (∀ e ∈ es, EdgeOk f e) ∧ es.length ≤ 80000000 := by
     rcases (by omega : s = 0 ∨ s = 1) with rfl | rfl
     ·exact ⟨U, rfl, hUok, hUl⟩
     ·exact ⟨D, rfl, hDok, hDl⟩
    refine ze<|zb<|zh<|zb<|z7 rfl<|z2 (Gv.idxF (j := s) underlying51 sizeOf42 rfl rfl rfl hget)<|z2 (zLf isAgg42 rfl)<|z2 (zAf rfl)<|z6<|zb<|z7 rfl<|z2 (zMf rfl)<|z2 (y1 underlying42 rfl)<|z2 (zMi rfl)<|z6<|zh<|y8 (γ := Nat) [2, 5, 6, 46, 47, 48, 52, 53] (fun k => [(54, .int .i64 k)]) (fun k => []) (fun k => k ≤ es.length) (fun k => es.length - k) 0 zR1 zLe (qg _) ?_
    rintro k hk
    refine zb<|z7 rfl<|z2 (yf rfl rfl)<|z6<|zb<|zx rfl (fun ck => ?_) (fun ck => ?_)
    ·have hk2 : k < es.length := by simp at ck; omega
     obtain ⟨e, hek⟩ : ∃ e, es[k] = e := ⟨_, rfl⟩
     have hge : es[k]? = some e := by rw [qd hk2, hek]
     obtain ⟨t0, t1, f0, f1, tt, ft, np, ne⟩ := hEok e (hek ▸ qh hk2)
     have htl : e.2.1.toNat < f.vars.length := by omega
     have hty : tyV f e.2.1 = f.vars[e.2.1.toNat].ty := by have := tyV_get (f := f) htl; rwa [Int.toNat_of_nonneg t0] at this
     have hmk := Maker_spec (E := E) f hsm e.2.1.toNat
     rw [Int.toNat_of_nonneg t0] at hmk
     refine ze<|zb<|zh<|zb<|z7 rfl<|z2 (y6 (j := k) underlying42 sizeOf53 rfl rfl rfl hge)<|z2 (zm isAgg53 sizeOf53 rfl rfl)<|yb (cs := [.int .i64 0, .int .i64 0, .int .i64 0]) zeroValue53 rfl rfl<|fun i10 => y4 sizeOf53 rfl rfl rfl rfl rfl rfl .head rfl<|zf (yi (t := 10) rfl .head)<|z6<|zb<|zb<|yp (γ := Bool) [2, 5, 6, 10, 46, 47, 48, 52, 53, 54] (fun u => [(109, .bool u)]) (fun u => []) (fun u => u = false) ?_ (fun _ _ h => h) ?_
     ·refine z7 rfl<|z2 (zc underlying53 rfl sizeOf3 (by decide) rfl rfl)<|z2 (zLi isAgg3 rfl)<|z2 (yf rfl rfl)<|z2 (zMb rfl)<|za rfl rfl (qn (by omega))<|z2 (zc underlying53 rfl sizeOf3 (by decide) rfl rfl)<|za rfl rfl (qn (by omega))<|z2 (zLi isAgg3 rfl)<|za rfl rfl (qn (by omega))<|z2 (zc underlying26 rfl sizeOf22 (by decide) rfl rfl)<|za rfl rfl (qn (by omega))<|z2 (zLf isAgg22 rfl)<|za rfl rfl (qn (by omega))<|z2 (y1 underlying22 rfl)<|za rfl rfl (qn (by omega))<|z2 (q6 rfl rfl)<|z2 (zPf rfl (qn (by omega)) rfl)<|z2 (zMb rfl)<|za rfl rfl (qn (by omega))<|z2 (zc underlying53 rfl sizeOf3 (by decide) rfl rfl)<|za rfl rfl (qn (by omega))<|z2 (zLi isAgg3 rfl)<|za rfl rfl (qn (by omega))<|z2 (yf rfl rfl)<|z2 (zPf rfl (qn (by omega)) rfl)<|z2 (zMb rfl)<|za rfl rfl (qn (by omega))<|z2 (zc underlying53 rfl sizeOf3 (by decide) rfl rfl)<|za rfl rfl (qn (by omega))<|z2 (zLi isAgg3 rfl)<|za rfl rfl (qn (by omega))<|z2 (zc underlying26 rfl sizeOf22 (by decide) rfl rfl)<|za rfl rfl (qn (by omega))<|z2 (zLf isAgg22 rfl)<|za rfl rfl (qn (by omega))<|z2 (y1 underlying22 rfl)<|za rfl rfl (qn (by omega))<|z2 (yw rfl rfl)<|z2 (zPf rfl (qn (by omega)) rfl)<|z2 (zMb rfl) ?_
      refine za rfl rfl (qn (by omega))<|z2 (zc underlying26 rfl sizeOf22 (by decide) rfl rfl)<|za rfl rfl (qn (by omega))<|z2 (zLf isAgg22 rfl)<|za rfl rfl (qn (by omega))<|z2 (zc underlying53 rfl sizeOf3 (by decide) rfl rfl)<|za rfl rfl (qn (by omega))<|z2 (zLi isAgg3 rfl)<|za rfl rfl (qn (by omega))<|z2 (y6 (j := e.2.1.toNat) underlying22 sizeOf56 rfl rfl (by omega) (qd htl))<|za rfl rfl (qn (by omega))<|z2 (zc underlying56 rfl sizeOf54 (by decide) rfl rfl)<|za rfl rfl (qn (by omega))<|z2 (zLi isAgg54 rfl)<|za rfl rfl (qn (by omega))<|z2 (y3 rfl rfl)<|z2 (zPf rfl (qn (by omega)) rfl)<|z2 (zMb rfl)<|za rfl rfl (qn (by rw [← hty]; exact tt))<|z2 (zc underlying53 rfl sizeOf3 (by decide) rfl rfl)<|za rfl rfl (qn (by rw [← hty]; exact tt))<|z2 (zLi isAgg3 rfl)<|za rfl rfl (qn (by rw [← hty]; exact tt))<|z2 (zc underlying26 rfl sizeOf22 (by decide) rfl rfl)<|za rfl rfl (qn (by rw [← hty]; exact tt))<|z2 (zLf isAgg22 rfl)<|za rfl rfl (qn (by rw [← hty]; exact tt))<|z2 (y1 underlying22 rfl)<|za rfl rfl (qn (by rw [← hty]; exact tt))<|z2 (yf rfl rfl)<|za rfl rfl (qn (by rw [← hty]; exact tt))<|z2 (zMb rfl)<|zn (s := 99) rfl (fun cf => ?_) (fun cf => ?_)
      ·have hfl : e.1 < f.vars.length := of_decide_eq_true cf
       have hfn : e.1.toNat < f.vars.length := by omega
       have hfy : tyV f e.1 = f.vars[e.1.toNat].ty := by have := tyV_get (f := f) hfn; rwa [Int.toNat_of_nonneg f0] at this
       refine za rfl rfl cf<|z2 (zc underlying26 rfl sizeOf22 (by decide) rfl rfl)<|za rfl rfl cf<|z2 (zLf isAgg22 rfl)<|za rfl rfl cf<|z2 (zc underlying53 rfl sizeOf3 (by decide) rfl rfl)<|za rfl rfl cf<|z2 (zLi isAgg3 rfl)<|za rfl rfl cf<|z2 (y6 (j := e.1.toNat) underlying22 sizeOf56 rfl rfl (by omega) (qd hfn))<|za rfl rfl cf<|z2 (zc underlying56 rfl sizeOf54 (by decide) rfl rfl)<|za rfl rfl cf<|z2 (zLi isAgg54 rfl)<|za rfl rfl cf<|z2 (y3 rfl rfl)<|za rfl rfl (qn (by rw [← hty]; exact tt))<|z2 (zPt rfl cf rfl)<|z2 (zPf rfl (qn (by rw [← hty]; exact tt)) rfl)<|z6 ?_
       exact ⟨_, zR10, zR1, zLe, qn (by rw [← hfy]; exact ft hfl)⟩
      ·refine z8 rfl rfl cf<|z8 rfl rfl cf<|z8 rfl rfl cf<|z8 rfl rfl cf<|z8 rfl rfl cf<|z8 rfl rfl cf<|z8 rfl rfl cf<|z8 rfl rfl cf<|za rfl rfl (qn (by rw [← hty]; exact tt))<|z2 (zPf rfl cf rfl)<|z2 (zPf rfl (qn (by rw [← hty]; exact tt)) rfl)<|z6 ?_
       exact ⟨_, zR10, zR1, zLe, rfl⟩
     ·rintro u hu2
      subst hu2
      refine yg rfl rfl<|ze<|zb<|z7 rfl<|z2 (zm isAgg26 sizeOf26 rfl rfl)<|z2 (zc underlying53 rfl sizeOf3 (by decide) rfl rfl)<|z2 (zLi isAgg3 rfl)<|zi (hmk) rfl<|z2 (zq (v := .tup _) rfl)<|z2 (yh (v := .int _ _) rfl rfl)<|z2 (yh (v := .int _ _) rfl rfl)<|z2 (zAi rfl)<|z2 (zAi rfl)<|z6<|zb<|yp (γ := Bool) [2, 5, 6, 46, 47, 48, 52, 53, 54] (fun u => [(129, .bool u)]) (fun u => []) (fun u => u = false) ?_ (fun _ _ h => h) ?_
      ·refine z7 rfl<|z2 (zMi rfl)<|z2 (q6 rfl rfl)<|z2 (zMb rfl)<|zn (s := 119) rfl (fun cm => ?_) (fun cm => ?_)
       ·have hm0 : 0 ≤ (makerT f e.2.1).1 := of_decide_eq_true cm
        refine za rfl rfl cm<|z2 (zMi rfl)<|za rfl rfl cm<|z2 (yf rfl rfl)<|z2 (zPt rfl cm rfl)<|z2 (zMb rfl)<|za rfl rfl (qn (fun h => np ⟨hm0, h⟩))<|z2 (zc underlying53 rfl sizeOf3 (by decide) rfl rfl)<|za rfl rfl (qn (fun h => np ⟨hm0, h⟩))<|z2 (zLi isAgg3 rfl)<|za rfl rfl (qn (fun h => np ⟨hm0, h⟩))<|z2 (zc underlying53 rfl sizeOf3 (by decide) rfl rfl)<|za rfl rfl (qn (fun h => np ⟨hm0, h⟩))<|z2 (zLi isAgg3 rfl)<|za rfl rfl (qn (fun h => np ⟨hm0, h⟩))<|z2 (y3 rfl rfl)<|z2 (zPf rfl (qn (fun h => np ⟨hm0, h⟩)) rfl)<|z6 ?_
        exact ⟨_, zR9, zR1, zLe, qn ne⟩
       ·refine z8 rfl rfl cm<|z8 rfl rfl cm<|z2 (zPf rfl cm rfl)<|z2 (zMb rfl)<|za rfl rfl rfl<|z2 (zc underlying53 rfl sizeOf3 (by decide) rfl rfl)<|za rfl rfl rfl<|z2 (zLi isAgg3 rfl)<|za rfl rfl rfl<|z2 (zc underlying53 rfl sizeOf3 (by decide) rfl rfl)<|za rfl rfl rfl<|z2 (zLi isAgg3 rfl)<|za rfl rfl rfl<|z2 (y3 rfl rfl)<|z2 (zPf rfl rfl rfl)<|z6 ?_
        exact ⟨_, zR9, zR1, zLe, qn ne⟩
      ·rintro u hu2
       subst hu2
       refine yg rfl rfl<|ze<|z7 rfl<|z2 (y9 rfl rfl (by unfold I64; omega))<|z2 (zMi rfl)<|z6 ?_
       exact ⟨k + 1, zR8, zR1, zLe, hk2, by omega⟩
    ·refine y7<|z7 rfl<|z2 (y9 rfl rfl (by unfold I64; omega))<|z2 (zMi rfl)<|z6 ?_
     exact ⟨s + 1, zR5, zR1, zLe, hs3, by omega⟩
   ·refine y7<|zb<|zb<|z7 rfl<|z2 (zc underlying26 rfl sizeOf24 (by decide) rfl rfl)<|z2 (zLf isAgg24 rfl)<|z2 (y1 underlying24 rfl)<|z2 (zMi rfl)<|z6<|zh<|y8 (γ := Nat) [5, 6, 133, 134] (fun i => [(135, .int .i64 i)]) (fun i => []) (fun i => i ≤ f.blocks.length) (fun i => f.blocks.length - i) 0 zR1 zLe (qg _) ?_
    rintro i hi
    refine zb<|z7 rfl<|z2 (yf rfl rfl)<|z6<|zb<|zx rfl (fun ci => ?_) (fun ci => ?_)
    ·have hi2 : i < f.blocks.length := by simp at ci; omega
     obtain ⟨b, hbi⟩ : ∃ b, f.blocks[i] = b := ⟨_, rfl⟩
     have hget : f.blocks[i]? = some b := by rw [qd hi2, hbi]
     obtain ⟨hb0, hb1, hb2, hb3, hb4⟩ := hsm.2.2.2.2 b (hbi ▸ qh hi2)
     refine ze<|zb<|zh<|zb<|z7 rfl<|z2 (y6 (j := i) underlying24 sizeOf66 rfl rfl rfl hget)<|z2 (zm isAgg66 sizeOf66 rfl rfl)<|yb (cs := [.str ⟨#[]⟩, .raw (.slice none 0 0), .raw (.slice none 0 0), .int .i64 0, .int .i64 0, .int .i64 0, .int .i64 0]) zeroValue66 rfl rfl<|fun i14 => y4 sizeOf66 rfl rfl rfl rfl rfl rfl .head rfl<|zf (yi (t := 14) rfl .head)<|z6<|zb<|z7 rfl<|z2 (zc underlying66 rfl sizeOf60 (by decide) rfl rfl)<|z2 (zLf isAgg60 rfl)<|z2 (y1 underlying60 rfl)<|z2 (zMi rfl)<|z6<|zh<|y8 (γ := Nat) [5, 6, 133, 134, 135, 140, 141] (fun j => [(142, .int .i64 j)]) (fun j => []) (fun j => j ≤ b.insts.length) (fun j => b.insts.length - j) 0 zR1 zLe (qg _) ?_
     rintro j hj
     refine zb<|z7 rfl<|z2 (yf rfl rfl)<|z6<|zb<|zx rfl (fun cj => ?_) (fun cj => ?_)
     ·have hj2 : j < b.insts.length := by simp at cj; omega
      obtain ⟨x, hx⟩ : ∃ x, b.insts[j] = x := ⟨_, rfl⟩
      have hxg : b.insts[j]? = some x := by rw [qd hj2, hx]
      refine ze<|zb<|zh<|zb<|z7 rfl<|z2 (y6 (j := j) underlying60 sizeOf33 rfl rfl rfl hxg)<|z2 (zm isAgg33 sizeOf33 rfl rfl)<|yb (cs := [.int .i64 0, .int .i64 0, .raw (.slice none 0 0), .int .i64 0]) zeroValue33 rfl rfl<|fun i16 => y4 sizeOf33 rfl rfl rfl rfl rfl rfl .head rfl<|zf (yi (t := 16) rfl .head)<|z6<|zb<|zb<|yp (γ := Bool) [5, 6, 16, 133, 134, 135, 140, 141, 142] (fun u => [(163, .bool u)]) (fun u => []) (fun u => u = !decide (outOf x.op)) ?_ (fun _ _ h => h) ?_
      ·refine z7 rfl<|z2 (zc underlying33 rfl sizeOf31 (by decide) rfl rfl)<|z2 (zLi isAgg31 rfl)<|z2 (yl rfl rfl)<|z2 (zMb rfl)<|zn (s := 149) rfl (fun c1 => ?_) (fun c1 => ?_)
       ·refine za rfl rfl c1<|z2 (zc underlying33 rfl sizeOf31 (by decide) rfl rfl)<|za rfl rfl c1<|z2 (zLi isAgg31 rfl)<|za rfl rfl c1<|z2 (yl rfl rfl)<|z2 (zPt rfl c1 rfl)<|z2 (zMb rfl)<|zn (s := 154) rfl (fun c2 => ?_) (fun c2 => ?_)
        ·refine za rfl rfl c2<|z2 (zc underlying33 rfl sizeOf31 (by decide) rfl rfl)<|za rfl rfl c2<|z2 (zLi isAgg31 rfl)<|za rfl rfl c2<|z2 (yl rfl rfl)<|z2 (zPt rfl c2 rfl)<|z2 (zMb rfl)<|zn (s := 159) rfl (fun c3 => ?_) (fun c3 => ?_)
         ·refine za rfl rfl c3<|z2 (zc underlying33 rfl sizeOf31 (by decide) rfl rfl)<|za rfl rfl c3<|z2 (zLi isAgg31 rfl)<|za rfl rfl c3<|z2 (yl rfl rfl)<|z2 (zPt rfl c3 rfl)<|z6 ?_
          exact ⟨_, zR9, zR1, zLe, by simp_all [outOf]⟩
         ·refine z8 rfl rfl c3<|z8 rfl rfl c3<|z8 rfl rfl c3<|z2 (zPf rfl c3 rfl)<|z6 ?_
          exact ⟨_, zR9, zR1, zLe, by simp_all [outOf]⟩
        ·refine z8 rfl rfl c2<|z8 rfl rfl c2<|z8 rfl rfl c2<|z2 (zPf rfl c2 rfl)<|z2 (zMb rfl)<|z8 rfl rfl rfl<|z8 rfl rfl rfl<|z8 rfl rfl rfl<|z2 (zPf rfl rfl rfl)<|z6 ?_
         exact ⟨_, zR9, zR1, zLe, by simp_all [outOf]⟩
       ·refine z8 rfl rfl c1<|z8 rfl rfl c1<|z8 rfl rfl c1<|z2 (zPf rfl c1 rfl)<|z2 (zMb rfl)<|z8 rfl rfl rfl<|z8 rfl rfl rfl<|z8 rfl rfl rfl<|z2 (zPf rfl rfl rfl)<|z2 (zMb rfl)<|z8 rfl rfl rfl<|z8 rfl rfl rfl<|z8 rfl rfl rfl<|z2 (zPf rfl rfl rfl)<|z6 ?_
        exact ⟨_, zR9, zR1, zLe, by simp_all [outOf]⟩
      ·rintro u hu2
       subst hu2
       refine zu rfl (fun co => ?_) (fun co => ?_)
       ·refine y7<|z7 rfl<|z2 (y9 rfl rfl (by unfold I64; omega))<|z2 (zMi rfl)<|z6 ?_
        exact ⟨j + 1, zR7, zR1, zLe, hj2, by omega⟩
       ·have hout : outOf x.op := notdecF co
        have hUi := hit_some (hUin i j b x hget hxg hout)
        have hDi := hit_some (hDin i j b x hget hxg hout)
        have hI := inst_s hF hs hget hxg
        have hal : 1 ≤ x.args.length := by rw [hI.F.len]; exact (outOf_makes hout).2.2.2
        have hx0 : x.args[0]? = some (x0 x) := by unfold x0; rw [qd (by omega)]; rfl
        refine ze<|zb<|z7 rfl<|z2 (zAi rfl)<|z6<|zb<|zb<|z7 rfl<|z2 (zMf rfl)<|z2 (y1 underlying42 rfl)<|z2 (zMi rfl)<|z6<|zh<|y8 (γ := Nat) [5, 6, 16, 133, 134, 135, 140, 141, 142, 164, 165] (fun q => [(166, .int .i64 q), (17, .int .i64 ((U.take q).countP (hitE x) : Nat))]) (fun q => []) (fun q => q ≤ U.length) (fun q => U.length - q) 0 zR2 zLe (qg _) ?_
        rintro q hq
        refine zb<|z7 rfl<|z2 (yf rfl rfl)<|z6<|zb<|zx rfl (fun cq => ?_) (fun cq => ?_)
        ·have hq2 : q < U.length := by simp at cq; omega
         obtain ⟨e, heq⟩ : ∃ e, U[q] = e := ⟨_, rfl⟩
         have hct := countP_take (p := hitE x) hq2
         have hcl := List.countP_le_length (p := hitE x) (l := U.take q)
         rw [List.length_take] at hcl
         rw [heq] at hct
         refine ze<|zb<|zh<|zb<|z7 rfl<|z2 (y6 (j := q) underlying42 sizeOf53 rfl rfl rfl (by rw [qd hq2, heq]))<|z2 (zm isAgg53 sizeOf53 rfl rfl)<|yb (cs := [.int .i64 0, .int .i64 0, .int .i64 0]) zeroValue53 rfl rfl<|fun i19 => y4 sizeOf53 rfl rfl rfl rfl rfl rfl .head rfl<|zf (yi (t := 19) rfl .head)<|z6<|zb<|yp (γ := Bool) [5, 6, 16, 17, 133, 134, 135, 140, 141, 142, 164, 165, 166] (fun u => [(188, .bool u)]) (fun u => []) (fun u => u = hitE x e) ?_ (fun _ _ h => h) ?_
         ·refine yc (fun j => false) (by kernel_rfl) rfl (zo (.rest _))<|zTk (i := 0) rfl (zc underlying53 rfl sizeOf3 (by decide) rfl rfl)<|zTk (i := 1) rfl (zLi isAgg3 rfl)<|zTk (i := 2) rfl (zc underlying33 rfl sizeOf3 (by decide) rfl rfl)<|zTk (i := 3) rfl (zLi isAgg3 rfl)<|zTk (i := 4) rfl (y3 rfl rfl)<|zTk (i := 5) rfl (zMb rfl)<|qc (s := 175) rfl (fun c4 => ?_) (fun c4 => ?_)
          ·refine zTt (i := 6) rfl rfl rfl c4 (zc underlying53 rfl sizeOf3 (by decide) rfl rfl)<|zTt (i := 7) rfl rfl rfl c4 (zLi isAgg3 rfl)<|zTt (i := 8) rfl rfl rfl c4 (zc underlying33 rfl sizeOf23 (by decide) rfl rfl)<|zTt (i := 9) rfl rfl rfl c4 (zLf isAgg23 rfl)<|zTt (i := 10) rfl rfl rfl c4 (y6 (j := 0) underlying23 sizeOf3 rfl rfl rfl hx0)<|zTt (i := 11) rfl rfl rfl c4 (zLi isAgg3 rfl)<|zTt (i := 12) rfl rfl rfl c4 (y3 rfl rfl)<|zTk (i := 13) rfl (zPt rfl c4 rfl)<|zTk (i := 14) rfl (zMb rfl)<|qc (s := 184) rfl (fun c5 => ?_) (fun c5 => ?_)
           ·refine zTt (i := 15) rfl rfl rfl c5 (zc underlying53 rfl sizeOf2 (by decide) rfl rfl)<|zTt (i := 16) rfl rfl rfl c5 (zLi isAgg2 rfl)<|zTt (i := 17) rfl rfl rfl c5 (y3 rfl rfl)<|zTk (i := 18) rfl (zPt rfl c5 rfl)<|zDn ?_
            exact ⟨_, zR13, zR1, zLe, by unfold hitE; simp_all⟩
           ·refine zTf (i := 15) rfl rfl rfl c5<|zTf (i := 16) rfl rfl rfl c5<|zTf (i := 17) rfl rfl rfl c5<|zTk (i := 18) rfl (zPf rfl c5 rfl)<|zDn ?_
            exact ⟨_, zR13, zR1, zLe, by unfold hitE; simp_all⟩
          ·refine zTf (i := 6) rfl rfl rfl c4<|zTf (i := 7) rfl rfl rfl c4<|zTf (i := 8) rfl rfl rfl c4<|zTf (i := 9) rfl rfl rfl c4<|zTf (i := 10) rfl rfl rfl c4<|zTf (i := 11) rfl rfl rfl c4<|zTf (i := 12) rfl rfl rfl c4<|zTk (i := 13) rfl (zPf rfl c4 rfl)<|zTk (i := 14) rfl (zMb rfl)<|zTf (i := 15) rfl rfl rfl rfl<|zTf (i := 16) rfl rfl rfl rfl<|zTf (i := 17) rfl rfl rfl rfl<|zTk (i := 18) rfl (zPf rfl rfl rfl)<|zDn ?_
           exact ⟨_, zR13, zR1, zLe, by unfold hitE; simp_all⟩
         ·rintro u hu2
          subst hu2
          refine zu rfl (fun ch => ?_) (fun ch => ?_)
          ·refine z7 rfl<|z2 (zMi rfl)<|z2 (y9 rfl rfl (by unfold I64; omega))<|z2 (zAi rfl)<|z6<|z7 rfl<|z2 (y9 rfl rfl (by unfold I64; omega))<|z2 (zMi rfl)<|z6 ?_
           exact ⟨q + 1, zR11, ⟨rfl, by rw [hct, if_pos ch]; rfl, trivial⟩, zLe, hq2, by omega⟩
          ·refine ze<|z7 rfl<|z2 (y9 rfl rfl (by unfold I64; omega))<|z2 (zMi rfl)<|z6 ?_
           exact ⟨q + 1, zR11, ⟨rfl, by rw [hct, if_neg (by rw [ch]; decide)]; rfl, trivial⟩, zLe, hq2, by omega⟩
        ·have hqn : q = U.length := by simp at cq; omega
         rw [hqn, qi]
         refine y7<|zb<|zb<|z7 rfl<|z2 (zMf rfl)<|z2 (y1 underlying42 rfl)<|z2 (zMi rfl)<|z6<|zh<|y8 (γ := Nat) [5, 6, 16, 133, 134, 135, 140, 141, 142, 192, 193] (fun q => [(194, .int .i64 q), (17, .int .i64 ((U.countP (hitE x) + (D.take q).countP (hitE x) : Nat)))]) (fun q => []) (fun q => q ≤ D.length) (fun q => D.length - q) 0 zR2 zLe (qg _) ?_
         rintro q hq
         refine zb<|z7 rfl<|z2 (yf rfl rfl)<|z6<|zb<|zx rfl (fun cq2 => ?_) (fun cq2 => ?_)
         ·have hq2 : q < D.length := by simp at cq2; omega
          obtain ⟨e, heq⟩ : ∃ e, D[q] = e := ⟨_, rfl⟩
          have hct := countP_take (p := hitE x) hq2
          have hcl := List.countP_le_length (p := hitE x) (l := D.take q)
          have hcu := List.countP_le_length (p := hitE x) (l := U)
          rw [List.length_take] at hcl
          rw [heq] at hct
          refine ze<|zb<|zh<|zb<|z7 rfl<|z2 (y6 (j := q) underlying42 sizeOf53 rfl rfl rfl (by rw [qd hq2, heq]))<|z2 (zm isAgg53 sizeOf53 rfl rfl)<|yb (cs := [.int .i64 0, .int .i64 0, .int .i64 0]) zeroValue53 rfl rfl<|fun i21 => y4 sizeOf53 rfl rfl rfl rfl rfl rfl .head rfl<|zf (yi (t := 21) rfl .head)<|z6<|zb<|yp (γ := Bool) [5, 6, 16, 17, 133, 134, 135, 140, 141, 142, 192, 193, 194] (fun u => [(216, .bool u)]) (fun u => []) (fun u => u = hitE x e) ?_ (fun _ _ h => h) ?_
          ·refine yc (fun j => false) (by kernel_rfl) rfl (zo (.rest _))<|zTk (i := 0) rfl (zc underlying53 rfl sizeOf3 (by decide) rfl rfl)<|zTk (i := 1) rfl (zLi isAgg3 rfl)<|zTk (i := 2) rfl (zc underlying33 rfl sizeOf3 (by decide) rfl rfl)<|zTk (i := 3) rfl (zLi isAgg3 rfl)<|zTk (i := 4) rfl (y3 rfl rfl)<|zTk (i := 5) rfl (zMb rfl)<|qc (s := 203) rfl (fun c6 => ?_) (fun c6 => ?_)
           ·refine zTt (i := 6) rfl rfl rfl c6 (zc underlying53 rfl sizeOf3 (by decide) rfl rfl)<|zTt (i := 7) rfl rfl rfl c6 (zLi isAgg3 rfl)<|zTt (i := 8) rfl rfl rfl c6 (zc underlying33 rfl sizeOf23 (by decide) rfl rfl)<|zTt (i := 9) rfl rfl rfl c6 (zLf isAgg23 rfl)<|zTt (i := 10) rfl rfl rfl c6 (y6 (j := 0) underlying23 sizeOf3 rfl rfl rfl hx0)<|zTt (i := 11) rfl rfl rfl c6 (zLi isAgg3 rfl)<|zTt (i := 12) rfl rfl rfl c6 (y3 rfl rfl)<|zTk (i := 13) rfl (zPt rfl c6 rfl)<|zTk (i := 14) rfl (zMb rfl)<|qc (s := 212) rfl (fun c7 => ?_) (fun c7 => ?_)
            ·refine zTt (i := 15) rfl rfl rfl c7 (zc underlying53 rfl sizeOf2 (by decide) rfl rfl)<|zTt (i := 16) rfl rfl rfl c7 (zLi isAgg2 rfl)<|zTt (i := 17) rfl rfl rfl c7 (y3 rfl rfl)<|zTk (i := 18) rfl (zPt rfl c7 rfl)<|zDn ?_
             exact ⟨_, zR13, zR1, zLe, by unfold hitE; simp_all⟩
            ·refine zTf (i := 15) rfl rfl rfl c7<|zTf (i := 16) rfl rfl rfl c7<|zTf (i := 17) rfl rfl rfl c7<|zTk (i := 18) rfl (zPf rfl c7 rfl)<|zDn ?_
             exact ⟨_, zR13, zR1, zLe, by unfold hitE; simp_all⟩
           ·refine zTf (i := 6) rfl rfl rfl c6<|zTf (i := 7) rfl rfl rfl c6<|zTf (i := 8) rfl rfl rfl c6<|zTf (i := 9) rfl rfl rfl c6<|zTf (i := 10) rfl rfl rfl c6<|zTf (i := 11) rfl rfl rfl c6<|zTf (i := 12) rfl rfl rfl c6<|zTk (i := 13) rfl (zPf rfl c6 rfl)<|zTk (i := 14) rfl (zMb rfl)<|zTf (i := 15) rfl rfl rfl rfl<|zTf (i := 16) rfl rfl rfl rfl<|zTf (i := 17) rfl rfl rfl rfl<|zTk (i := 18) rfl (zPf rfl rfl rfl)<|zDn ?_
            exact ⟨_, zR13, zR1, zLe, by unfold hitE; simp_all⟩
          ·rintro u hu2
           subst hu2
           refine zu rfl (fun ch => ?_) (fun ch => ?_)
           ·refine z7 rfl<|z2 (zMi rfl)<|z2 (y9 rfl rfl (by unfold I64; omega))<|z2 (zAi rfl)<|z6<|z7 rfl<|z2 (y9 rfl rfl (by unfold I64; omega))<|z2 (zMi rfl)<|z6 ?_
            exact ⟨q + 1, zR11, ⟨rfl, by rw [hct, if_pos ch]; rfl, trivial⟩, zLe, hq2, by omega⟩
           ·refine ze<|z7 rfl<|z2 (y9 rfl rfl (by unfold I64; omega))<|z2 (zMi rfl)<|z6 ?_
            exact ⟨q + 1, zR11, ⟨rfl, by rw [hct, if_neg (by rw [ch]; decide)]; rfl, trivial⟩, zLe, hq2, by omega⟩
         ·have hqn : q = D.length := by simp at cq2; omega
          rw [hqn, qi]
          refine y7<|zb<|z7 rfl<|z2 (zMi rfl)<|z2 (yf rfl rfl)<|z6<|zu rfl (fun cl => ?_) (fun cl => ?_)
          ·exfalso; have : ((U.countP (hitE x) + D.countP (hitE x) : Nat) : Int) < 2 := of_decide_eq_true cl; omega
          ·refine ze<|z7 rfl<|z2 (y9 rfl rfl (by unfold I64; omega))<|z2 (zMi rfl)<|z6 ?_
           exact ⟨j + 1, zR7, zR1, zLe, hj2, by omega⟩
     ·refine y7<|z7 rfl<|z2 (y9 rfl rfl (by unfold I64; omega))<|z2 (zMi rfl)<|z6 ?_
      exact ⟨i + 1, zR4, zR1, zLe, hi2, by omega⟩
    ·refine y7<|zb<|z7 rfl<|z2 (zAb rfl)<|z6<|zj<|zl (x := .bool _) rfl ?_
     rfl
end Go.Proofs.YtjnpcfpecilejaaGreatDoor
namespace Go.Proofs.YtjnpcfpecilejaaGreatDoor
open Go.Proofs.Tryz
open Go.Proofs Go.Lib Go.Shelf Go.RowKit Go.WideShapes
set_option maxRecDepth 20000
variable {W : World}
theorem decI : Dec Tryz.prog W 3 encI (fun x => (Lit.int .i64 x).wf = true) := Dec.int underlying3
theorem decIs : Dec Tryz.prog W 23 (fun l : List Int => [.fro 1 (l.map encI)]) wL := fun en held fuel cs x h => by
 obtain ⟨l, hl, r⟩ := Dec.slice (k := 1) underlying23 decI (by kernel_rfl) (by decide) en held fuel cs x h
 exact ⟨l, hl.2, r⟩
theorem decVar : Dec Tryz.prog W 56 encVar (fun _ => True) := fun en held fuel cs x h => by
 obtain ⟨xs, n, _, _, hl, hxl, hf⟩ := DataW.trod_struct underlying56 h
 have hl : cs.length = 2 := hl.trans (by kernel_rfl)
 have hxl : xs.length = 2 := hxl
 obtain ⟨a, _, ra⟩ := qa (o := 0) (k := 1) (hf 0 _ rfl) (Dec.str underlying9) (by omega) rfl (by kernel_rfl)
 obtain ⟨b, _, rb⟩ := qa (o := 1) (k := 1) (hf 1 _ rfl) (Dec.int underlying54) (by omega) rfl (by kernel_rfl)
 exact ⟨⟨a, b⟩, trivial, yy (o := 0) ra (yy rb (RepL.fin hl))⟩
theorem decPhi : Dec Tryz.prog W 95 encPhi wPhi := fun en held fuel cs x h => by
 obtain ⟨xs, n, _, _, hl, hxl, hf⟩ := DataW.trod_struct underlying95 h
 have hl : cs.length = 3 := hl.trans (by kernel_rfl)
 have hxl : xs.length = 3 := hxl
 obtain ⟨a, _, ra⟩ := qa (o := 0) (k := 1) (hf 0 _ rfl) decI (by omega) rfl (by kernel_rfl)
 obtain ⟨b, hb, rb⟩ := qa (o := 1) (k := 1) (hf 1 _ rfl) decIs (by omega) rfl (by kernel_rfl)
 obtain ⟨c, hc, rc⟩ := qa (o := 2) (k := 1) (hf 2 _ rfl) decIs (by omega) rfl (by kernel_rfl)
 exact ⟨⟨a, b, c⟩, ⟨hb, hc⟩, yy (o := 0) ra (yy rb (yy rc (RepL.fin hl)))⟩
def wInst (x : PInst) : Prop := wL x.args ∧ (Lit.int .i64 x.num).wf = true
theorem decInst : Dec Tryz.prog W 33 encInst wInst := fun en held fuel cs x h => by
 obtain ⟨xs, n, _, _, hl, hxl, hf⟩ := DataW.trod_struct underlying33 h
 have hl : cs.length = 4 := hl.trans (by kernel_rfl)
 have hxl : xs.length = 4 := hxl
 obtain ⟨a, _, ra⟩ := qa (o := 0) (k := 1) (hf 0 _ rfl) (Dec.int underlying31) (by omega) rfl (by kernel_rfl)
 obtain ⟨b, _, rb⟩ := qa (o := 1) (k := 1) (hf 1 _ rfl) decI (by omega) rfl (by kernel_rfl)
 obtain ⟨c, hc, rc⟩ := qa (o := 2) (k := 1) (hf 2 _ rfl) decIs (by omega) rfl (by kernel_rfl)
 obtain ⟨d, hd, rd⟩ := qa (o := 3) (k := 1) (hf 3 _ rfl) (Dec.int underlying2) (by omega) rfl (by kernel_rfl)
 exact ⟨⟨a, b, c, d⟩, ⟨hc, hd⟩, yy (o := 0) ra (yy rb (yy rc (yy rd (RepL.fin hl))))⟩
theorem decTerm : Dec Tryz.prog W 64 encTerm (fun _ => True) := fun en held fuel cs x h => by
 obtain ⟨xs, n, _, _, hl, hxl, hf⟩ := DataW.trod_struct underlying64 h
 have hl : cs.length = 4 := hl.trans (by kernel_rfl)
 have hxl : xs.length = 3 := hxl
 obtain ⟨a, _, ra⟩ := qa (o := 0) (k := 1) (hf 0 _ rfl) (Dec.int underlying61) (by omega) rfl (by kernel_rfl)
 obtain ⟨b, _, rb⟩ := qa (o := 1) (k := 1) (hf 1 _ rfl) decI (by omega) rfl (by kernel_rfl)
 obtain ⟨c, _, rc⟩ := qa (o := 2) (k := 2) (hf 2 _ rfl) (Dec.pair (k := 1) underlying62 decI (by kernel_rfl) (by kernel_rfl)) (by omega) rfl (by kernel_rfl)
 exact ⟨⟨a, b, c.1, c.2⟩, trivial, yy (o := 0) ra (yy rb (yy rc (RepL.fin hl)))⟩
def NumsI (f : PFunc) : Prop := ∀ b ∈ f.blocks, ∀ x ∈ b.insts, is64 x.num
def wBlkN (b : PBlock) : Prop := wBlk b ∧ ∀ x ∈ b.insts, -9223372036854775808 ≤ x.num ∧ x.num ≤ 9223372036854775807
theorem decBlkN : Dec Tryz.prog W 66 encBlk wBlkN := fun en held fuel cs x h => by
 obtain ⟨xs, n, _, _, hl, hxl, hf⟩ := DataW.trod_struct underlying66 h
 have hl : cs.length = 7 := hl.trans (by kernel_rfl)
 have hxl : xs.length = 4 := hxl
 obtain ⟨a, _, ra⟩ := qa (o := 0) (k := 1) (hf 0 _ rfl) (Dec.str underlying9) (by omega) rfl (by kernel_rfl)
 obtain ⟨b, hb, rb⟩ := qa (o := 1) (k := 1) (hf 1 _ rfl) (Dec.slice (k := 3) underlying59 decPhi (by kernel_rfl) (by decide)) (by omega) rfl (by kernel_rfl)
 obtain ⟨c, hc, rc⟩ := qa (o := 2) (k := 1) (hf 2 _ rfl) (Dec.slice (k := 4) underlying60 decInst (by kernel_rfl) (by decide)) (by omega) rfl (by kernel_rfl)
 obtain ⟨d, _, rd⟩ := qa (o := 3) (k := 4) (hf 3 _ rfl) decTerm (by omega) rfl (by kernel_rfl)
 exact ⟨⟨a, b, c, d⟩, ⟨⟨hb.2, hc.2, hb.1, fun x hx => (hc.1 x hx).1⟩, fun x hx => by simpa [Lit.wf, IntKind.min, IntKind.max, IntKind.signed, IntKind.bits] using (hc.1 x hx).2⟩, yy (o := 0) ra (yy rb (yy rc (yy rd (RepL.fin hl))))⟩
theorem decFN : Dec Tryz.prog W 26 encF (fun f => wFunc f ∧ NumsI f) := fun en held fuel cs x h => by
 obtain ⟨xs, n, _, _, hl, hxl, hf⟩ := DataW.trod_struct underlying26 h
 have hl : cs.length = 3 := hl.trans (by kernel_rfl)
 have hxl : xs.length = 3 := hxl
 obtain ⟨a, ha, ra⟩ := qa (o := 0) (k := 1) (hf 0 _ rfl) (Dec.slice (k := 2) underlying22 decVar (by kernel_rfl) (by decide)) (by omega) rfl (by kernel_rfl)
 obtain ⟨b, hb, rb⟩ := qa (o := 1) (k := 1) (hf 1 _ rfl) decIs (by omega) rfl (by kernel_rfl)
 obtain ⟨c, hc, rc⟩ := qa (o := 2) (k := 1) (hf 2 _ rfl) (Dec.slice (k := 7) underlying24 decBlkN (by kernel_rfl) (by decide)) (by omega) rfl (by kernel_rfl)
 exact ⟨⟨a, b, c⟩, ⟨⟨ha.2, hb, hc.2, fun x hx => (hc.1 x hx).1⟩, fun x hx => (hc.1 x hx).2⟩, yy (o := 0) ra (yy rb (yy rc (RepL.fin hl)))⟩
theorem decRng : Dec Tryz.prog W 74 encZ ok64 := fun en held fuel cs x h => by
 obtain ⟨xs, n, _, _, hl, hxl, hf⟩ := DataW.trod_struct underlying74 h
 have hl : cs.length = 2 := hl.trans (by kernel_rfl)
 have hxl : xs.length = 2 := hxl
 obtain ⟨a, ha, ra⟩ := qa (o := 0) (k := 1) (hf 0 _ rfl) (Dec.int underlying2) (by omega) rfl (by kernel_rfl)
 obtain ⟨b, hb, rb⟩ := qa (o := 1) (k := 1) (hf 1 _ rfl) (Dec.int underlying2) (by omega) rfl (by kernel_rfl)
 exact ⟨(a, b), ⟨by simpa [is64, Lit.wf, IntKind.min, IntKind.max, IntKind.signed, IntKind.bits] using ha, by simpa [is64, Lit.wf, IntKind.min, IntKind.max, IntKind.signed, IntKind.bits] using hb⟩, yy (o := 0) ra (yy rb (RepL.fin hl))⟩
theorem decRngs : Dec Tryz.prog W 41 (fun l : List Rng => [.fro 2 (l.map encZ)]) (fun l => (∀ r ∈ l, ok64 r) ∧ l.length ≤ 9223372036854775807) := fun en held fuel cs x h =>
 Dec.slice (k := 2) underlying41 decRng (by kernel_rfl) (by decide) en held fuel cs x h
theorem of_slice {H : Type} {enc : TypeId × Value → H} {held : Bool} {α : Type} {T e : TypeId} {k : Nat} {g : α → List (List AV)} {ok : α → Prop} {base : Nat} {v : Value} {d : DataW H} {p : List MemPlace} (hd : Dec Tryz.prog W T (fun a => [.fro k (g a)]) ok) (ht : Tryz.prog.underlying T = some (.slice e))
  (hv : Value.okWide Tryz.prog W .any base T v) (h : DataW.Trod enc Tryz.prog W 0 (fun _ => true) held T v d p) : ∃ a, ok a ∧ RepV (I0 W) (.fro k (g a)) v := by
 obtain ⟨a, len, cap, rfl⟩ := okWide_slice ht hv
 obtain ⟨fuel, h⟩ := h
 obtain ⟨a, h1, v, _, e, h2, h3⟩ := hd enc held fuel _ _ h
 cases e
 exact ⟨a, h1, h2⟩
theorem of_struct {H : Type} {enc : TypeId × Value → H} {held : Bool} {α : Type} {T : TypeId} {e : α → List AV} {ok : α → Prop} {fs : Array Field} {base : Nat} {v : Value} {d : DataW H} {p : List MemPlace} (hd : Dec Tryz.prog W T e ok) (ht : Tryz.prog.underlying T = some (.struct fs))
  (hv : Value.okWide Tryz.prog W .any base T v) (h : DataW.Trod enc Tryz.prog W 0 (fun _ => true) held T v d p) : ∃ a, ok a ∧ RepV (I0 W) (.agg (e a)) v := by
 obtain ⟨cs, rfl, _⟩ := okWide_struct ht hv
 obtain ⟨fuel, h⟩ := h
 obtain ⟨a, h1, h2⟩ := hd enc held fuel _ _ h
 exact ⟨a, h1, cs.toList, by simp, h2⟩
theorem xTab : RExtra Tryz.prog Tryz.lays200_ren := ⟨by kernel_rfl, by kernel_rfl, by kernel_rfl, by kernel_rfl, by kernel_rfl, by kernel_rfl, by kernel_rfl, by kernel_rfl⟩
theorem letters_of (h : Lib.VarReads Tryz.prog W "unicode.properties" (Lib.tabData .u8 Lib.propertiesTab)) (h2 : Lib.VarReads Tryz.prog W "unicode.Letter" (Lib.rtabData letterT)) : Letters W :=
 ⟨tabIs_of_reads (g := 0) (by kernel_rfl) (by kernel_rfl) underlying296 underlying5 (by kernel_rfl) (by kernel_rfl) h,
  rvar_of_reads { Tryz.lays200 with } xTab (name := "unicode.Letter") (g := 1) (by kernel_rfl) (by kernel_rfl) h2⟩
end Go.Proofs.YtjnpcfpecilejaaGreatDoor
namespace Go.Proofs.YtjnpcfpecilejaaGreatDoor
open Go.Proofs.Tryz
open Go.Proofs
theorem fMay : Tryz.prog.mayEnter = true := by kernel_rfl
theorem fLift : (Rows.diffApartRow.lifted == Tryz.prog.liftsFinal) = true := by kernel_rfl
theorem fMake : (Tryz.prog.make == some Rows.diffApartRow.make) = true := by kernel_rfl
theorem fLaid : laidOutB Tryz.prog = true := by kernel_rfl
theorem fRow : mapsRowed Tryz.prog = true := by kernel_rfl
theorem fStop : (Tryz.prog.stops == []) = true := by kernel_rfl
theorem fKnob : (Tryz.prog.stopKnobs == []) = true := by kernel_rfl
theorem fKeys : (Rows.diffApartRow.plainKeys == Tryz.prog.plainKeys) = true := by kernel_rfl
theorem fHeard : Tryz.prog.stopsHeard = true := by kernel_rfl
theorem gIn : (Rows.diffApartRow.inPlace == Tryz.prog.inPlace 5) = true := by kernel_rfl
theorem gUn : (Rows.diffApartRow.unfollowed == Tryz.prog.unfollowed 5) = true := by kernel_rfl
theorem gRec : (Rows.diffApartRow.recurses == Tryz.prog.recurses 5) = true := by kernel_rfl
theorem gNam : (Rows.diffApartRow.named == Tryz.prog.varsNamed 5) = true := by kernel_rfl
theorem closed : joinedFacts Tryz.prog 5 Tryz.f5 Rows.diffApartSpec Rows.diffApartRow = true := by
 unfold joinedFacts
 rw [fLaid, fRow, fStop, fKnob, gIn, gUn, gRec, gNam, fKeys, fHeard, fMay, fLift, fMake]
 kernel_rfl
end Go.Proofs.YtjnpcfpecilejaaGreatDoor
