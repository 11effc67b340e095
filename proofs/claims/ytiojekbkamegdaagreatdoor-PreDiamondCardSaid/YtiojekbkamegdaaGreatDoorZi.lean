/- What a cell leads to, if it is numbers or truths, known henceforth; answers looked at less closely. No conditions. -/
import Derived.Test.YtiojekbkamegdaaGreatDoorZh
import Derived.Test.YtiojekbkamegdaaGreatDoorZe
import Derived.Test.YtiojekbkamegdaaGreatDoorZd
import Derived.LaidEqlPtr
set_option linter.unusedVariables false
set_option linter.unusedSimpArgs false
set_option linter.unusedSectionVars false
namespace Go.Proofs.YtiojekbkamegdaaGreatDoor
open Go.Proofs.Tryz
open Go.Proofs Go.Lib Go.Shelf Go.RowKit
set_option maxRecDepth 20000
variable {E : World}
theorem indexFuncP_spec {p : PPhi → Bool} {fn : FuncId} {c : List AV} (xs : List PPhi) (hl : xs.length ≤ 281474976710656) (hp : ∀ x ∈ xs, AFun prog E fn ([.agg (encPhi x)] ++ c) (.bool (p x))) :
  AFun prog E 177 [.fro 3 (xs.map encPhi), .fn fn [] c] (.int .i64 (firstI p xs 0)) := by
 refine zo func177 rfl (by decide) rfl<|zSr<|z2 (zAi rfl)<|z6<|zd<|zSr<|z2 (zMf rfl)<|z2 (y2 underlying51 rfl)<|z2 (zMi rfl)<|z6<|zi<|y5 (γ := Nat) [0, 1, 7] (fun k => [(8, .int .i64 k)]) (fun k => []) (fun k => k ≤ xs.length ∧ (xs.take k).all (fun x => !p x)) (fun k => xs.length - k) 0 zR1 zLe (⟨qt _, rfl⟩) ?_
 rintro k ⟨hk, hall⟩
 refine zSr<|z2 (yb rfl rfl)<|z6<|zd<|zr rfl (fun ck=>?_) (fun ck=>?_)
 ·have hk2 : k < xs.length := by omega
  refine zh<|zd<|zi<|zSr<|z2 (zMi rfl)<|z2 (zAi rfl)<|z6<|zSr<|z2 (yq (v := .fn _ _ _) rfl)<|z2 (zMf rfl)<|z2 (zMi rfl)<|z2 (q5 underlying51 sizeOf81 rfl rfl rfl (qq (by omega)))<|z2 (zp isAgg81 sizeOf81 rfl rfl)<|AOps.callVP rfl (hp _ (qu hk2)) rfl<|z6<|zz rfl (fun cp=>?_) (fun cp=>?_)
  ·refine zSr<|z2 (zMi rfl)<|z2 (zAi rfl)<|z6<|zg<|zk (x := .int _ _) rfl ?_
   rw [firstI_drop p xs k hk hall, List.drop_eq_getElem_cons hk2, firstI, if_pos cp]
  ·refine zh<|zRg<|z2 (zAd rfl rfl)<|z2 (zMi rfl)<|z6 ?_
   exact ⟨k + 1, zR3, zR1, zLe, ⟨hk2, by rw [qr hk2, List.all_append, hall]; simp [cp]⟩, by omega⟩
 ·have hkn : k = xs.length := by omega
  refine y4<|zSr<|z2 (zAi rfl)<|z6<|zg<|zk (x := .int _ _) rfl ?_
  rw [firstI_drop p xs k hk hall, hkn, List.drop_length, firstI]
theorem containsFuncP_spec {p : PPhi → Bool} {fn : FuncId} {c : List AV} (xs : List PPhi) (hl : xs.length ≤ 281474976710656) (hp : ∀ x ∈ xs, AFun prog E fn ([.agg (encPhi x)] ++ c) (.bool (p x))) :
  AFun prog E 215 [.fro 3 (xs.map encPhi), .fn fn [] c] (.bool (xs.any p)) := by
 refine zo func215 rfl (by decide) rfl<|zSr<|z2 (zAb rfl)<|z6<|zSr<|z2 (zMf rfl)<|z2 (yq (v := .fn _ _ _) rfl)<|zf (indexFuncP_spec xs hl hp) rfl<|z2 (q6 rfl rfl)<|z2 (zAb rfl)<|z6<|zg<|zk (x := .bool _) rfl ?_
 rw [firstI_ge]
theorem indexFuncX_spec {p : PInst → Bool} {fn : FuncId} {c : List AV} (xs : List PInst) (hl : xs.length ≤ 281474976710656) (hp : ∀ x ∈ xs, AFun prog E fn ([.agg (encInst x)] ++ c) (.bool (p x))) :
  AFun prog E 164 [.fro 4 (xs.map encInst), .fn fn [] c] (.int .i64 (firstI p xs 0)) := by
 refine zo func164 rfl (by decide) rfl<|zSr<|z2 (zAi rfl)<|z6<|zd<|zSr<|z2 (zMf rfl)<|z2 (y2 underlying52 rfl)<|z2 (zMi rfl)<|z6<|zi<|y5 (γ := Nat) [0, 1, 7] (fun k => [(8, .int .i64 k)]) (fun k => []) (fun k => k ≤ xs.length ∧ (xs.take k).all (fun x => !p x)) (fun k => xs.length - k) 0 zR1 zLe (⟨qt _, rfl⟩) ?_
 rintro k ⟨hk, hall⟩
 refine zSr<|z2 (yb rfl rfl)<|z6<|zd<|zr rfl (fun ck=>?_) (fun ck=>?_)
 ·have hk2 : k < xs.length := by omega
  refine zh<|zd<|zi<|zSr<|z2 (zMi rfl)<|z2 (zAi rfl)<|z6<|zSr<|z2 (yq (v := .fn _ _ _) rfl)<|z2 (zMf rfl)<|z2 (zMi rfl)<|z2 (q5 underlying52 sizeOf61 rfl rfl rfl (qq (by omega)))<|z2 (zp isAgg61 sizeOf61 rfl rfl)<|AOps.callVP rfl (hp _ (qu hk2)) rfl<|z6<|zz rfl (fun cp=>?_) (fun cp=>?_)
  ·refine zSr<|z2 (zMi rfl)<|z2 (zAi rfl)<|z6<|zg<|zk (x := .int _ _) rfl ?_
   rw [firstI_drop p xs k hk hall, List.drop_eq_getElem_cons hk2, firstI, if_pos cp]
  ·refine zh<|zRg<|z2 (zAd rfl rfl)<|z2 (zMi rfl)<|z6 ?_
   exact ⟨k + 1, zR3, zR1, zLe, ⟨hk2, by rw [qr hk2, List.all_append, hall]; simp [cp]⟩, by omega⟩
 ·have hkn : k = xs.length := by omega
  refine y4<|zSr<|z2 (zAi rfl)<|z6<|zg<|zk (x := .int _ _) rfl ?_
  rw [firstI_drop p xs k hk hall, hkn, List.drop_length, firstI]
theorem containsFuncX_spec {p : PInst → Bool} {fn : FuncId} {c : List AV} (xs : List PInst) (hl : xs.length ≤ 281474976710656) (hp : ∀ x ∈ xs, AFun prog E fn ([.agg (encInst x)] ++ c) (.bool (p x))) :
  AFun prog E 108 [.fro 4 (xs.map encInst), .fn fn [] c] (.bool (xs.any p)) := by
 refine zo func108 rfl (by decide) rfl<|zSr<|z2 (zAb rfl)<|z6<|zSr<|z2 (zMf rfl)<|z2 (yq (v := .fn _ _ _) rfl)<|zf (indexFuncX_spec xs hl hp) rfl<|z2 (q6 rfl rfl)<|z2 (zAb rfl)<|z6<|zg<|zk (x := .bool _) rfl ?_
 rw [firstI_ge]
theorem shaped1_spec (f : PFunc) (p : PPhi) (hp : okPhi p) : AFun prog E 216 ([.agg (encPhi p)] ++ [.pf (encF f)]) (.bool (!phiOK f p)) := by
 refine zo func216 rfl (by decide) rfl<|zSr<|y9 (cs := _) rfl rfl rfl<|z2 (zAb rfl)<|z6<|zSr<|z2 (zp isAgg26 sizeOf26 rfl rfl)<|z2 (zp isAgg81 sizeOf81 rfl rfl)<|zf (phi_spec _ _ (by assumption)) rfl<|z2 (yl rfl)<|z2 (zAb rfl)<|z6<|zg<|zk (x := .bool _) rfl ?_
 rfl
theorem shaped2_spec (f : PFunc) (x : PInst) (hx : okL x.args) : AFun prog E 218 ([.agg (encInst x)] ++ [.pf (encF f)]) (.bool (!instOK f x)) := by
 refine zo func218 rfl (by decide) rfl<|zSr<|y9 (cs := _) rfl rfl rfl<|z2 (zAb rfl)<|z6<|zSr<|z2 (zp isAgg26 sizeOf26 rfl rfl)<|z2 (zp isAgg61 sizeOf61 rfl rfl)<|zf (inst_spec _ _ (by assumption)) rfl<|z2 (yl rfl)<|z2 (zAb rfl)<|z6<|zg<|zk (x := .bool _) rfl ?_
 rfl
def blkOK (f : PFunc) (b : PBlock) : Bool := !(b.phis.any fun p => !phiOK f p) && !(b.insts.any fun x => !instOK f x) && termOK f b.term
theorem blk_bad1 {f : PFunc} {b : PBlock} (h : (b.phis.any fun p => !phiOK f p) = true) : blkOK f b = false := by unfold blkOK; rw [h]; rfl
theorem blk_bad2 {f : PFunc} {b : PBlock} (h : (b.insts.any fun x => !instOK f x) = true) : blkOK f b = false := by unfold blkOK; rw [h]; simp
theorem blk_bad3 {f : PFunc} {b : PBlock} (h : (!termOK f b.term) = true) : blkOK f b = false := by unfold blkOK; rw [show termOK f b.term = false by simpa using h]; simp
theorem blk_good {f : PFunc} {b : PBlock} (h1 : (b.phis.any fun p => !phiOK f p) = false) (h2 : (b.insts.any fun x => !instOK f x) = false) (h3 : (!termOK f b.term) = false) : blkOK f b = true := by unfold blkOK; rw [h1, h2, show termOK f b.term = true by simpa using h3]; rfl
def shapedB (f : PFunc) : Bool := decide (NamesP f) && (f.blocks.all (blkOK f) && decide (sumTo f.blocks ≤ 1024))
theorem Shaped_spec (f : PFunc) (hf : okFunc f) (h1 : f.vars.length ≤ 100000000) (h2 : f.blocks.length ≤ 100000000) (hp : f.params.length ≤ 100000000) (hn : okNames f) (hL : Letters E) : AFun prog E 180 [.agg (encF f)] (.bool (shapedB f)) := by
 refine zo func180 rfl (by decide) rfl<|zSr<|y9 (cs := _) rfl rfl rfl<|z2 (zAb rfl)<|z6<|zd<|zSr<|z2 (zp isAgg26 sizeOf26 rfl rfl)<|zf (pnames_spec _ (by omega) (by omega) (by omega) (by assumption) hL) rfl<|z2 (yl rfl)<|z6<|zz rfl (fun cn=>?_) (fun cn=>?_)
 ·refine zSr<|z2 (zAb rfl)<|z6<|zg<|zk (x := .bool _) rfl ?_
  exact jb (by unfold shapedB; rw [show decide (NamesP f) = false by simpa using cn]; rfl)
 ·have hN : NamesP f := by simpa using cn
  have hbl := hN.2.2.1.2.2.2.2
  refine zh<|zSr<|z2 (zAi rfl)<|z6<|zd<|zSr<|z2 (zFF underlying26 rfl sizeOf24 rfl rfl)<|z2 (zLf isAgg24 rfl)<|z2 (y2 underlying24 rfl)<|z2 (zMi rfl)<|z6<|zi<|y5 (γ := Nat) [1, 11, 12] (fun k => [(3, .int .i64 (sumTo (f.blocks.take k))), (13, .int .i64 k)]) (fun k => []) (fun k => k ≤ f.blocks.length ∧ sumTo (f.blocks.take k) ≤ k * 562949953421312 ∧ (f.blocks.take k).all (blkOK f) = true) (fun k => f.blocks.length - k) 0 zR2 zLe (⟨qt _, qt _, rfl⟩) ?_
  rintro k ⟨hk, hsum, hall⟩
  refine zSr<|z2 (yb rfl rfl)<|z6<|zd<|zr rfl (fun ck=>?_) (fun ck=>?_)
  ·have hk2 : k < f.blocks.length := by simp at ck; omega
   obtain ⟨b, hbk⟩ : ∃ b, f.blocks[k] = b := ⟨_, rfl⟩
   have hget : f.blocks[k]? = some b := by rw [qq hk2, hbk]
   have hb := hf.2.2.2 b (hbk ▸ qu hk2)
   have hb1 := hb.1.lt
   have hb2 := hb.2.1.lt
   have hsucc := sumTo_succ f.blocks k hk2
   rw [hbk] at hsucc
   refine zh<|zd<|zi<|zSr<|z2 (zIM k underlying24 sizeOf58 rfl rfl rfl hget)<|z2 (zp isAgg58 sizeOf58 rfl rfl)<|zy (cs := [.str ⟨#[]⟩, .raw (.slice none 0 0), .raw (.slice none 0 0), .int .i64 0, .int .i64 0, .int .i64 0, .int .i64 0]) zeroValue58 rfl rfl<|fun i5 => zq sizeOf58 rfl rfl rfl rfl rfl rfl .head rfl<|z6<|zSr<|z2 (zMi rfl)<|z2 (ze underlying58 rfl sizeOf51 (by decide) rfl rfl)<|z2 (zl (c := .fro _ _) isAgg51 rfl ⟨_, .head⟩ rfl)<|z2 (y2 underlying51 rfl)<|z2 (ze underlying58 rfl sizeOf52 (by decide) rfl rfl)<|z2 (zl (c := .fro _ _) isAgg52 rfl ⟨_, .head⟩ rfl)<|z2 (y2 underlying52 rfl)<|z2 (zAd rfl rfl)<|z2 (zAd rfl rfl)<|z2 (zAi rfl)<|z6<|zSr<|z2 (ze underlying58 rfl sizeOf51 (by decide) rfl rfl)<|z2 (zl (c := .fro _ _) isAgg51 rfl ⟨_, .head⟩ rfl)<|z2 (Gv.func rfl rfl)<|zf (containsFuncP_spec b.phis (by omega) (fun p hp => shaped1_spec f p (hb.2.2.1 p hp))) rfl<|z2 (zMb rfl)<|zt (s := 30) rfl (fun c1=>?_) (fun c1=>?_)
   ·refine z7 rfl rfl c1<|z7 rfl rfl c1<|z7 rfl rfl c1<|z7 rfl rfl c1<|z2 (zPt rfl c1 rfl)<|z2 (zAb rfl)<|z6<|zSr<|z2 (zMb rfl)<|z2 (zMb rfl)<|z7 rfl rfl rfl<|z7 rfl rfl rfl<|z7 rfl rfl rfl<|z7 rfl rfl rfl<|z7 rfl rfl rfl<|z2 (zPt rfl rfl rfl)<|z6<|yo rfl rfl<|zSr<|z2 (zAb rfl)<|z6<|zg<|zk (x := .bool _) rfl ?_
    exact jb (by unfold shapedB; rw [show f.blocks.all (blkOK f) = false from Bool.eq_false_iff.2 (all_bad hk2 (by rw [hbk]; first | exact blk_bad1 (by assumption) | exact blk_bad2 (by assumption) | exact blk_bad3 (by assumption)))]; simp)
   ·refine z8 rfl rfl c1<|z2 (ze underlying58 rfl sizeOf52 (by decide) rfl rfl)<|z8 rfl rfl c1<|z2 (zl (c := .fro _ _) isAgg52 rfl ⟨_, .head⟩ rfl)<|z8 rfl rfl c1<|z2 (Gv.func rfl rfl)<|z8 rfl rfl c1<|zf (containsFuncX_spec b.insts (by omega) (fun x hx => shaped2_spec f x (hb.2.2.2 x hx))) rfl<|z2 (zPf rfl c1 rfl)<|z2 (zAb rfl)<|z6<|zSr<|z2 (zMb rfl)<|z2 (zMb rfl)<|zt (s := 37) rfl (fun c2=>?_) (fun c2=>?_)
    ·refine z7 rfl rfl c2<|z7 rfl rfl c2<|z7 rfl rfl c2<|z7 rfl rfl c2<|z7 rfl rfl c2<|z2 (zPt rfl c2 rfl)<|z6<|yo rfl rfl<|zSr<|z2 (zAb rfl)<|z6<|zg<|zk (x := .bool _) rfl ?_
     exact jb (by unfold shapedB; rw [show f.blocks.all (blkOK f) = false from Bool.eq_false_iff.2 (all_bad hk2 (by rw [hbk]; first | exact blk_bad1 (by assumption) | exact blk_bad2 (by assumption) | exact blk_bad3 (by assumption)))]; simp)
    ·refine z8 rfl rfl c2<|z2 (zp isAgg26 sizeOf26 rfl rfl)<|z8 rfl rfl c2<|z2 (ze underlying58 rfl sizeOf56 (by decide) rfl rfl)<|z8 rfl rfl c2<|z2 (Gv.loadAC (l := [_, _, _, _]) isAgg56 sizeOf56 rfl ⟨_, .head⟩ rfl rfl)<|z8 rfl rfl c2<|zf (term_spec _ _) rfl<|z8 rfl rfl c2<|z2 (yl rfl)<|z2 (zPf rfl c2 rfl)<|z6<|zz rfl (fun c3=>?_) (fun c3=>?_)
     ·refine zSr<|z2 (zAb rfl)<|z6<|zg<|zk (x := .bool _) rfl ?_
      exact jb (by unfold shapedB; rw [show f.blocks.all (blkOK f) = false from Bool.eq_false_iff.2 (all_bad hk2 (by rw [hbk]; first | exact blk_bad1 (by assumption) | exact blk_bad2 (by assumption) | exact blk_bad3 (by assumption)))]; simp)
     ·refine zh<|zRg<|z2 (zAd rfl rfl)<|z2 (zMi rfl)<|z6 ?_
      exact ⟨k + 1, zR3, ⟨congrArg (AV.int .i64) (by rw [hsucc]; omega), rfl, trivial⟩, ⟨_, (.drop (.refl _)), rfl⟩, ⟨hk2, by rw [hsucc]; omega, all_take hk2 hall (by rw [hbk]; exact blk_good (by assumption) (by assumption) (by assumption))⟩, by omega⟩
  ·have hkn : k = f.blocks.length := by simp at ck; omega
   subst hkn
   rw [qv] at hall ⊢
   refine y4<|zSr<|z2 (zMi rfl)<|z2 (Gv.leq rfl rfl)<|z2 (zAb rfl)<|z6<|zg<|zk (x := .bool _) rfl ?_
   exact jb (by unfold shapedB; rw [w3 hN, hall]; simp; omega)
theorem phiOK_iff (f : PFunc) (p : PPhi) : phiOK f p = true ↔ PhiP f p := by
 unfold phiOK PhiP
 simp only [Bool.and_eq_true, Bool.not_eq_true', decide_eq_false_iff_not, decide_eq_true_eq]
 constructor
 ·rintro ⟨⟨⟨⟨h1, h2⟩, h3⟩, h4⟩, h5⟩; exact ⟨h3, h2, by omega, h4, h5⟩
 ·rintro ⟨h3, h2, h1, h4, h5⟩; exact ⟨⟨⟨⟨by omega, h2⟩, h3⟩, h4⟩, h5⟩
theorem tyWord_ne (t : Int) : ¬ tyWord t = ⟨#[]⟩ ↔ 0 ≤ t ∧ t ≤ 2 := by
 unfold tyWord
 constructor
 ·intro h
  by_cases h0 : t = 0
  ·omega
  ·by_cases h1 : t = 1
   ·omega
   ·by_cases h2 : t = 2
    ·omega
    ·rw [if_neg h0, if_neg h1, if_neg h2] at h; exact absurd rfl h
 ·intro h e
  have : t = 0 ∨ t = 1 ∨ t = 2 := by omega
  rcases this with rfl | rfl | rfl <;> exact absurd e (by decide)
theorem blkOK_iff (f : PFunc) (b : PBlock) : blkOK f b = true ↔ BlkP f b := by
 unfold blkOK BlkP
 simp only [Bool.and_eq_true, Bool.not_eq_true', List.any_eq_false, Bool.not_eq_false]
 constructor
 ·rintro ⟨⟨h1, h2⟩, h3⟩
  exact ⟨fun p hp => (phiOK_iff f p).1 (by simpa using h1 p hp), fun x hx => (instOK_iff f x).1 (by simpa using h2 x hx), h3⟩
 ·rintro ⟨h1, h2, h3⟩
  exact ⟨⟨fun p hp => by simpa using (phiOK_iff f p).2 (h1 p hp), fun x hx => by simpa using (instOK_iff f x).2 (h2 x hx)⟩, h3⟩
theorem unlP_iff {l : List ByteArray} : UnlP l ↔ ∀ i (h : i < l.length), scanName l[i] = true ∧ l[i] ∉ l.take i := by
 unfold UnlP
 constructor <;> intro h i hi
 ·exact ⟨(h i hi).1, fun hm => by have := inB_iff.2 hm; rw [(h i hi).2] at this; cases this⟩
 ·exact ⟨(h i hi).1, Bool.eq_false_iff.2 fun hm => (h i hi).2 (inB_iff.1 hm)⟩
theorem vn_getE {f : PFunc} {i : Nat} (h : i < (VNames f).length) (h' : i < f.vars.length) : (VNames f)[i] = f.vars[i].name := by
 have : (VNames f)[i]? = some f.vars[i].name := by unfold VNames; rw [List.getElem?_map, qq h']; rfl
 rw [qq h] at this
 simpa using this
theorem bn_getE {f : PFunc} {i : Nat} (h : i < (BNames f).length) (h' : i < f.blocks.length) : (BNames f)[i] = f.blocks[i].name := by
 have : (BNames f)[i]? = some f.blocks[i].name := by unfold BNames; rw [List.getElem?_map, qq h']; rfl
 rw [qq h] at this
 simpa using this
theorem shapedB_eq (f : PFunc) : shapedB f = decide (ShapedP f) := by
 rw [Bool.eq_iff_iff, decide_eq_true_iff]
 unfold shapedB
 simp only [Bool.and_eq_true, decide_eq_true_iff, List.all_eq_true, blkOK_iff]
 unfold NamesP LensP ShapedP bad1
 simp only [unlP_iff]
 constructor
 ·rintro ⟨⟨h1, h2, ⟨g1, g2, g3, g4, g5⟩, h4, h5⟩, h6, h7⟩
  refine ⟨?_, h2, fun i h => ?_, fun i h => ?_, h7, h6⟩
  ·simp; omega
  ·have ht := (tyWord_ne _).1 (h1 i h)
   have hu := h4 i (by unfold VNames; simpa using h)
   have e := vn_getE (f := f) (i := i) (by unfold VNames; simpa using h) h
   rw [e] at hu
   exact ⟨by rw [name_eq]; exact hu.1, ht.1, ht.2, fun s hs e2 => hu.2 (by unfold VNames; rw [← List.map_take, ← e2]; exact hs)⟩
  ·have hu := h5 i (by unfold BNames; simpa using h)
   have e := bn_getE (f := f) (i := i) (by unfold BNames; simpa using h) h
   rw [e] at hu
   exact ⟨by rw [name_eq]; exact hu.1, fun s hs e2 => hu.2 (by unfold BNames; rw [← List.map_take, ← e2]; exact hs)⟩
 ·rintro ⟨h1, h2, h3, h4, h7, h6⟩
  simp at h1
  refine ⟨⟨fun i h => (tyWord_ne _).2 ⟨(h3 i h).2.1, (h3 i h).2.2.1⟩, h2, by omega, fun i h => ?_, fun i h => ?_⟩, h6, h7⟩
  ·have h' : i < f.vars.length := by simpa using h
   have e := vn_getE h h'
   rw [e]
   exact ⟨by rw [← name_eq]; exact (h3 i h').1, fun hm => (h3 i h').2.2.2 _ (by unfold VNames at hm; rw [← List.map_take] at hm; exact hm) rfl⟩
  ·have h' : i < f.blocks.length := by simpa using h
   have e := bn_getE h h'
   rw [e]
   exact ⟨by rw [← name_eq]; exact (h4 i h').1, fun hm => (h4 i h').2 _ (by unfold BNames at hm; rw [← List.map_take] at hm; exact hm) rfl⟩
end Go.Proofs.YtiojekbkamegdaaGreatDoor
namespace Go.Proofs.YtiojekbkamegdaaGreatDoor
open Go.Proofs.Tryz
open Go.Proofs Go.Lib Go.Shelf Go.RowKit
variable {E : World}
set_option maxRecDepth 20000
theorem ShapedP.ends {f : PFunc} (h : ShapedP f) : EndsOk f := by
 obtain ⟨h1, _, _, _, _, h6⟩ := h
 unfold bad1 at h1
 simp only [Bool.or_eq_false_iff, decide_eq_false_iff_not] at h1
 refine ⟨by omega, fun b hb c hc => ?_⟩
 have ht := (h6 b hb).2.2
 unfold termOK at ht
 unfold endsL at hc
 split at hc
 ·rename_i hk
  rw [if_pos hk] at ht
  simp only [Bool.and_eq_true, hasB, decide_eq_true_eq] at ht
  simp at hc; subst hc; exact ht.1.1
 ·rename_i hk
  rw [if_neg hk] at ht
  split at hc
  ·rename_i hk1
   rw [if_pos hk1] at ht
   simp only [Bool.and_eq_true, hasB, decide_eq_true_eq] at ht
   split at hc
   ·simp at hc; subst hc; exact ht.1.2
   ·simp at hc; rcases hc with rfl | rfl
    ·exact ht.1.2
    ·exact ht.2
  ·cases hc
def blkT (f : PFunc) (b : PBlock) : Bool := b.phis.all (phiT f) && b.insts.all (instT f) && termT f b.term
def typedB (f : PFunc) : Bool := shapedB f && f.blocks.all (blkT f)
theorem small.shaped {f : PFunc} (hf : small f) (hL : Letters E) : AFun prog E 180 [.agg (encF f)] (.bool (shapedB f)) :=
 Shaped_spec f hf.ok (by have := hf.1; omega) (by have := hf.2.2.1; omega) (by have := hf.2.1; omega) hf.names hL
theorem term_var {f : PFunc} {t : PTerm} (h : termOK f t = true) (hk : ¬ t.kind = 0) : hasV f t.var = true := by
 unfold termOK at h
 rw [if_neg hk] at h
 split at h
 ·simp only [Bool.and_eq_true] at h; exact h.1.1
 ·split at h
  ·simp only [Bool.and_eq_true] at h; exact h.1
  ·cases h
theorem Typed_spec (f : PFunc) (hf : small f) (hL : Letters E) : AFun prog E 133 [.agg (encF f)] (.int .i64 (if typedB f then 0 else 3)) := by
 have hok := hf.ok
 refine zo func133 rfl (by decide) rfl<|zSr<|y9 (cs := _) rfl rfl rfl<|z2 (zAi rfl)<|z6<|zd<|zSr<|z2 (zp isAgg26 sizeOf26 rfl rfl)<|zf (hf.shaped hL) rfl<|z2 (yl rfl)<|z6<|zz rfl (fun cs=>?_) (fun cs=>?_)
 ·refine zSr<|z2 (zAi rfl)<|z6<|zg<|zk (x := .int _ _) rfl ?_
  unfold typedB; rw [show shapedB f = false by simpa using cs]; rfl
 ·have hsb : shapedB f = true := by simpa using cs
  have hS : ShapedP f := by rw [shapedB_eq] at hsb; exact of_decide_eq_true hsb
  have hB := hS.2.2.2.2.2
  have hfl := hok.2.2.1.lt
  refine zh<|zd<|zSr<|z2 (zFF underlying26 rfl sizeOf24 rfl rfl)<|z2 (zLf isAgg24 rfl)<|z2 (y2 underlying24 rfl)<|z2 (zMi rfl)<|z6<|zi<|y5 (γ := Nat) [1, 13, 14] (fun k => [(15, .int .i64 k)]) (fun k => []) (fun k => k ≤ f.blocks.length ∧ (f.blocks.take k).all (blkT f) = true) (fun k => f.blocks.length - k) 0 zR1 zLe (⟨qt _, rfl⟩) ?_
  rintro k ⟨hk, hall⟩
  refine zSr<|z2 (yb rfl rfl)<|z6<|zd<|zr rfl (fun ck=>?_) (fun ck=>?_)
  ·have hk2 : k < f.blocks.length := by simp at ck; omega
   obtain ⟨b, hbk⟩ : ∃ b, f.blocks[k] = b := ⟨_, rfl⟩
   have hget : f.blocks[k]? = some b := by rw [qq hk2, hbk]
   have hmem : b ∈ f.blocks := hbk ▸ qu hk2
   obtain ⟨hph, hin, htm⟩ := hB b hmem
   have hbad : blkT f b = false → typedB f = false := fun h => by unfold typedB; rw [Bool.eq_false_iff.2 (all_bad hk2 (by rw [hbk]; exact h))]; simp
   have hs5 := hok.2.2.2 b hmem
   have hpl := hs5.1.lt
   have hil := hs5.2.1.lt
   refine zh<|zd<|zi<|zSr<|z2 (zIM k underlying24 sizeOf58 rfl rfl rfl hget)<|z2 (zp isAgg58 sizeOf58 rfl rfl)<|zy (cs := [.str ⟨#[]⟩, .raw (.slice none 0 0), .raw (.slice none 0 0), .int .i64 0, .int .i64 0, .int .i64 0, .int .i64 0]) zeroValue58 rfl rfl<|fun i4 => zq sizeOf58 rfl rfl rfl rfl rfl rfl .head rfl<|zc (yk (t := 4) rfl .head)<|z6<|zd<|zSr<|z2 (zFF underlying58 rfl sizeOf51 rfl rfl)<|z2 (zLf isAgg51 rfl)<|z2 (y2 underlying51 rfl)<|z2 (zMi rfl)<|z6<|zi<|y5 (γ := Nat) [1, 4, 13, 14, 15, 20, 21] (fun p => [(22, .int .i64 p)]) (fun p => []) (fun p => p ≤ b.phis.length ∧ (b.phis.take p).all (phiT f) = true) (fun p => b.phis.length - p) 0 zR1 zLe (⟨qt _, rfl⟩) ?_
   rintro p ⟨hp, hpall⟩
   refine zSr<|z2 (yb rfl rfl)<|z6<|zd<|zr rfl (fun cp=>?_) (fun cp=>?_)
   ·have hp2 : p < b.phis.length := by simp at cp; omega
    have hpm := qu hp2
    have hP := hph _ hpm
    refine zh<|zd<|zi<|zSr<|z2 (zIM p underlying51 sizeOf81 rfl rfl rfl (qq hp2))<|z2 (zp isAgg81 sizeOf81 rfl rfl)<|zy (cs := [.int .i64 0, .raw (.slice none 0 0), .raw (.slice none 0 0)]) zeroValue81 rfl rfl<|fun i6 => zq sizeOf81 rfl rfl rfl rfl rfl rfl .head rfl<|zc (yk (t := 6) rfl .head)<|z6<|zSr<|z2 (zp isAgg26 sizeOf26 rfl rfl)<|z2 (zp isAgg81 sizeOf81 rfl rfl)<|zf (yphi_spec f b.phis[p] (hs5.2.2.1 _ hpm) hP.2.2.2.1 hP.1) rfl<|z2 (yl rfl)<|z6<|zz rfl (fun cq=>?_) (fun cq=>?_)
    ·refine zSr<|z2 (zAi rfl)<|z6<|zg<|zk (x := .int _ _) rfl ?_
     rw [hbad (by unfold blkT; rw [Bool.eq_false_iff.2 (all_bad hp2 (by simpa using cq))]; rfl)]; rfl
    ·refine zh<|zRg<|z2 (zAd rfl rfl)<|z2 (zMi rfl)<|z6 ?_
     exact ⟨p + 1, zR7, zR1, zLe, ⟨hp2, all_take hp2 hpall (by simpa using cq)⟩, by omega⟩
   ·have hpn : p = b.phis.length := by simp at cp; omega
    subst hpn
    rw [qv] at hpall
    refine y4<|zd<|zSr<|z2 (zFF underlying58 rfl sizeOf52 rfl rfl)<|z2 (zLf isAgg52 rfl)<|z2 (y2 underlying52 rfl)<|z2 (zMi rfl)<|z6<|zi<|y5 (γ := Nat) [1, 4, 13, 14, 15, 32, 33] (fun q => [(34, .int .i64 q)]) (fun q => []) (fun q => q ≤ b.insts.length ∧ (b.insts.take q).all (instT f) = true) (fun q => b.insts.length - q) 0 zR1 zLe (⟨qt _, rfl⟩) ?_
    rintro q ⟨hq, hqall⟩
    refine zSr<|z2 (yb rfl rfl)<|z6<|zd<|zr rfl (fun cp2=>?_) (fun cp2=>?_)
    ·have hq2 : q < b.insts.length := by simp at cp2; omega
     have hqm := qu hq2
     have hI := instP_F (hin _ hqm)
     have hId : makesB b.insts[q].op = true → hasV f b.insts[q].dst = true := fun h => by
      rcases hI.dst with ⟨d1, _⟩ | ⟨_, _, d3⟩
      ·rw [h] at d1; cases d1
      ·exact d3
     refine zh<|zd<|zi<|zSr<|z2 (zIM q underlying52 sizeOf61 rfl rfl rfl (qq hq2))<|z2 (zp isAgg61 sizeOf61 rfl rfl)<|zy (cs := [.int .i64 0, .int .i64 0, .raw (.slice none 0 0), .int .i64 0]) zeroValue61 rfl rfl<|fun i8 => zq sizeOf61 rfl rfl rfl rfl rfl rfl .head rfl<|zc (yk (t := 8) rfl .head)<|z6<|zSr<|z2 (zp isAgg26 sizeOf26 rfl rfl)<|z2 (zp isAgg61 sizeOf61 rfl rfl)<|zf (yinst_spec f b.insts[q] (List.all_eq_true.2 hI.args) hI.len hId) rfl<|z2 (yl rfl)<|z6<|zz rfl (fun cq=>?_) (fun cq=>?_)
     ·refine zSr<|z2 (zAi rfl)<|z6<|zg<|zk (x := .int _ _) rfl ?_
      rw [hbad (by unfold blkT; rw [hpall, Bool.eq_false_iff.2 (all_bad hq2 (by simpa using cq))]; rfl)]; rfl
     ·refine zh<|zRg<|z2 (zAd rfl rfl)<|z2 (zMi rfl)<|z6 ?_
      exact ⟨q + 1, zR7, zR1, zLe, ⟨hq2, all_take hq2 hqall (by simpa using cq)⟩, by omega⟩
    ·have hqn : q = b.insts.length := by simp at cp2; omega
     subst hqn
     rw [qv] at hqall
     refine y4<|zSr<|z2 (zp isAgg26 sizeOf26 rfl rfl)<|z2 (zFF underlying58 rfl sizeOf56 rfl rfl)<|z2 (zp isAgg56 sizeOf56 rfl rfl)<|zf (yterm_spec f b.term (term_var htm)) rfl<|z2 (yl rfl)<|z6<|zz rfl (fun ct=>?_) (fun ct=>?_)
     ·refine zSr<|z2 (zAi rfl)<|z6<|zg<|zk (x := .int _ _) rfl ?_
      rw [hbad (by unfold blkT; rw [hpall, hqall]; simpa using ct)]; rfl
     ·refine zh<|zRg<|z2 (zAd rfl rfl)<|z2 (zMi rfl)<|z6 ?_
      exact ⟨k + 1, zR3, zR1, zLe, ⟨hk2, all_take hk2 hall (by rw [hbk]; unfold blkT; rw [hpall, hqall]; simpa using ct)⟩, by omega⟩
  ·have hkn : k = f.blocks.length := by simp at ck; omega
   subst hkn
   rw [qv] at hall
   refine y4<|zSr<|z2 (zAi rfl)<|z6<|zg<|zk (x := .int _ _) rfl ?_
   unfold typedB; rw [hsb, hall]; rfl
end Go.Proofs.YtiojekbkamegdaaGreatDoor
namespace Go.Proofs.YtiojekbkamegdaaGreatDoor
open Go.Proofs.Tryz
def setsT (l : List Bool) (bs : List Int) : List Bool := bs.foldl (fun l b => l.set b.toNat true) l
theorem setsT_len : ∀ (bs : List Int) (l : List Bool), (setsT l bs).length = l.length
 | [], _ => rfl
 | b :: bs, l => by show (setsT (l.set b.toNat true) bs).length = _; rw [setsT_len bs, List.length_set]
theorem setsT_snoc (l : List Bool) (bs : List Int) (b : Int) : setsT l (bs ++ [b]) = (setsT l bs).set b.toNat true := by unfold setsT; rw [List.foldl_append]; rfl
def reachB (E : Int → List Int) (n : Nat) : List Bool := setsT (List.replicate n false) (orderT E n)
theorem reachB_len (E : Int → List Int) (n : Nat) : (reachB E n).length = n := by unfold reachB; rw [setsT_len]; simp
def phJ (f : PFunc) (i : Nat) (p : PPhi) : Bool := decide (sortI p.from_ = predsT (EndsOf f) f.blocks.length i)
def blkJ (f : PFunc) (i : Nat) : Bool := ((f.blocks[i]?).map fun b => b.phis.all (phJ f i)).getD true
def joinedB (f : PFunc) : Bool := (List.range f.blocks.length).all (blkJ f)
theorem blkJ_at {f : PFunc} {i : Nat} {b : PBlock} (h : f.blocks[i]? = some b) : blkJ f i = b.phis.all (phJ f i) := by unfold blkJ; rw [h]; rfl
theorem range_all_succ {p : Nat → Bool} {k : Nat} (h : (List.range k).all p = true) (hk : p k = true) : (List.range (k + 1)).all p = true := by rw [List.range_succ, List.all_append, h]; simp [hk]
theorem range_all_bad {p : Nat → Bool} {k n : Nat} (hk : k < n) (h : p k = false) : (List.range n).all p = false := by
 rw [Bool.eq_false_iff]; intro ha
 have := List.all_eq_true.1 ha k (List.mem_range.2 hk)
 rw [h] at this; cases this
def rowsOf {α : Type} (n : Nat) (ev : List (Int × α)) : List (List α) := (List.range n).map fun (v : Nat) => (ev.filter fun e => decide (e.1 = (v : Int))).map (·.2)
theorem rowsOf_len {α : Type} (n : Nat) (ev : List (Int × α)) : (rowsOf n ev).length = n := by unfold rowsOf; simp
theorem rowsOf_get {α : Type} {n : Nat} (ev : List (Int × α)) {v : Nat} (h : v < n) : (rowsOf n ev)[v]? = some ((ev.filter fun e => decide (e.1 = (v : Int))).map (·.2)) := by unfold rowsOf; rw [List.getElem?_map, List.getElem?_range h]; rfl
theorem rowsOf_nil {α : Type} (n : Nat) : List.replicate n [] = rowsOf (α := α) n [] := by
 apply List.ext_getElem
 ·rw [rowsOf_len]; simp
 ·intro i h1 h2; unfold rowsOf; simp
theorem rowsOf_row {α : Type} {n : Nat} {ev : List (Int × α)} {v : Nat} (h : v < (rowsOf n ev).length) : (rowsOf n ev)[v].length ≤ ev.length := by
 have h2 : v < n := by rwa [rowsOf_len] at h
 have := rowsOf_get ev h2
 rw [qq h] at this
 rw [Option.some.inj this, qx]
 exact List.length_filter_le _ _
theorem rowsOf_push {α : Type} {n : Nat} {ev : List (Int × α)} {c : Int} {x : α} (h0 : 0 ≤ c) (h : c.toNat < (rowsOf n ev).length) : (rowsOf n ev).set c.toNat ((rowsOf n ev)[c.toNat] ++ [x]) = rowsOf n (ev ++ [(c, x)]) := by
 have h2 : c.toNat < n := by rwa [rowsOf_len] at h
 apply List.ext_getElem?
 intro v
 rw [List.getElem?_set]
 by_cases hv : v < n
 ·rw [rowsOf_get _ hv]
  have hr := rowsOf_get ev h2
  rw [qq h] at hr
  rw [Option.some.inj hr]
  by_cases e : c.toNat = v
  ·have : c = (v : Int) := by omega
   rw [if_pos e, if_pos (by rw [rowsOf_len]; omega), rowsOf_get _ hv]
   have e2 : ((c.toNat : Nat) : Int) = c := by omega
   rw [e2, this, List.filter_append, List.map_append]
   simp
  ·have : ¬ c = (v : Int) := by omega
   rw [if_neg e, rowsOf_get _ hv]
   simp [List.filter_append, this]
 ·have hn : (rowsOf n (ev ++ [(c, x)]))[v]? = none := List.getElem?_eq_none (by rw [rowsOf_len]; omega)
  rw [if_neg (by omega), hn, List.getElem?_eq_none (by rw [rowsOf_len]; omega)]
def evPh (i : Nat) (ps : List PPhi) : List (Int × Plc) := ps.map fun p => (p.dst, ((i : Int), -1))
def evIn (i : Nat) (xs : List PInst) : List (Int × Plc) := (xs.zipIdx.filter fun x => decide (0 ≤ x.1.dst)).map fun x => (x.1.dst, ((i : Int), (x.2 : Int)))
def evBl (i : Nat) (b : PBlock) : List (Int × Plc) := evPh i b.phis ++ evIn i b.insts
def evTo (f : PFunc) (k : Nat) : List (Int × Plc) := ((f.blocks.take k).zipIdx).flatMap fun b => evBl b.2 b.1
theorem zipTake {α : Type} {l : List α} {k : Nat} (h : k < l.length) : (l.take (k + 1)).zipIdx = (l.take k).zipIdx ++ [(l[k], k)] := by
 rw [qr h, List.zipIdx_append, qz, Nat.min_eq_left (by omega)]
 simp
theorem evPh_succ (i : Nat) {ps : List PPhi} {j : Nat} (h : j < ps.length) : evPh i (ps.take (j + 1)) = evPh i (ps.take j) ++ [(ps[j].dst, ((i : Int), -1))] := by
 unfold evPh; rw [qr h, List.map_append]; rfl
theorem evIn_succ (i : Nat) {xs : List PInst} {j : Nat} (h : j < xs.length) : evIn i (xs.take (j + 1)) = evIn i (xs.take j) ++ if 0 ≤ xs[j].dst then [(xs[j].dst, ((i : Int), (j : Int)))] else [] := by
 unfold evIn; rw [zipTake h, List.filter_append, List.map_append]
 by_cases h0 : 0 ≤ xs[j].dst
 ·simp [h0]
 ·simp [h0]
theorem evTo_succ {f : PFunc} {k : Nat} (h : k < f.blocks.length) : evTo f (k + 1) = evTo f k ++ evBl k f.blocks[k] := by
 unfold evTo; rw [zipTake h, List.flatMap_append]; simp
theorem evIn_len (i : Nat) (xs : List PInst) : (evIn i xs).length ≤ xs.length := by
 unfold evIn; rw [qx]; exact Nat.le_trans (List.length_filter_le _ _) (by simp)
theorem evBl_len (i : Nat) (b : PBlock) : (evBl i b).length ≤ b.phis.length + b.insts.length := by
 have := evIn_len i b.insts
 unfold evBl evPh; rw [qw, qx]; omega
theorem evTo_len {f : PFunc} {m : Nat} (h : ∀ b ∈ f.blocks, b.phis.length + b.insts.length ≤ m) : ∀ k, k ≤ f.blocks.length → (evTo f k).length ≤ k * m
 | 0, _ => by simp [evTo]
 | k + 1, hk => by
  have h1 := evTo_len h k (by omega)
  have h2 := evBl_len k f.blocks[k]
  have h3 := h _ (qu (show k < f.blocks.length by omega))
  rw [evTo_succ (by omega), qw, Nat.add_mul]; omega
theorem evBl_of (i v : Nat) (b : PBlock) : ((evBl i b).filter fun e => decide (e.1 = (v : Int))).map (·.2) = mkBlk v i b := by
 unfold evBl evPh evIn mkBlk
 rw [List.filter_append, List.map_append, List.filter_map, List.map_map, List.filter_map, List.map_map, List.filter_filter]
 congr 1
 congr 1
 apply List.filter_congr
 intro x _
 by_cases e : x.1.dst = (v : Int)
 ·have : 0 ≤ x.1.dst := by omega
  simp [e]
 ·simp [e]
theorem evTo_of (f : PFunc) (v : Nat) : ((evTo f f.blocks.length).filter fun e => decide (e.1 = (v : Int))).map (·.2) = makings f v := by
 unfold evTo makings
 rw [qv, List.filter_flatMap, List.map_flatMap]
 congr 1
 funext b
 exact evBl_of b.2 v b.1
def makesR (f : PFunc) : List (List Plc) := rowsOf f.vars.length (evTo f f.blocks.length)
theorem makesR_get {f : PFunc} {v : Nat} (h : v < f.vars.length) : (makesR f)[v]? = some (makings f v) := by unfold makesR; rw [rowsOf_get _ h, evTo_of]
theorem makesR_len (f : PFunc) : (makesR f).length = f.vars.length := rowsOf_len _ _
def onceV (f : PFunc) (v : Nat) : Bool := !(decide (1 < (makings f v).length) || decide (0 < (makings f v).length) && decide (v < f.params.length))
def onceB (f : PFunc) : Bool := (List.range f.vars.length).all (onceV f)
def makersT (f : PFunc) : List Plc := (List.range f.vars.length).map fun (v : Nat) => makerT f v
theorem makersT_get {f : PFunc} {v : Nat} (h : v < f.vars.length) : (makersT f)[v]? = some (makerT f v) := by unfold makersT; rw [List.getElem?_map, List.getElem?_range h]; rfl
theorem makersT_len (f : PFunc) : (makersT f).length = f.vars.length := by simp [makersT]
def aheadB (f : PFunc) (m : Plc) (b at_ : Int) : Bool := if m.1 < 0 then true else if m.1 = b then decide (m.2 < at_) else domB (EndsOf f) f.blocks.length m.1 b
def phA (f : PFunc) (p : PPhi) : Bool := (p.args.zip p.from_).all fun q => aheadB f (makerT f q.1) q.2 (lenAt f q.2)
def inA (f : PFunc) (i : Nat) (x : PInst × Nat) : Bool := x.1.args.all fun v => aheadB f (makerT f v) i x.2
def tmA (f : PFunc) (i : Nat) (b : PBlock) : Bool := decide (b.term.kind = 0) || aheadB f (makerT f b.term.var) i b.insts.length
def blkA (f : PFunc) (i : Nat) (b : PBlock) : Bool := b.phis.all (phA f) && b.insts.zipIdx.all (inA f i) && tmA f i b
def atA (f : PFunc) (i : Nat) : Bool := ((f.blocks[i]?).map (blkA f i)).getD true
def behB (f : PFunc) : Bool := (List.range f.blocks.length).all (atA f)
theorem atA_at {f : PFunc} {i : Nat} {b : PBlock} (h : f.blocks[i]? = some b) : atA f i = blkA f i b := by unfold atA; rw [h]; rfl
def singB (f : PFunc) : Bool := joinedB f && (!(reachB (EndsOf f) f.blocks.length).contains false && (onceB f && behB f))
end Go.Proofs.YtiojekbkamegdaaGreatDoor
namespace Go.Proofs.YtiojekbkamegdaaGreatDoor
open Go.Proofs.Tryz
open Go.Proofs Go.Lib Go.Shelf Go.RowKit
variable {E : World}
set_option maxRecDepth 20000
theorem right_spec (f : PFunc) (hf : small f) (hL : Letters E) : AFun prog E 143 [.agg (encF f)] (.bool (typedB f)) := by
 refine zo func143 rfl (by decide) rfl<|zSr<|y9 (cs := _) rfl rfl rfl<|z2 (zAb rfl)<|z6<|zSr<|z2 (zp isAgg26 sizeOf26 rfl rfl)<|zf (Typed_spec f hf hL) rfl<|z2 (y7 rfl rfl)<|z2 (zAb rfl)<|z6<|zg<|zk (x := .bool _) rfl ?_
 cases typedB f <;> rfl
theorem typedB_ends {f : PFunc} (h : typedB f = true) : EndsOk f := by
 unfold typedB at h
 rw [Bool.and_eq_true, shapedB_eq] at h
 exact (of_decide_eq_true h.1).ends
theorem predsX_spec (f : PFunc) (hf : small f) (hL : Letters E) (ht : typedB f = true) : AFun prog E 88 [.agg (encF f)] (froN eI (predsR f f.blocks.length)) := by
 have hn := hf.2.2.1
 refine zo func88 rfl (by decide) rfl<|zSr<|y9 (cs := _) rfl rfl rfl<|z2 (zAr rfl)<|z6<|zd<|zSr<|z2 (zp isAgg26 sizeOf26 rfl rfl)<|zf (right_spec f hf hL) rfl<|z2 (yl rfl)<|z6<|ym rfl (by rw [ht]; rfl)<|zh<|zSr<|z2 (zp isAgg26 sizeOf26 rfl rfl)<|zf (preds_spec f (typedB_ends ht) (by omega)) rfl<|z2 (zAf rfl)<|z6<|zg<|zk (x := .fro _ _) rfl ?_
 rfl
theorem orderO_spec (f : PFunc) (hE : EndsOk f) (hn : f.blocks.length ≤ 1000) : AFun prog E 150 [.agg (encF f)] (.fro 1 ((orderT (EndsOf f) f.blocks.length).map encI)) :=
 order_spec f hE (by omega) fun l i T h => reverse_own l i T h
theorem orderX_spec (f : PFunc) (hf : small f) (hL : Letters E) (ht : typedB f = true) : AFun prog E 87 [.agg (encF f)] (.fro 1 ((orderT (EndsOf f) f.blocks.length).map encI)) := by
 have hn := hf.2.2.1
 refine zo func87 rfl (by decide) rfl<|zSr<|y9 (cs := _) rfl rfl rfl<|z2 (zAr rfl)<|z6<|zd<|zSr<|z2 (zp isAgg26 sizeOf26 rfl rfl)<|zf (right_spec f hf hL) rfl<|z2 (yl rfl)<|z6<|ym rfl (by rw [ht]; rfl)<|zh<|zSr<|z2 (zp isAgg26 sizeOf26 rfl rfl)<|zf (orderO_spec f (typedB_ends ht) (by omega)) rfl<|z2 (zAf rfl)<|z6<|zg<|zk (x := .fro _ _) rfl ?_
 rfl
def encB (x : Bool) : List AV := [.bool x]
theorem reach_spec (f : PFunc) (hE : EndsOk f) (hn : f.blocks.length ≤ 1000) : AFun prog E 146 [.agg (encF f)] (.fro 1 ((reachB (EndsOf f) f.blocks.length).map encB)) := by
 have hG := hE.grph
 have hol := order_len hG
 refine zo func146 rfl (by decide) rfl<|zSr<|y9 (cs := _) rfl rfl rfl<|z2 (zAr rfl)<|z6<|zSr<|z2 (zFF underlying26 rfl sizeOf24 rfl rfl)<|z2 (zLf isAgg24 rfl)<|z2 (y2 underlying24 rfl)<|AOps.makeB (m := f.blocks.length) underlying98 type4 rfl rfl rfl rfl rfl (by simp) (by simp) (by show (1 : Int) * _ ≤ _; omega) (by omega)<|fun i9 => z2 (zAo rfl)<|z6<|zd<|zSr<|z2 (zp isAgg26 sizeOf26 rfl rfl)<|zf (orderO_spec f hE hn) rfl<|z2 (y2 underlying23 rfl)<|z2 (zMi rfl)<|z6<|zi<|y5 (γ := Nat) [3, 11, 12] (fun k => [(13, .int .i64 k)]) (fun k => [(i9, .grow 1 4 (cB (setsT (List.replicate f.blocks.length false) ((orderT (EndsOf f) f.blocks.length).take k))))]) (fun k => k ≤ (orderT (EndsOf f) f.blocks.length).length) (fun k => (orderT (EndsOf f) f.blocks.length).length - k) 0 zR1 zLe (qt _) ?_
 rintro k hk
 refine zSr<|z2 (yb rfl rfl)<|z6<|zd<|zr rfl (fun ck=>?_) (fun ck=>?_)
 ·have hk2 : k < (orderT (EndsOf f) f.blocks.length).length := by simp at ck; omega
  obtain ⟨b, hb⟩ : ∃ b, (orderT (EndsOf f) f.blocks.length)[k] = b := ⟨_, rfl⟩
  have hr := order_rng hG.toEOk (hb ▸ qu hk2)
  refine zh<|zd<|zi<|zSr<|z2 (zIM k underlying23 sizeOf3 rfl rfl rfl (by rw [qq hk2, hb])) ?_
  refine z2 (zLi isAgg3 rfl)<|z2 (zAi rfl)<|z6<|zRg<|z2 (zMo rfl)<|z2 (zMi rfl)<|z2 (yf (j := b.toNat) underlying98 sizeOf4 rfl rfl (by omega) ⟨_, .head⟩ (by rw [cB_len, setsT_len]; simp) (by omega))<|qc (j := b.toNat) sizeOf4 rfl rfl .head (by rw [setsT_len]; simp; omega)<|z6<|zRg<|z2 (zAd rfl rfl)<|z2 (zMi rfl)<|z6 ?_
  exact ⟨k + 1, zR3, zR1, ⟨_, (.refl _), by rw [qr hk2, setsT_snoc, hb]⟩, hk2, by omega⟩
 ·have hkn : k = (orderT (EndsOf f) f.blocks.length).length := by simp at ck; omega
  subst hkn
  rw [qv]
  refine y4<|zSr<|z2 (zMo rfl)<|z2 (zAo rfl)<|z6<|yc (GStep.knowB (t := 2) rfl .head (by rw [setsT_len]; simp))<|zg<|zk (x := .fro _ _) rfl ?_
  rfl
theorem reachX_spec (f : PFunc) (hf : small f) (hL : Letters E) (ht : typedB f = true) : AFun prog E 83 [.agg (encF f)] (.fro 1 ((reachB (EndsOf f) f.blocks.length).map encB)) := by
 have hn := hf.2.2.1
 refine zo func83 rfl (by decide) rfl<|zSr<|y9 (cs := _) rfl rfl rfl<|z2 (zAr rfl)<|z6<|zd<|zSr<|z2 (zp isAgg26 sizeOf26 rfl rfl)<|zf (right_spec f hf hL) rfl<|z2 (yl rfl)<|z6<|ym rfl (by rw [ht]; rfl)<|zh<|zSr<|z2 (zp isAgg26 sizeOf26 rfl rfl)<|zf (reach_spec f (typedB_ends ht) (by omega)) rfl<|z2 (zAf rfl)<|z6<|zg<|zk (x := .fro _ _) rfl ?_
 rfl
theorem indexB_spec (xs : List Bool) (v : Bool) (hl : xs.length ≤ 281474976710656) : AFun prog E 145 [.fro 1 (xs.map encB), .bool v] (.int .i64 (firstI (fun x => decide (v = x)) xs 0)) := by
 refine zo func145 rfl (by decide) rfl<|zSr<|z2 (zAi rfl)<|z6<|zd<|zSr<|z2 (zMf rfl)<|z2 (y2 underlying98 rfl)<|z2 (zMi rfl)<|z6<|zi<|y5 (γ := Nat) [0, 1, 7] (fun k => [(8, .int .i64 k)]) (fun k => []) (fun k => k ≤ xs.length ∧ (xs.take k).all (fun x => !decide (v = x))) (fun k => xs.length - k) 0 zR1 zLe (⟨qt _, rfl⟩) ?_
 rintro k ⟨hk, hall⟩
 refine zSr<|z2 (yb rfl rfl)<|z6<|zd<|zr rfl (fun ck=>?_) (fun ck=>?_)
 ·have hk2 : k < xs.length := by simp at ck; omega
  refine zh<|zd<|zi<|zSr<|z2 (zMi rfl)<|z2 (zAi rfl)<|z6<|zSr<|z2 (zMb rfl)<|z2 (zMf rfl)<|z2 (zMi rfl)<|z2 (zIM k underlying98 sizeOf4 rfl rfl rfl (qq hk2))<|z2 (qa (c := .bool _) isAgg4 rfl)<|z2 (Gv.eqlB underlying4 rfl rfl)<|z6<|zz rfl (fun cp=>?_) (fun cp=>?_)
  ·refine zSr<|z2 (zMi rfl)<|z2 (zAi rfl)<|z6<|zg<|zk (x := .int _ _) rfl ?_
   rw [firstI_drop _ xs k hk hall, List.drop_eq_getElem_cons hk2, firstI, if_pos (by simpa using cp)]
  ·refine zh<|zRg<|z2 (zAd rfl rfl)<|z2 (zMi rfl)<|z6 ?_
   exact ⟨k + 1, zR3, zR1, zLe, ⟨hk2, by rw [qr hk2, List.all_append, hall]; simpa using cp⟩, by omega⟩
 ·have hkn : k = xs.length := by simp at ck; omega
  refine y4<|zSr<|z2 (zAi rfl)<|z6<|zg<|zk (x := .int _ _) rfl ?_
  rw [firstI_drop _ xs k hk hall, hkn, List.drop_length, firstI]
theorem containsB_spec (xs : List Bool) (v : Bool) (hl : xs.length ≤ 281474976710656) : AFun prog E 82 [.fro 1 (xs.map encB), .bool v] (.bool (xs.contains v)) := by
 refine zo func82 rfl (by decide) rfl<|zSr<|z2 (zAb rfl)<|z6<|zSr<|z2 (zMf rfl)<|z2 (zMb rfl)<|zf (indexB_spec xs v hl) rfl<|z2 (q6 rfl rfl)<|z2 (zAb rfl)<|z6<|zg<|zk (x := .bool _) rfl ?_
 rw [firstI_ge]; congr 1; rw [Bool.eq_iff_iff]; simp
theorem cloneO (xs : List Int) (hl : xs.length ≤ 1000) : ACall prog E 93 [.fro 1 (xs.map encI)] [] (fun x O' => ∃ i : Nat, x = .own i xs.length ∧ O' = [(i, .grow 1 3 (cI xs))]) := by
 refine zo func93 rfl (by decide) rfl<|zSr<|z2 (zAr rfl)<|z6<|zd<|zSr<|z2 (zMf rfl)<|AOps.isNil underlying23 rfl rfl (fun hnil=>?_) ?_
 ·have hx : xs = [] := by simpa using hnil
  subst hx
  refine z6<|yo rfl rfl<|zSr<|z2 (zAr rfl)<|z6<|zg ?_
  repeat (first | refine aseqQ_ret ?_ | refine ablockQ_ret ?_)
  refine adopt_fin (s := 2) (k := 1) (T := 3) rfl (fun i=>?_)
  refine zk (x := .own _ _) rfl ?_
  exact ⟨i, rfl, rfl⟩
 ·refine z6<|ym rfl rfl<|zh<|zSr<|ye (k := 1) underlying23 type3<|fun i5 => z2 (zMf rfl)<|yg (k := 1) underlying23 type3 rfl rfl rfl rfl rfl (fun _ => .head) (by simp) (by decide) (all_cell (fun _ => rfl) xs) (by show (_ + _) * 8 ≤ _; simp <;> omega) (by simp <;> omega)<|fun i7 => z2 (zAo rfl)<|z6<|zg<|zk (x := .own _ _) rfl ?_
  exact ⟨i7, (by simp), by rw [← cI_flat]; rfl⟩
theorem predsR_row (f : PFunc) {k : Nat} (h : k < f.blocks.length) : (predsR f f.blocks.length)[k]? = some (predsT (EndsOf f) f.blocks.length (k : Int)) := by unfold predsR; rw [List.getElem?_map, List.getElem?_range h]; rfl
theorem joined_spec (f : PFunc) (hE : EndsOk f) (hf : small f) : AFun prog E 144 [.agg (encF f)] (.bool (joinedB f)) := by
 have hn := hf.2.2.1
 refine zo func144 rfl (by decide) rfl<|zSr<|y9 (cs := _) rfl rfl rfl<|z2 (zAb rfl)<|z6<|zSr<|z2 (zp isAgg26 sizeOf26 rfl rfl)<|zf (preds_spec f hE (by omega)) rfl<|z2 (zAf rfl)<|z6<|zd<|zSr<|z2 (zFF underlying26 rfl sizeOf24 rfl rfl)<|z2 (zLf isAgg24 rfl)<|z2 (y2 underlying24 rfl)<|z2 (zMi rfl)<|z6<|zi<|y5 (γ := Nat) [3, 12, 13] (fun k => [(14, .int .i64 k)]) (fun k => []) (fun k => k ≤ f.blocks.length ∧ (List.range k).all (blkJ f) = true) (fun k => f.blocks.length - k) 0 zR1 zLe (⟨qt _, rfl⟩) ?_
 rintro k ⟨hk, hall⟩
 refine zSr<|z2 (yb rfl rfl)<|z6<|zd<|zr rfl (fun ck=>?_) (fun ck=>?_)
 ·have hk2 : k < f.blocks.length := by simp at ck; omega
  obtain ⟨b, hbk⟩ : ∃ b, f.blocks[k] = b := ⟨_, rfl⟩
  have hget : f.blocks[k]? = some b := by rw [qq hk2, hbk]
  obtain ⟨hb0, hb1, hb2, hb3, hb4⟩ := hf.2.2.2.2 b (hbk ▸ qu hk2)
  refine zh<|zd<|zi<|zSr<|z2 (zMi rfl)<|z2 (zIM k underlying24 sizeOf58 rfl rfl rfl hget)<|z2 (zp isAgg58 sizeOf58 rfl rfl)<|zy (cs := [.str ⟨#[]⟩, .raw (.slice none 0 0), .raw (.slice none 0 0), .int .i64 0, .int .i64 0, .int .i64 0, .int .i64 0]) zeroValue58 rfl rfl<|fun i5 => z2 (zAi rfl)<|zq sizeOf58 rfl rfl rfl rfl rfl rfl .head rfl<|zc (yk (t := 5) rfl .head)<|z6<|zSr<|z2 (zFF underlying58 rfl sizeOf51 rfl rfl)<|z2 (zLf isAgg51 rfl)<|z2 (y2 underlying51 rfl)<|z2 (zMi rfl)<|z6<|zi<|y5 (γ := Nat) [3, 4, 12, 13, 14, 20, 21] (fun j => [(22, .int .i64 j)]) (fun j => []) (fun j => j ≤ b.phis.length ∧ (b.phis.take j).all (phJ f k) = true) (fun j => b.phis.length - j) 0 zR1 zLe (⟨qt _, rfl⟩) ?_
  rintro j ⟨hj, hjall⟩
  refine zSr<|z2 (yb rfl rfl)<|z6<|zd<|zr rfl (fun cj=>?_) (fun cj=>?_)
  ·have hj2 : j < b.phis.length := by simp at cj; omega
   have hpf := (hb3 _ (qu hj2)).2
   refine zh<|zd<|zi<|zSr<|z2 (zIM j underlying51 sizeOf81 rfl rfl rfl (qq hj2))<|z2 (zp isAgg81 sizeOf81 rfl rfl)<|zy (cs := [.int .i64 0, .raw (.slice none 0 0), .raw (.slice none 0 0)]) zeroValue81 rfl rfl<|fun i7 => zq sizeOf81 rfl rfl rfl rfl rfl rfl .head rfl<|zc (yk (t := 7) rfl .head)<|z6<|zSr<|z2 (zFF underlying81 rfl sizeOf23 rfl rfl)<|z2 (zLf isAgg23 rfl)<|y1 rfl (zm (.rest _)) (cloneO b.phis[j].from_ hpf) ?_
   rintro r28 O28 ⟨i8, rfl, rfl⟩
   refine z2 (zAo rfl)<|z6<|zSr<|z2 (zMo rfl)<|y1 rfl (zm (.l (.rest _))) (sort_own b.phis[j].from_ i8 _ (by omega)) ?_
   rintro r30 O30 ⟨rfl, rfl⟩
   refine z6<|yc (GStep.knowI (t := 8) rfl .head (by rw [(sortI_perm _).length_eq]))<|zSr<|z2 (zMf rfl)<|z2 (zMf rfl)<|z2 (zMi rfl)<|z2 (zIM k underlying118 sizeOf23 rfl rfl rfl (predsR_row f hk2))<|z2 (zLf isAgg23 rfl)<|zf (equalI_spec (sortI b.phis[j].from_) (predsT (EndsOf f) f.blocks.length (k : Int)) (by unfold okL; rw [(sortI_perm _).length_eq]; omega)) rfl<|z2 (yl rfl)<|z6<|zz rfl (fun cq=>?_) (fun cq=>?_)
   ·refine zSr<|z2 (zAb rfl)<|z6<|zg<|zk (x := .bool _) rfl ?_
    rw [show joinedB f = false from range_all_bad hk2 (by rw [blkJ_at hget]; exact Bool.eq_false_iff.2 (all_bad hj2 (by simpa [phJ] using cq)))]
   ·refine zh<|zRg<|z2 (zAd rfl rfl)<|z2 (zMi rfl)<|z6 ?_
    exact ⟨j + 1, zR7, zR1, zLe, ⟨hj2, all_take hj2 hjall (by simpa [phJ] using cq)⟩, by omega⟩
  ·have hjn : j = b.phis.length := by simp at cj; omega
   subst hjn
   rw [qv] at hjall
   refine y4<|zRg<|z2 (zAd rfl rfl)<|z2 (zMi rfl)<|z6 ?_
   exact ⟨k + 1, zR3, zR1, zLe, ⟨hk2, range_all_succ hall (by rw [blkJ_at hget]; exact hjall)⟩, by omega⟩
 ·have hkn : k = f.blocks.length := by simp at ck; omega
  subst hkn
  refine y4<|zSr<|z2 (zAb rfl)<|z6<|zg<|zk (x := .bool _) rfl ?_
  rw [show joinedB f = true from hall]
theorem joinedX_spec (f : PFunc) (hf : small f) (hL : Letters E) : AFun prog E 81 [.agg (encF f)] (.int .i64 (if (typedB f && joinedB f) = true then 0 else 3)) := by
 refine zo func81 rfl (by decide) rfl<|zSr<|y9 (cs := _) rfl rfl rfl<|z2 (zAi rfl)<|z6<|zd<|zSr<|z2 (zp isAgg26 sizeOf26 rfl rfl)<|zf (right_spec f hf hL) rfl<|z2 (yl rfl)<|z2 (zMb rfl)<|zt (s := 6) rfl (fun ct=>?_) (fun ct=>?_)
 ·refine z7 rfl rfl ct<|z7 rfl rfl ct<|z7 rfl rfl ct<|z2 (zPt rfl ct rfl)<|z6<|yo rfl rfl<|zSr<|z2 (zAi rfl)<|z6<|zg<|zk (x := .int _ _) rfl ?_
  rw [show typedB f = false by simpa using ct]; rfl
 ·have ht : typedB f = true := by simpa using ct
  refine z8 rfl rfl ct<|z2 (zp isAgg26 sizeOf26 rfl rfl)<|z8 rfl rfl ct<|zf (joined_spec f (typedB_ends ht) hf) rfl<|z8 rfl rfl ct<|z2 (yl rfl)<|z2 (zPf rfl ct rfl)<|z6<|zz rfl (fun cj=>?_) (fun cj=>?_)
  ·refine zSr<|z2 (zAi rfl)<|z6<|zg<|zk (x := .int _ _) rfl ?_
   rw [show joinedB f = false by simpa using cj]; simp
  ·refine zh<|zSr<|z2 (zAi rfl)<|z6<|zg<|zk (x := .int _ _) rfl ?_
   rw [ht, show joinedB f = true by simpa using cj]; rfl
end Go.Proofs.YtiojekbkamegdaaGreatDoor
namespace Go.Proofs.YtiojekbkamegdaaGreatDoor
open Go.Proofs.Tryz
section
variable {S : Int → List Int} {at_ : Int → Int} {V : List Int} {N : Int → Int}
theorem meet_left (hV : Ord S at_ V) (hN : NInv S at_ V N) {K : Nat} (hK : ∀ a b, a ∈ V → b ∈ V → at_ a + at_ b < K) {x y : Int} (hx : N x ≠ -1) (hy : N y ≠ -1) (hlt : at_ y < at_ x) :
  x ≠ 0 ∧ N (N x) ≠ -1 ∧ at_ (N x) < at_ x ∧ meetF N at_ K x y = meetF N at_ K (N x) y := by
 have h1 := (hV.pos x).1 (hN.mem x hx)
 have h2 := (hV.pos y).1 (hN.mem y hy)
 have h3 := hK x y (hN.mem x hx) (hN.mem y hy)
 have hx0 : x ≠ 0 := fun e => by rw [e, hV.zero] at hlt; omega
 obtain ⟨g1, g2, g3⟩ := hN.near x hx0 hx
 refine ⟨hx0, g2, g3, ?_⟩
 obtain ⟨k, rfl⟩ : ∃ k, K = k + 1 := ⟨K - 1, by omega⟩
 have hm := meet_more hV hN k (k + 1) (N x) y g2 hy (by omega) (by omega)
 rw [hm]
 show (if x = y then x else if at_ y < at_ x then meetF N at_ k (N x) y else meetF N at_ k x (N y)) = _
 rw [if_neg (fun e => by rw [e] at hlt; omega), if_pos hlt]
theorem meet_right (hV : Ord S at_ V) (hN : NInv S at_ V N) {K : Nat} (hK : ∀ a b, a ∈ V → b ∈ V → at_ a + at_ b < K) {x y : Int} (hx : N x ≠ -1) (hy : N y ≠ -1) (hlt : at_ x < at_ y) :
  y ≠ 0 ∧ N (N y) ≠ -1 ∧ at_ (N y) < at_ y ∧ meetF N at_ K x y = meetF N at_ K x (N y) := by
 have h1 := (hV.pos x).1 (hN.mem x hx)
 have h2 := (hV.pos y).1 (hN.mem y hy)
 have h3 := hK x y (hN.mem x hx) (hN.mem y hy)
 have hy0 : y ≠ 0 := fun e => by rw [e, hV.zero] at hlt; omega
 obtain ⟨g1, g2, g3⟩ := hN.near y hy0 hy
 refine ⟨hy0, g2, g3, ?_⟩
 obtain ⟨k, rfl⟩ : ∃ k, K = k + 1 := ⟨K - 1, by omega⟩
 have hm := meet_more hV hN k (k + 1) x (N y) hx g2 (by omega) (by omega)
 rw [hm]
 show (if x = y then x else if at_ y < at_ x then meetF N at_ k (N x) y else meetF N at_ k x (N y)) = _
 rw [if_neg (fun e => by rw [e] at hlt; omega), if_neg (by omega)]
theorem meet_same {K : Nat} (hK : 0 < K) (x : Int) : meetF N at_ K x x = x := by
 obtain ⟨k, rfl⟩ : ∃ k, K = k + 1 := ⟨K - 1, by omega⟩
 show (if x = x then x else _) = x
 rw [if_pos rfl]
end
def atTo (n : Nat) (V : List Int) (k : Nat) : List Int := ((V.take k).zipIdx).foldl (fun l p => l.set p.1.toNat (p.2 : Int)) (List.replicate n (-1))
theorem foldl_len {α : Type} {g : List Int → α → List Int} (h : ∀ l x, (g l x).length = l.length) : ∀ (ws : List α) (l : List Int), (ws.foldl g l).length = l.length
 | [], _ => rfl
 | w :: ws, l => by rw [List.foldl_cons, foldl_len h ws, h]
theorem atTo_len (n : Nat) (V : List Int) (k : Nat) : (atTo n V k).length = n := by unfold atTo; rw [foldl_len (fun l x => List.length_set)]; simp
theorem atTo_succ {n : Nat} {V : List Int} {k : Nat} (h : k < V.length) : (atTo n V k).set V[k].toNat (k : Int) = atTo n V (k + 1) := by
 unfold atTo; rw [zipTake h, List.foldl_append]; rfl
theorem atTo_all (n : Nat) (V : List Int) : atTo n V V.length = atOf n V := by unfold atTo atOf; rw [qv]
section
variable {S : Int → List Int} {at_ V : List Int} {preds : Int → List Int} {n : Nat}
def rndTo (at_ : List Int) (K : Nat) (preds : Int → List Int) (V l : List Int) (q : Nat) : List Int := ((V.drop 1).take q).foldl (stepL at_ K preds) l
theorem rndTo_succ {K q : Nat} {l : List Int} (h : q < (V.drop 1).length) : rndTo at_ K preds V l (q + 1) = stepL at_ K preds (rndTo at_ K preds V l q) (V.drop 1)[q] := by
 unfold rndTo; rw [qr h, List.foldl_append]; rfl
theorem rndTo_all {K : Nat} {l : List Int} : rndTo at_ K preds V l (V.drop 1).length = passL at_ K preds V l := by
 unfold rndTo passL; rw [qv, List.drop_one]
theorem rndTo_len {K q : Nat} (l : List Int) : (rndTo at_ K preds V l q).length = l.length := fold_len K _ _
end
section
variable {E : Int → List Int} {n : Nat}
theorem preds_rng (hE : Grph E n) {b p : Int} (h : p ∈ predsT E n b) : 0 ≤ p ∧ p < n := by
 unfold predsT at h
 obtain ⟨i, h1, h2⟩ := List.mem_flatMap.1 h
 obtain ⟨c, _, rfl⟩ := List.mem_map.1 h2
 exact mem_intsTo.1 h1
def nearR (E : Int → List Int) (n : Nat) : List Int := (nearG E n).set 0 (-1)
theorem nearR_len (E : Int → List Int) (n : Nat) : (nearR E n).length = n := by unfold nearR; rw [List.length_set, nearG_len]
theorem nearR_get {b : Int} (h0 : 0 ≤ b) (hb : b ≠ 0) : gi (nearR E n) b = gi (nearG E n) b := by
 unfold nearR gi
 rw [if_pos h0, if_pos h0, List.getElem?_set_ne (by omega)]
theorem nearR_0 (hn : 0 < n) : gi (nearR E n) 0 = -1 := by
 unfold nearR gi
 rw [if_pos (Int.le_refl _)]
 simp [nearG_len, hn]
end
theorem bestF_cons (N at_ : Int → Int) (K : Nat) (p : Int) (ps : List Int) (m : Int) : bestF N at_ K (p :: ps) m = bestF N at_ K ps (if at_ p = -1 ∨ N p = -1 then m else if m = -1 then p else meetF N at_ K m p) := rfl
end Go.Proofs.YtiojekbkamegdaaGreatDoor
namespace Go.Proofs.YtiojekbkamegdaaGreatDoor
open Go.Proofs.Tryz
open Go.Proofs
variable {E : World}
set_option maxRecDepth 20000
theorem meet_spec {S : Int → List Int} {V nr al : List Int} {n K i j : Nat} {T T' : TypeId} (hV : Ord S (gi al) V) (hN : NInv S (gi al) V (gi nr)) (hK : ∀ a b, a ∈ V → b ∈ V → gi al a + gi al b < K) (hK0 : 0 < K) (hnl : nr.length = n) (hal : al.length = n) (hlt : ∀ b ∈ V, b < n) {a b : Int} (ha : gi nr a ≠ -1) (hb : gi nr b ≠ -1) :
  ACall prog E 152 [.agg [.own i n, .own j n], .int .i64 a, .int .i64 b] [(j, .grow 1 T' (cI al)), (i, .grow 1 T (cI nr))]
   fun r O => r = .int .i64 (meetF (gi nr) (gi al) K a b) ∧ O = [(j, .grow 1 T' (cI al)), (i, .grow 1 T (cI nr))] := by
 have hget : ∀ x, gi nr x ≠ -1 → 0 ≤ x ∧ x.toNat < n := fun x hx => by
  have hm := hN.mem x hx
  have := hV.nn x hm
  have := hlt x hm
  omega
 have hNl : ∀ x, gi nr x ≠ -1 → nr[x.toNat]? = some (gi nr x) := fun x hx => gi_get (hget x hx).1 (by rw [hnl]; exact (hget x hx).2)
 have hAl : ∀ x, gi nr x ≠ -1 → al[x.toNat]? = some (gi al x) := fun x hx => gi_get (hget x hx).1 (by rw [hal]; exact (hget x hx).2)
 have hpos : ∀ x, gi nr x ≠ -1 → 0 ≤ gi al x := fun x hx => (hV.pos x).1 (hN.mem x hx)
 refine zo func152 rfl (by decide) rfl<|zSr<|yi (cs := _) rfl rfl rfl rfl<|fun i3 => z2 (zAi rfl)<|z6<|zd<|zi<|y5 (γ := Int × Int) [3] (fun g => [(1, .int .i64 g.1), (2, .int .i64 g.2)]) (fun g => [(i3, .cells 221 [.own i n, .own j n]), (j, .grow 1 T' (cI al)), (i, .grow 1 T (cI nr))]) (fun g => gi nr g.1 ≠ -1 ∧ gi nr g.2 ≠ -1 ∧ meetF (gi nr) (gi al) K g.1 g.2 = meetF (gi nr) (gi al) K a b) (fun g => (gi al g.1 + gi al g.2).toNat) (a, b) zR2 zLe (⟨ha, hb, rfl⟩) ?_
 rintro ⟨x, y⟩ ⟨hx, hy, hm⟩
 try dsimp only at *
 refine zd<|zSr<|z2 (zMi rfl)<|z2 (zMi rfl)<|z2 (yj rfl rfl)<|z6<|zz rfl (fun cxy=>?_) (fun cxy=>?_)
 ·have hxy : x ≠ y := by simpa using cxy
  refine zh<|zi<|zd<|zi<|y5 (γ := Int) [2, 3] (fun u => [(1, .int .i64 u)]) (fun u => [(i3, .cells 221 [.own i n, .own j n]), (j, .grow 1 T' (cI al)), (i, .grow 1 T (cI nr))]) (fun u => gi nr u ≠ -1 ∧ meetF (gi nr) (gi al) K u y = meetF (gi nr) (gi al) K a b ∧ (u = x ∨ gi al u < gi al x)) (fun u => (gi al u).toNat) x zR1 zLe (⟨hx, hm, .inl rfl⟩) ?_
  rintro u ⟨hu, hmu, hux⟩
  refine zd<|zd<|zu (fun j => false) (by kernel_rfl) rfl (zm (.r (.r (.r (.rest _)))))<|zTk 0 rfl (ze underlying221 rfl sizeOf23 (by decide) rfl rfl)<|zTk 1 rfl (zl (c := .own _ _) isAgg23 rfl ⟨_, .head⟩ rfl)<|zTk 2 rfl (zMi rfl)<|zTk 3 rfl (yf (j := u.toNat) underlying23 sizeOf3 rfl rfl (by have := hget u hu; omega) ⟨_, .t1⟩ (by first | rfl | (simp [cI_len, cB_len]; done) | (simp [cI_len, cB_len]; omega)) (hget u hu).2)<|zTk 4 rfl (yt (j := u.toNat) isAgg3 rfl ⟨_, .t1⟩ (hAl u hu))<|zTk 5 rfl (ze underlying221 rfl sizeOf23 (by decide) rfl rfl)<|zTk 6 rfl (zl (c := .own _ _) isAgg23 rfl ⟨_, .head⟩ rfl)<|zTk 7 rfl (zMi rfl)<|zTk 8 rfl (yf (j := y.toNat) underlying23 sizeOf3 rfl rfl (by have := hget y hy; omega) ⟨_, .t1⟩ (by first | rfl | (simp [cI_len, cB_len]; done) | (simp [cI_len, cB_len]; omega)) (hget y hy).2)<|zTk 9 rfl (yt (j := y.toNat) isAgg3 rfl ⟨_, .t1⟩ (hAl y hy))<|zTk 10 rfl (q4 rfl rfl)<|zDn<|zz rfl (fun c1=>?_) (fun c1=>?_)
  ·have c1 : gi al y < gi al u := by simpa using c1
   obtain ⟨h1, h2, h3, h4⟩ := meet_left hV hN hK hu hy c1
   have hp := hpos u hu
   have hp' := hpos _ h2
   refine zh<|zi<|zRg<|z2 (ze underlying221 rfl sizeOf23 (by decide) rfl rfl)<|z2 (zl (c := .own _ _) isAgg23 rfl ⟨_, .head⟩ rfl)<|z2 (zMi rfl)<|z2 (yf (j := u.toNat) underlying23 sizeOf3 rfl rfl (by have := hget u hu; omega) ⟨_, .t2⟩ (by first | rfl | (simp [cI_len, cB_len]; done) | (simp [cI_len, cB_len]; omega)) (hget u hu).2)<|z2 (yt (j := u.toNat) isAgg3 rfl ⟨_, .t2⟩ (hNl u hu))<|z2 (zAi rfl)<|z6 ?_
   exact ⟨gi nr u, zR2, zR1, zLe, ⟨h2, by rw [← h4]; exact hmu, .inr (by rcases hux with rfl | h <;> omega)⟩, by omega⟩
  ·have c1 : ¬ gi al y < gi al u := by simpa using c1
   refine y4<|zi<|y5 (γ := Int) [1, 3] (fun z => [(2, .int .i64 z)]) (fun z => [(i3, .cells 221 [.own i n, .own j n]), (j, .grow 1 T' (cI al)), (i, .grow 1 T (cI nr))]) (fun z => gi nr z ≠ -1 ∧ meetF (gi nr) (gi al) K u z = meetF (gi nr) (gi al) K a b ∧ (z = y ∨ gi al z < gi al y)) (fun z => (gi al z).toNat) y zR1 zLe (⟨hy, hmu, .inl rfl⟩) ?_
   rintro z ⟨hz, hmz, hzy⟩
   refine zd<|zd<|zu (fun j => false) (by kernel_rfl) rfl (zm (.r (.r (.r (.rest _)))))<|zTk 0 rfl (ze underlying221 rfl sizeOf23 (by decide) rfl rfl)<|zTk 1 rfl (zl (c := .own _ _) isAgg23 rfl ⟨_, .head⟩ rfl)<|zTk 2 rfl (zMi rfl)<|zTk 3 rfl (yf (j := z.toNat) underlying23 sizeOf3 rfl rfl (by have := hget z hz; omega) ⟨_, .t1⟩ (by first | rfl | (simp [cI_len, cB_len]; done) | (simp [cI_len, cB_len]; omega)) (hget z hz).2)<|zTk 4 rfl (yt (j := z.toNat) isAgg3 rfl ⟨_, .t1⟩ (hAl z hz))<|zTk 5 rfl (ze underlying221 rfl sizeOf23 (by decide) rfl rfl)<|zTk 6 rfl (zl (c := .own _ _) isAgg23 rfl ⟨_, .head⟩ rfl)<|zTk 7 rfl (zMi rfl)<|zTk 8 rfl (yf (j := u.toNat) underlying23 sizeOf3 rfl rfl (by have := hget u hu; omega) ⟨_, .t1⟩ (by first | rfl | (simp [cI_len, cB_len]; done) | (simp [cI_len, cB_len]; omega)) (hget u hu).2)<|zTk 9 rfl (yt (j := u.toNat) isAgg3 rfl ⟨_, .t1⟩ (hAl u hu))<|zTk 10 rfl (q4 rfl rfl)<|zDn<|zz rfl (fun c2=>?_) (fun c2=>?_)
   ·have c2 : gi al u < gi al z := by simpa using c2
    obtain ⟨h1, h2, h3, h4⟩ := meet_right hV hN hK hu hz c2
    have hp := hpos z hz
    have hp' := hpos _ h2
    refine zh<|zi<|zRg<|z2 (ze underlying221 rfl sizeOf23 (by decide) rfl rfl)<|z2 (zl (c := .own _ _) isAgg23 rfl ⟨_, .head⟩ rfl)<|z2 (zMi rfl)<|z2 (yf (j := z.toNat) underlying23 sizeOf3 rfl rfl (by have := hget z hz; omega) ⟨_, .t2⟩ (by first | rfl | (simp [cI_len, cB_len]; done) | (simp [cI_len, cB_len]; omega)) (hget z hz).2)<|z2 (yt (j := z.toNat) isAgg3 rfl ⟨_, .t2⟩ (hNl z hz))<|z2 (zAi rfl)<|z6 ?_
    exact ⟨gi nr z, zR2, zR1, zLe, ⟨h2, by rw [← h4]; exact hmz, .inr (by rcases hzy with rfl | h <;> omega)⟩, by omega⟩
   ·have c2 : ¬ gi al u < gi al z := by simpa using c2
    have hp1 := hpos x hx
    have hp2 := hpos y hy
    have hp3 := hpos u hu
    have hp4 := hpos z hz
    have hin : gi al x = gi al y → x = y := fun e => hV.inj x y (hN.mem x hx) (hN.mem y hy) e
    refine y4 ?_
    exact ⟨(u, z), zR1, zR2, zLe, ⟨hu, hz, hmz⟩, by dsimp only; rcases hux with rfl | hux <;> rcases hzy with rfl | hzy <;> omega⟩
 ·have hxy : x = y := by simpa using cxy
  subst hxy
  rw [meet_same hK0] at hm
  refine y4<|zSr<|z2 (zMi rfl)<|z2 (zAi rfl)<|z6<|yc (GStep.drop .head)<|zg<|zk (x := .int _ _) rfl ?_
  exact ⟨by rw [hm], rfl⟩
end Go.Proofs.YtiojekbkamegdaaGreatDoor
namespace Go.Proofs.YtiojekbkamegdaaGreatDoor
open Go.Proofs.Tryz
open Go.Proofs
theorem pl221 : Places prog 221 #[(0, 1), (1, 1)] [.raw (.slice none 0 0), .raw (.slice none 0 0)] := ⟨_, _, underlying221, zeroValue221, fun w => by kernel_rfl, rfl⟩
variable {E : World}
set_option maxRecDepth 20000
theorem nearest_spec (f : PFunc) (hE : EndsOk f) (hn : f.blocks.length ≤ 1000) : ACall prog E 89 [.fro 1 ((orderT (EndsOf f) f.blocks.length).map encI), froN eI (predsR f f.blocks.length), .int .i64 f.blocks.length] []
  fun x O' => ∃ i : Nat, x = .own i f.blocks.length ∧ O' = [(i, .grow 1 3 (cI (nearR (EndsOf f) f.blocks.length)))] := by
 have hG := hE.grph
 have hk := hG.gok
 have hpos := hG.npos
 have hol := order_len hG
 obtain ⟨n, hnn⟩ : ∃ n, f.blocks.length = n := ⟨_, rfl⟩
 obtain ⟨S, hS⟩ : ∃ S, EndsOf f = S := ⟨_, rfl⟩
 have hrow : ∀ k, k < n → (predsR f n)[k]? = some (predsT S n (k : Int)) := fun k h => by rw [← hnn, ← hS]; exact predsR_row f (by omega)
 rw [hnn] at hk hG hpos hol hn ⊢
 rw [hS] at hk hG hol ⊢
 obtain ⟨V, hVe⟩ : ∃ V, orderT S n = V := ⟨_, rfl⟩
 have hNG : nearT (atOf n V) V (predsT S n) n = nearG S n := by rw [← hVe]; rfl
 rw [hVe] at hk hol ⊢
 have hVp := hk.pos
 have hK := hk.K
 have hdl : (V.drop 1).length + 1 = V.length := by simp; omega
 refine zo func89 rfl (by decide) rfl<|zSr<|z2 (zAr rfl)<|z6<|zSr<|zw (rows := [[_]]) ps23_1 rfl rfl rfl rfl rfl<|z2 (zMi rfl)<|y1 rfl (zm (.rest _)) (repeat_own (-1) n (by omega) hpos) ?_
 rintro r18 O18 ⟨i18, rfl, rfl⟩
 refine zw (rows := [[_]]) ps23_1 rfl rfl rfl rfl rfl<|z2 (zMi rfl)<|y1 rfl (zm (.r (.rest _))) (repeat_own (-1) n (by omega) hpos) ?_
 rintro r21 O21 ⟨i21, rfl, rfl⟩
 refine z2 (zx (cps := [(0, [_]), (1, [_])]) (rs := [_, _]) pl221 rfl rfl rfl)<|zy (cs := [.raw (.slice none 0 0), .raw (.slice none 0 0)]) zeroValue221 rfl rfl<|fun i7 => zq sizeOf221 rfl rfl rfl rfl rfl rfl .head rfl<|z6<|zd<|zSr<|z2 (zMf rfl)<|z2 (y2 underlying23 rfl)<|z2 (zMi rfl)<|z6<|zi<|y5 (γ := Nat) [0, 1, 7, 23, 24] (fun k => [(25, .int .i64 k)]) (fun k => [(i7, .cells 221 [.own i18 n, .own i21 n]), (i21, .grow 1 3 (cI (atTo n V k))), (i18, .grow 1 3 (cI (List.replicate n (-1))))]) (fun k => k ≤ V.length) (fun k => V.length - k) 0 zR1 zLe (qt _) ?_
 rintro k hkl
 refine zSr<|z2 (yb rfl rfl)<|z6<|zd<|zr rfl (fun ck=>?_) (fun ck=>?_)
 ·have hk2 : k < V.length := by simp at ck; omega
  have hb := hk.lt _ (qu hk2)
  have hb0 := hk.ord.nn _ (qu hk2)
  refine zh<|zd<|zi<|zSr<|z2 (zMi rfl)<|z2 (zIM k underlying23 sizeOf3 rfl rfl rfl (qq hk2))<|z2 (zLi isAgg3 rfl)<|z2 (zAi rfl)<|z2 (zAi rfl)<|z6<|zRg<|z2 (ze underlying221 rfl sizeOf23 (by decide) rfl rfl)<|z2 (zl (c := .own _ _) isAgg23 rfl ⟨_, .head⟩ rfl)<|z2 (zMi rfl)<|z2 (zMi rfl)<|z2 (yf (j := V[k].toNat) underlying23 sizeOf3 rfl rfl (by omega) ⟨_, .t1⟩ (by rw [cI_len, atTo_len]) (by omega))<|yu (j := V[k].toNat) sizeOf3 rfl rfl .t1 (by rw [atTo_len]; omega)<|z6<|zRg<|z2 (zAd rfl rfl)<|z2 (zMi rfl)<|z6 ?_
  exact ⟨k + 1, zR5, zR1, ⟨_, (.refl _), by rw [atTo_succ hk2]⟩, hk2, by omega⟩
 ·have hkn : k = V.length := by simp at ck; omega
  subst hkn
  rw [atTo_all]
  have hatl : (atOf n V).length = n := by rw [← atTo_all]; exact atTo_len n V _
  have hatg : ∀ x : Int, 0 ≤ x → x < n → (atOf n V)[x.toNat]? = some (gi (atOf n V) x) := fun x h1 h2 => gi_get h1 (by omega)
  refine y4<|zSr<|z2 (ze underlying221 rfl sizeOf23 (by decide) rfl rfl)<|z2 (zl (c := .own _ _) isAgg23 rfl ⟨_, .head⟩ rfl)<|z2 (yf (j := 0) underlying23 sizeOf3 rfl rfl rfl ⟨_, .t2⟩ (by first | rfl | (simp [cI_len, cB_len]; done) | (simp [cI_len, cB_len]; omega)) (by omega))<|yu (j := 0) sizeOf3 rfl rfl .t2 (by first | omega | (simp; omega))<|z6<|zd<|zSr<|z2 (zAb rfl)<|z6<|zi<|y5 (γ := Nat × Bool × List Int) [0, 1, 7] (fun g => [(10, .bool g.2.1)]) (fun g => [(i7, .cells 221 [.own i18 n, .own i21 n]), (i21, .grow 1 3 (cI (atOf n V))), (i18, .grow 1 3 (cI g.2.2))]) (fun g => Rnd S (gi (atOf n V)) V (gi g.2.2) g.1 1 ∧ g.2.2.length = n ∧ (g.2.1 = true → g.1 ≤ V.length) ∧ (g.2.1 = false → g.2.2 = nearG S n)) (fun g => (if g.2.1 = true then V.length + 1 - g.1 else 0)) (0, true, first0 n) zR1 zLe (⟨hk.begin, first0_len n, fun _ => qt _, fun h => by cases h⟩) ?_
  rintro ⟨j, again, l⟩ ⟨hR, hl, hj, hfin⟩
  try dsimp only at *
  refine zd<|zSr<|z2 (zMb rfl)<|z6<|zz rfl (fun ca=>?_) (fun ca=>?_)
  ·have ca : again = true := by simpa using ca
   subst ca
   have hj := hj rfl
   refine zh<|zi<|zSr<|z2 (zAb rfl)<|z6<|zSr<|z2 (zMf rfl)<|z2 (Gv.cutLoM (j := 1) underlying23 sizeOf3 rfl rfl rfl (by omega))<|z2 (y2 underlying23 rfl)<|z2 (zMi rfl)<|z6<|zi<|y5 (γ := Nat × Bool × List Int) [0, 1, 7, 41, 42] (fun g => [(43, .int .i64 g.1), (10, .bool g.2.1)]) (fun g => [(i7, .cells 221 [.own i18 n, .own i21 n]), (i21, .grow 1 3 (cI (atOf n V))), (i18, .grow 1 3 (cI g.2.2))]) (fun g => g.1 ≤ (V.drop 1).length ∧ g.2.2 = rndTo (atOf n V) (2 * V.length) (predsT S n) V l g.1 ∧ Rnd S (gi (atOf n V)) V (gi g.2.2) j ((g.1 + 1 : Nat) : Int) ∧ (g.2.1 = true → j < V.length) ∧ (g.2.1 = false → g.2.2 = l)) (fun g => (V.drop 1).length - g.1) (0, false, l) zR2 zLe (⟨qt _, rfl, hR, fun h => (by cases h), fun _ => rfl⟩) ?_
   rintro ⟨q, ag, l'⟩ ⟨hq, hl', hR', hag, hsame⟩
   try dsimp only at *
   have hl'n : l'.length = n := by rw [hl', rndTo_len, hl]
   refine zSr<|z2 (yb rfl rfl)<|z6<|zd<|zr rfl (fun cq=>?_) (fun cq=>?_)
   ·have hq2 : q < (V.drop 1).length := by simpa using cq
    obtain ⟨b, hb⟩ : ∃ b, (V.drop 1)[q] = b := ⟨_, rfl⟩
    have hbV : V[q + 1]? = some b := by rw [← hb, List.getElem_drop, Nat.add_comm]; exact qq (by simp at hq2; omega)
    obtain ⟨hs1, hs2, hs3, hbm, hb0⟩ := hk.step hl'n (Nat.succ_pos q) hbV hR'
    have hblt := hk.lt b hbm
    have hbnn := hk.ord.nn b hbm
    have hpr : ∀ p ∈ predsT S n b, 0 ≤ p ∧ p < n := fun p hp => preds_rng hG hp
    have hsucc := rndTo_succ (at_ := atOf n V) (K := 2 * V.length) (preds := predsT S n) (l := l) hq2
    rw [hb, ← hl'] at hsucc
    have hgl : ∀ x : Int, 0 ≤ x → x < n → l'[x.toNat]? = some (gi l' x) := fun x h1 h2 => gi_get h1 (by omega)
    have hrb : (predsR f n)[b.toNat]? = some (predsT S n b) := by
     have := hrow b.toNat (by omega)
     rwa [show ((b.toNat : Nat) : Int) = b by omega] at this
    obtain ⟨ps, hps⟩ : ∃ ps, predsT S n b = ps := ⟨_, rfl⟩
    have hpsl : ps.length ≤ 2 * n := by rw [← hps, ← hS]; exact predsT_len f b n
    rw [hps] at hpr hrb
    refine zh<|zd<|zi<|zSr<|z2 (zIM q underlying23 sizeOf3 rfl rfl rfl (by rw [qq hq2, hb])) ?_
    refine z2 (zLi isAgg3 rfl)<|z2 (zAi rfl)<|z6<|zSr<|z2 (zAi rfl)<|z6<|zd<|zSr<|z2 (zMf rfl)<|z2 (zMi rfl)<|z2 (zIM b.toNat underlying118 sizeOf23 rfl rfl (by omega) hrb)<|z2 (zLf isAgg23 rfl)<|z2 (y2 underlying23 rfl)<|z2 (zMi rfl)<|z6<|zi<|y5 (γ := Nat × Int) [0, 1, 7, 10, 12, 41, 42, 43, 50, 51] (fun g => [(52, .int .i64 g.1), (13, .int .i64 g.2)]) (fun g => [(i7, .cells 221 [.own i18 n, .own i21 n]), (i21, .grow 1 3 (cI (atOf n V))), (i18, .grow 1 3 (cI l'))]) (fun g => g.1 ≤ ps.length ∧ bestF (gi l') (gi (atOf n V)) (2 * V.length) (ps.drop g.1) g.2 = bestF (gi l') (gi (atOf n V)) (2 * V.length) ps (-1) ∧ (g.2 = -1 ∨ gi l' g.2 ≠ -1)) (fun g => ps.length - g.1) (0, -1) zR2 zLe (⟨qt _, rfl, .inl rfl⟩) ?_
    rintro ⟨m, best⟩ ⟨hm, hbst, hbn⟩
    try dsimp only at *
    refine zSr<|z2 (yb rfl rfl)<|z6<|zd<|zr rfl (fun cm=>?_) (fun cm=>?_)
    ·have hm2 : m < ps.length := by simp at cm; omega
     obtain ⟨p, hp⟩ : ∃ p, ps[m] = p := ⟨_, rfl⟩
     obtain ⟨hp0, hpn⟩ := hpr p (hp ▸ qu hm2)
     have hbst : bestF (gi l') (gi (atOf n V)) (2 * V.length) (ps.drop (m + 1)) (if gi (atOf n V) p = -1 ∨ gi l' p = -1 then best else if best = -1 then p else meetF (gi l') (gi (atOf n V)) (2 * V.length) best p) = bestF (gi l') (gi (atOf n V)) (2 * V.length) ps (-1) := by
      rw [← hbst, List.drop_eq_getElem_cons hm2, bestF_cons, hp]
     refine zh<|zd<|zi<|zSr<|z2 (zIM m underlying23 sizeOf3 rfl rfl rfl (by rw [qq hm2, hp])) ?_
     refine z2 (zLi isAgg3 rfl)<|z2 (zAi rfl)<|z6<|zi<|zSr<|z2 (ze underlying221 rfl sizeOf23 (by decide) rfl rfl)<|z2 (zl (c := .own _ _) isAgg23 rfl ⟨_, .head⟩ rfl)<|z2 (zMi rfl)<|z2 (yf (j := p.toNat) underlying23 sizeOf3 rfl rfl (by omega) ⟨_, .t1⟩ (by first | rfl | (simp [cI_len, cB_len]; done) | (simp [cI_len, cB_len]; omega)) (by omega))<|z2 (yt (j := p.toNat) isAgg3 rfl ⟨_, .t1⟩ (hatg p hp0 hpn))<|z2 (y7 rfl rfl)<|z2 (zMb rfl)<|zt (s := 67) rfl (fun c1=>?_) (fun c1=>?_)
     ·have d1 : gi (atOf n V) p = -1 := by simpa using c1
      rw [if_pos (.inl d1)] at hbst
      refine z7 rfl rfl c1<|z7 rfl rfl c1<|z7 rfl rfl c1<|z7 rfl rfl c1<|z7 rfl rfl c1<|z7 rfl rfl c1<|z2 (zPt rfl c1 rfl)<|z2 (zAb rfl)<|z6<|yo rfl rfl<|zh<|zRg<|z2 (zAd rfl rfl)<|z2 (zMi rfl)<|z6 ?_
      exact ⟨(m + 1, best), zR10, zR2, zLe, ⟨hm2, hbst, hbn⟩, by dsimp only; omega⟩
     ·have d1 : ¬ gi (atOf n V) p = -1 := by simpa using c1
      refine z8 rfl rfl c1<|z2 (ze underlying221 rfl sizeOf23 (by decide) rfl rfl)<|z8 rfl rfl c1<|z2 (zl (c := .own _ _) isAgg23 rfl ⟨_, .head⟩ rfl)<|z8 rfl rfl c1<|z2 (zMi rfl)<|z8 rfl rfl c1<|z2 (yf (j := p.toNat) underlying23 sizeOf3 rfl rfl (by omega) ⟨_, .t2⟩ (by first | rfl | (simp [cI_len, cB_len]; done) | (simp [cI_len, cB_len]; omega)) (by omega))<|z8 rfl rfl c1<|z2 (yt (j := p.toNat) isAgg3 rfl ⟨_, .t2⟩ (hgl p hp0 hpn))<|z8 rfl rfl c1<|z2 (y7 rfl rfl)<|z2 (zPf rfl c1 rfl)<|z2 (zAb rfl)<|z6<|zz rfl (fun c2=>?_) (fun c2=>?_)
      ·have d2 : gi l' p = -1 := by simpa using c2
       rw [if_pos (.inr d2)] at hbst
       refine zh<|zRg<|z2 (zAd rfl rfl)<|z2 (zMi rfl)<|z6 ?_
       exact ⟨(m + 1, best), zR10, zR2, zLe, ⟨hm2, hbst, hbn⟩, by dsimp only; omega⟩
      ·have d2 : ¬ gi l' p = -1 := by simpa using c2
       rw [if_neg (by rintro (h | h); exact d1 h; exact d2 h)] at hbst
       refine zSr<|z2 (zMi rfl)<|z2 (y7 rfl rfl)<|z2 (zAb rfl)<|z6<|zz rfl (fun c3=>?_) (fun c3=>?_)
       ·have c3 : best = -1 := by simpa using c3
        rw [if_pos c3] at hbst
        refine zRg<|z2 (zMi rfl)<|z2 (zAi rfl)<|z6<|zRg<|z2 (zAd rfl rfl)<|z2 (zMi rfl)<|z6 ?_
        exact ⟨(m + 1, p), zR10, zR2, zLe, ⟨hm2, hbst, .inr d2⟩, by dsimp only; omega⟩
       ·have c3 : ¬ best = -1 := by simpa using c3
        rw [if_neg c3] at hbst
        have hbb : gi l' best ≠ -1 := by rcases hbn with h | h; exact absurd h c3; exact h
        refine zRg<|z2 (q9 isAgg221 sizeOf221 rfl ⟨_, .head⟩ rfl)<|z2 (zMi rfl)<|z2 (zMi rfl)<|y1 rfl (zm (.r (.l (.l (.rest _))))) (meet_spec hk.ord hR'.inv hK (by omega) hl'n hatl hk.lt hbb d2) ?_
        rintro r59 O59 ⟨rfl, rfl⟩
        refine z2 (zAi rfl)<|z6<|yc (za (zb .t2))<|zRg<|z2 (zAd rfl rfl)<|z2 (zMi rfl)<|z6 ?_
        exact ⟨(m + 1, meetF (gi l') (gi (atOf n V)) (2 * V.length) best p), zR10, zR2, zLe, ⟨hm2, hbst, .inr (meet_anc hk.ord hR'.inv _ best p hbb d2 (hK best p (hR'.inv.mem _ hbb) (hR'.inv.mem _ d2))).1⟩, by dsimp only; omega⟩
    ·have hmn : m = ps.length := by simp at cm; omega
     subst hmn
     rw [List.drop_length] at hbst
     have hbst : best = bestF (gi l') (gi (atOf n V)) (2 * V.length) ps (-1) := hbst
     have hst : stepL (atOf n V) (2 * V.length) (predsT S n) l' b = l'.set b.toNat best := by unfold stepL; rw [hps, ← hbst]
     rw [hst] at hs1 hs2 hsucc
     refine y4<|zSr<|z2 (ze underlying221 rfl sizeOf23 (by decide) rfl rfl)<|z2 (zl (c := .own _ _) isAgg23 rfl ⟨_, .head⟩ rfl)<|z2 (zMi rfl)<|z2 (yf (j := b.toNat) underlying23 sizeOf3 rfl rfl (by omega) ⟨_, .t2⟩ (by first | rfl | (simp [cI_len, cB_len]; done) | (simp [cI_len, cB_len]; omega)) (by omega))<|z2 (yt (j := b.toNat) isAgg3 rfl ⟨_, .t2⟩ (hgl b hbnn hblt))<|z2 (zMi rfl)<|z2 (yj rfl rfl)<|z6<|zz rfl (fun ce=>?_) (fun ce=>?_)
     ·have ce : ¬ gi l' b = best := by simpa using ce
      have hjl : j < V.length := Classical.byContradiction fun h => ce (by
       have h2 := hs2 (by omega)
       have h3 := gi_set (l := l') hbnn (by omega) best
       rw [h2] at h3
       have h4 := congrFun h3 b
       simpa [setN] using h4)
      refine zRg<|z2 (ze underlying221 rfl sizeOf23 (by decide) rfl rfl)<|z2 (zl (c := .own _ _) isAgg23 rfl ⟨_, .head⟩ rfl)<|z2 (zMi rfl)<|z2 (zMi rfl)<|z2 (yf (j := b.toNat) underlying23 sizeOf3 rfl rfl (by omega) ⟨_, .t2⟩ (by first | rfl | (simp [cI_len, cB_len]; done) | (simp [cI_len, cB_len]; omega)) (by omega))<|yu (j := b.toNat) sizeOf3 rfl rfl .t2 (by first | omega | (simp; omega))<|z2 (zAb rfl)<|z6<|zRg<|z2 (zAd rfl rfl)<|z2 (zMi rfl)<|z6 ?_
      exact ⟨(q + 1, true, l'.set b.toNat best), zR5, zR2, zLe, ⟨hq2, hsucc.symm, hs1, fun _ => hjl, fun h => by cases h⟩, by dsimp only; omega⟩
     ·have ce : gi l' b = best := by simpa using ce
      rw [← ce, set_same hbnn] at hs1 hsucc
      refine zh<|zRg<|z2 (zAd rfl rfl)<|z2 (zMi rfl)<|z6 ?_
      exact ⟨(q + 1, ag, l'), zR5, zR2, zLe, ⟨hq2, hsucc.symm, hs1, hag, hsame⟩, by dsimp only; omega⟩
   ·have hqn : q = (V.drop 1).length := by have h0 : ¬ (q : Int) < ((V.drop 1).length : Int) := (by simpa using cq); omega
    subst hqn
    rw [rndTo_all] at hl'
    have hR2 : Rnd S (gi (atOf n V)) V (gi l') (j + 1) 1 := by rw [hl']; exact hk.pass hl hR
    refine y4 ?_
    exact ⟨(j + 1, ag, l'), zR3, zR1, zLe, ⟨hR2, hl'n, fun h => by have := hag h; omega, fun h => by have e := hsame h; rw [e] at hl'; have := hk.near_eq hl (hk.fixed hl hR hl'.symm); rw [e, this, hNG]⟩, by dsimp only; rw [if_pos rfl]; split <;> omega⟩
  ·have ca : again = false := by simpa using ca
   have hfin := hfin ca
   subst hfin
   refine y4<|zSr<|z2 (ze underlying221 rfl sizeOf23 (by decide) rfl rfl)<|z2 (zl (c := .own _ _) isAgg23 rfl ⟨_, .head⟩ rfl)<|z2 (yf (j := 0) underlying23 sizeOf3 rfl rfl rfl ⟨_, .t2⟩ (by rw [cI_len, nearG_len]) (by omega))<|yu (j := 0) sizeOf3 rfl rfl .t2 (by rw [nearG_len]; omega)<|z6<|zSr<|z2 (ze underlying221 rfl sizeOf23 (by decide) rfl rfl)<|z2 (zl (c := .own _ _) isAgg23 rfl ⟨_, .head⟩ rfl)<|z2 (zAo rfl)<|z6<|yc (GStep.drop .head)<|yc (GStep.drop .head)<|zg<|zk (x := .own _ _) rfl ?_
   exact ⟨i18, rfl, rfl⟩
end Go.Proofs.YtiojekbkamegdaaGreatDoor
namespace Go.Proofs.YtiojekbkamegdaaGreatDoor
open Go.Proofs.Tryz
section
variable {E : World} {P : Program} {env : AEnv} {O O' O'' : OL}
theorem GStep.knowIC {j off i m : Nat} {T T' : TypeId} {cs : List AV} {l : List Int} (hO : Pick O i (.grow 1 T (cI l)) O') (hP : Put O' j (.cells T' cs) (.cells T' (cs.set off (.fro 1 (l.map fun x => [.int .i64 x])))) O'') (hc : cs[off]? = some (.own i m)) (hm : l.length = m) : GStep E env O env O'' :=
 qf (rows := l.map fun x => [.int .i64 x]) (by rw [cI_flat]; exact hO) hP hc (fun r hr => by obtain ⟨_, _, rfl⟩ := List.mem_map.1 hr; rfl) (by decide) (by rw [qx]; exact hm)
theorem GStep.nestBackN {α : Type} {c : Enc α} {b j m i n : Nat} {T e : TypeId} {rows : List (List α)} {r : List α} (hn : r.length = n) (hP : Pick O i (.grow c.k e (c.av r)) O') (hO : Put O' m (nestH c T e b rows j n i) (nestO c T e b (rows.set j r)) O'') : GStep E env O env O'' := by subst hn; exact GStep.nestBack hP hO
theorem ACall.weak {f : FuncId} {args : List AV} {R : AV → OL → Prop} {y : AV} (h : ACall P E f args [] R) (hr : ∀ x O, R x O → O = [] ∧ ∀ I v, RepV I x v → RepV I y v) : AFun P E f args y := fun I F w vs h1 h2 =>
 (h I F w vs h1 h2).mono fun v w' ⟨J, x, O', a, b, c, d⟩ => by
  obtain ⟨e, hv⟩ := hr x O' d
  subst e
  exact ⟨J, y, [], a, hv _ _ b, c, rfl⟩
theorem run_neq_ptr_nil {tp te : TypeId} {j : TypeInfo} (a : Addr) (hp : P.underlying tp = some (.pointer te)) (hte : P.info? te = some j) (w : World) :
  (binOp .neq tp (.pointer (some a)) (.pointer none)).run P w = .ok (.bool true) w := by
 have h : ∀ d : Nat, (Op.equalIn (d + 1) tp (.pointer (some a)) (.pointer none)).run P w = .ok false w := fun d => by
  simp [Op.equalIn, run_underlying hp, sizeOf, typeInfo, hte]
 simp only [binOp]
 simp [Op.equal, Op.maxDepth, h 9999]
variable {d ty : Nat} {pos : String} {af : Array Edge} {x y z : Operand} {t u e T : TypeId}
theorem Gv.neqPf {cs : List AV} {j : TypeInfo} (hp : P.underlying t = some (.pointer e)) (hte : P.info? e = some j) (hx : aev env x = .pf cs) : Gv P env O (Oper.mk (some d) (.binOp .neq t x (.const (.pointer none)) u) ty pos af none) (.bool true) := qn fun I ρ h => by
 have h1 := h.ev x
 rw [hx] at h1
 obtain ⟨b, off, vs, e1, _⟩ := h1
 exact ⟨_, rfl, fun w => by
  have e2 : Go.Proofs.YtiojekbkamegdaaGreatDoor.ev ρ (.const (.pointer none)) = .pointer none := rfl
  simp only [execOp, e1, e2]; simp [eqGuard, run_neq_ptr_nil _ hp hte]⟩
end
end Go.Proofs.YtiojekbkamegdaaGreatDoor
