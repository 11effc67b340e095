/- The document's machine told as plain data, and what stays so in it. No conditions. -/
import Derived.Test.YtpojdepccecpgaaGreatDoorLh
import Derived.Test.YtpojdepccecpgaaGreatDoorLe
import Derived.Test.YtpojdepccecpgaaGreatDoorLa
import Derived.Test.YtpojdepccecpgaaGreatDoorLd
import Derived.Test.YtpojdepccecpgaaGreatDoorLc
set_option linter.unusedVariables false
set_option linter.unusedSimpArgs false
set_option linter.unusedSectionVars false
namespace Go.Proofs.YtpojdepccecpgaaGreatDoor
open Go.Proofs.Tryz
open Go.Proofs Go.Lib Go.Shelf Go.RowKit
set_option maxRecDepth 20000
variable {E : World}
theorem indexFuncP_spec {p : PPhi → Bool} {fn : FuncId} {c : List AV} (xs : List PPhi) (hl : xs.length ≤ 281474976710656) (hp : ∀ x ∈ xs, AFun prog E fn ([.agg (encPhi x)] ++ c) (.bool (p x))) :
  AFun prog E 130 [.fro 3 (xs.map encPhi), .fn fn [] c] (.int .i64 (firstI p xs 0)) := by
 refine zl func130 Z (by decide) Z<|zSr<|zVzAi Z<|z6<|zb<|zSr<|zVzMf Z<|zVGvlenM jq Z<|zVzMi Z<|z6<|zh<|y3 (γ := Nat) [0, 1, 7] (fun k => [(8, .int .i64 k)]) (fun k => []) (fun k => k ≤ xs.length ∧ (xs.take k).all (fun x => !p x)) (fun k => xs.length - k) 0 zR1 zLe (⟨qp _, Z⟩) ?_
 rintro k ⟨hk, hall⟩
 refine zSr<|zVGvlss Z Z<|z6<|zb<|zk Z (fun ck=>?_) (fun ck=>?_)
 ·have hk2 : k < xs.length := by omega
  refine ze<|zb<|zh<|zSr<|zVzMi Z<|zVzAi Z<|z6<|zSr<|z8 (yf (v := .fn _ _ _) Z)<|zVzMf Z<|zVzMi Z<|z8 (yv jq js Z Z Z (qm (by omega)))<|zVGvloadWF Zt js Z Z<|AOps.callVP Z (hp _ (qq hk2)) Z<|z6<|zz Z (fun cp=>?_) (fun cp=>?_)
  ·refine zSr<|zVzMi Z<|zVzAi Z<|z6<|zf<|zj (x := .int _ _) Z ?_
   rw [firstI_drop p xs k hk hall, List.drop_eq_getElem_cons hk2, firstI, if_pos cp]
  ·refine ze<|zRg<|zVzAd Z Z<|zVzMi Z<|z6 ?_
   exact ⟨k + 1, zR3, zR1, zLe, ⟨hk2, by rw [qn hk2, List.all_append, hall]; simp [cp]⟩, by omega⟩
 ·have hkn : k = xs.length := by omega
  refine y2<|zSr<|zVzAi Z<|z6<|zf<|zj (x := .int _ _) Z ?_
  rw [firstI_drop p xs k hk hall, hkn, List.drop_length, firstI]
theorem containsFuncP_spec {p : PPhi → Bool} {fn : FuncId} {c : List AV} (xs : List PPhi) (hl : xs.length ≤ 281474976710656) (hp : ∀ x ∈ xs, AFun prog E fn ([.agg (encPhi x)] ++ c) (.bool (p x))) :
  AFun prog E 91 [.fro 3 (xs.map encPhi), .fn fn [] c] (.bool (xs.any p)) := by
 refine zl func91 Z (by decide) Z<|zSr<|zVzAb Z<|z6<|zSr<|zVzMf Z<|z8 (yf (v := .fn _ _ _) Z)<|zg (indexFuncP_spec xs hl hp) Z<|z8 (qc Z Z)<|zVzAb Z<|z6<|zf<|zj (x := .bool _) Z ?_
 rw [firstI_ge]
theorem indexFuncX_spec {p : PInst → Bool} {fn : FuncId} {c : List AV} (xs : List PInst) (hl : xs.length ≤ 281474976710656) (hp : ∀ x ∈ xs, AFun prog E fn ([.agg (encInst x)] ++ c) (.bool (p x))) :
  AFun prog E 136 [.fro 4 (xs.map encInst), .fn fn [] c] (.int .i64 (firstI p xs 0)) := by
 refine zl func136 Z (by decide) Z<|zSr<|zVzAi Z<|z6<|zb<|zSr<|zVzMf Z<|zVGvlenM jw Z<|zVzMi Z<|z6<|zh<|y3 (γ := Nat) [0, 1, 7] (fun k => [(8, .int .i64 k)]) (fun k => []) (fun k => k ≤ xs.length ∧ (xs.take k).all (fun x => !p x)) (fun k => xs.length - k) 0 zR1 zLe (⟨qp _, Z⟩) ?_
 rintro k ⟨hk, hall⟩
 refine zSr<|zVGvlss Z Z<|z6<|zb<|zk Z (fun ck=>?_) (fun ck=>?_)
 ·have hk2 : k < xs.length := by omega
  refine ze<|zb<|zh<|zSr<|zVzMi Z<|zVzAi Z<|z6<|zSr<|z8 (yf (v := .fn _ _ _) Z)<|zVzMf Z<|zVzMi Z<|z8 (yv jw jz Z Z Z (qm (by omega)))<|zVGvloadWF Y8 jz Z Z<|AOps.callVP Z (hp _ (qq hk2)) Z<|z6<|zz Z (fun cp=>?_) (fun cp=>?_)
  ·refine zSr<|zVzMi Z<|zVzAi Z<|z6<|zf<|zj (x := .int _ _) Z ?_
   rw [firstI_drop p xs k hk hall, List.drop_eq_getElem_cons hk2, firstI, if_pos cp]
  ·refine ze<|zRg<|zVzAd Z Z<|zVzMi Z<|z6 ?_
   exact ⟨k + 1, zR3, zR1, zLe, ⟨hk2, by rw [qn hk2, List.all_append, hall]; simp [cp]⟩, by omega⟩
 ·have hkn : k = xs.length := by omega
  refine y2<|zSr<|zVzAi Z<|z6<|zf<|zj (x := .int _ _) Z ?_
  rw [firstI_drop p xs k hk hall, hkn, List.drop_length, firstI]
theorem containsFuncX_spec {p : PInst → Bool} {fn : FuncId} {c : List AV} (xs : List PInst) (hl : xs.length ≤ 281474976710656) (hp : ∀ x ∈ xs, AFun prog E fn ([.agg (encInst x)] ++ c) (.bool (p x))) :
  AFun prog E 94 [.fro 4 (xs.map encInst), .fn fn [] c] (.bool (xs.any p)) := by
 refine zl func94 Z (by decide) Z<|zSr<|zVzAb Z<|z6<|zSr<|zVzMf Z<|z8 (yf (v := .fn _ _ _) Z)<|zg (indexFuncX_spec xs hl hp) Z<|z8 (qc Z Z)<|zVzAb Z<|z6<|zf<|zj (x := .bool _) Z ?_
 rw [firstI_ge]
theorem shaped1_spec (f : PFunc) (p : PPhi) (hp : okPhi p) : AFun prog E 92 ([.agg (encPhi p)] ++ [.pf (encF f)]) (.bool (!phiOK f p)) := by
 refine zl func92 Z (by decide) Z<|zSr<|y8 (cs := _) Z Z Z<|zVzAb Z<|z6<|zSr<|zVGvloadWF jp ji Z Z<|zVGvloadWF Zt js Z Z<|zg (phi_spec _ _ (by assumption)) Z<|zVGvnot Z<|zVzAb Z<|z6<|zf<|zj (x := .bool _) Z ?_
 rfl
theorem shaped2_spec (f : PFunc) (x : PInst) (hx : okL x.args) : AFun prog E 95 ([.agg (encInst x)] ++ [.pf (encF f)]) (.bool (!instOK f x)) := by
 refine zl func95 Z (by decide) Z<|zSr<|y8 (cs := _) Z Z Z<|zVzAb Z<|z6<|zSr<|zVGvloadWF jp ji Z Z<|zVGvloadWF Y8 jz Z Z<|zg (inst_spec _ _ (by assumption)) Z<|zVGvnot Z<|zVzAb Z<|z6<|zf<|zj (x := .bool _) Z ?_
 rfl
def blkOK (f : PFunc) (b : PBlock) : Bool := !(b.phis.any fun p => !phiOK f p) && !(b.insts.any fun x => !instOK f x) && termOK f b.term
theorem blk_bad1 {f : PFunc} {b : PBlock} (h : (b.phis.any fun p => !phiOK f p) = true) : blkOK f b = false := by unfold blkOK; rw [h]; rfl
theorem blk_bad2 {f : PFunc} {b : PBlock} (h : (b.insts.any fun x => !instOK f x) = true) : blkOK f b = false := by unfold blkOK; rw [h]; simp
theorem blk_bad3 {f : PFunc} {b : PBlock} (h : (!termOK f b.term) = true) : blkOK f b = false := by unfold blkOK; rw [show termOK f b.term = false by simpa using h]; simp
theorem blk_good {f : PFunc} {b : PBlock} (h1 : (b.phis.any fun p => !phiOK f p) = false) (h2 : (b.insts.any fun x => !instOK f x) = false) (h3 : (!termOK f b.term) = false) : blkOK f b = true := by unfold blkOK; rw [h1, h2, show termOK f b.term = true by simpa using h3]; rfl
def shapedB (f : PFunc) : Bool := decide (NamesP f) && (f.blocks.all (blkOK f) && decide (sumTo f.blocks ≤ 1024))
theorem Shaped_spec (f : PFunc) (hf : okFunc f) (h1 : f.vars.length ≤ 100000000) (h2 : f.blocks.length ≤ 100000000) (hp : f.params.length ≤ 100000000) (hn : okNames f) (hL : Letters E) : AFun prog E 57 [.agg (encF f)] (.bool (shapedB f)) := by
 refine zl func57 Z (by decide) Z<|zSr<|y8 (cs := _) Z Z Z<|zVzAb Z<|z6<|zb<|zSr<|zVGvloadWF jp ji Z Z<|zg (pnames_spec _ (by omega) (by omega) (by omega) (by assumption) hL) Z<|zVGvnot Z<|z6<|zz Z (fun cn=>?_) (fun cn=>?_)
 ·refine zSr<|zVzAb Z<|z6<|zf<|zj (x := .bool _) Z ?_
  exact jb (by unfold shapedB; rw [show decide (NamesP f) = false by simpa using cn]; rfl)
 ·have hN : NamesP f := by simpa using cn
  have hbl := hN.2.2.1.2.2.2.2
  refine ze<|zSr<|zVzAi Z<|z6<|zb<|zSr<|zVzFF j8 Z ju Z Z<|zVzLf Z5 Z<|zVGvlenM jh Z<|zVzMi Z<|z6<|zh<|y3 (γ := Nat) [1, 11, 12] (fun k => [(3, .int .i64 (sumTo (f.blocks.take k))), (13, .int .i64 k)]) (fun k => []) (fun k => k ≤ f.blocks.length ∧ sumTo (f.blocks.take k) ≤ k * 562949953421312 ∧ (f.blocks.take k).all (blkOK f) = true) (fun k => f.blocks.length - k) 0 zR2 zLe (⟨qp _, qp _, Z⟩) ?_
  rintro k ⟨hk, hsum, hall⟩
  refine zSr<|zVGvlss Z Z<|z6<|zb<|zk Z (fun ck=>?_) (fun ck=>?_)
  ·have hk2 : k < f.blocks.length := by simp at ck; omega
   obtain ⟨b, hbk⟩ : ∃ b, f.blocks[k] = b := ⟨_, rfl⟩
   have hget : f.blocks[k]? = some b := by rw [qm hk2, hbk]
   have hb := hf.2.2.2 b (hbk ▸ qq hk2)
   have hb1 := hb.1.lt
   have hb2 := hb.2.1.lt
   have hsucc := sumTo_succ f.blocks k hk2
   rw [hbk] at hsucc
   refine ze<|zb<|zh<|zSr<|z8 (zIM k jh jm Z Z Z hget)<|zVGvloadWF Zq jm Z Z<|zu (cs := [.str ⟨#[]⟩, .raw (.slice none 0 0), .raw (.slice none 0 0), .int .i64 0, .int .i64 0, .int .i64 0, .int .i64 0]) Z4 Z Z<|fun i5 => zt jm Z Z Z Z Z Z .head Z<|z6<|zSr<|zVzMi Z<|z8 (zc j6 Z Z8 (by decide) Z Z)<|z8 (zi (c := .fro _ _) Zs Z ⟨_, .head⟩ Z)<|zVGvlenM jq Z<|z8 (zc j6 Z Zh (by decide) Z Z)<|z8 (zi (c := .fro _ _) Y3 Z ⟨_, .head⟩ Z)<|zVGvlenM jw Z<|zVzAd Z Z<|zVzAd Z Z<|zVzAi Z<|z6<|zSr<|z8 (zc j6 Z Z8 (by decide) Z Z)<|z8 (zi (c := .fro _ _) Zs Z ⟨_, .head⟩ Z)<|z8 (Gv.func Z Z)<|zg (containsFuncP_spec b.phis (by omega) (fun p hp => shaped1_spec f p (hb.2.2.1 p hp))) Z<|zVzMb Z<|zo (s := 30) Z (fun c1=>?_) (fun c1=>?_)
   ·refine z7 Z Z c1<|z7 Z Z c1<|z7 Z Z c1<|z7 Z Z c1<|zVzPt Z c1 Z<|zVzAb Z<|z6<|zSr<|zVzMb Z<|zVzMb Z<|z7 Z Z Z<|z7 Z Z Z<|z7 Z Z Z<|z7 Z Z Z<|z7 Z Z Z<|zVzPt Z Z Z<|z6<|yq Z Z<|zSr<|zVzAb Z<|z6<|zf<|zj (x := .bool _) Z ?_
    exact jb (by unfold shapedB; rw [show f.blocks.all (blkOK f) = false from Bool.eq_false_iff.2 (all_bad hk2 (by rw [hbk]; first | exact blk_bad1 (by assumption) | exact blk_bad2 (by assumption) | exact blk_bad3 (by assumption)))]; simp)
   ·refine za Z Z c1<|z8 (zc j6 Z Zh (by decide) Z Z)<|za Z Z c1<|z8 (zi (c := .fro _ _) Y3 Z ⟨_, .head⟩ Z)<|za Z Z c1<|z8 (Gv.func Z Z)<|za Z Z c1<|zg (containsFuncX_spec b.insts (by omega) (fun x hx => shaped2_spec f x (hb.2.2.2 x hx))) Z<|zVzPf Z c1 Z<|zVzAb Z<|z6<|zSr<|zVzMb Z<|zVzMb Z<|zo (s := 37) Z (fun c2=>?_) (fun c2=>?_)
    ·refine z7 Z Z c2<|z7 Z Z c2<|z7 Z Z c2<|z7 Z Z c2<|z7 Z Z c2<|zVzPt Z c2 Z<|z6<|yq Z Z<|zSr<|zVzAb Z<|z6<|zf<|zj (x := .bool _) Z ?_
     exact jb (by unfold shapedB; rw [show f.blocks.all (blkOK f) = false from Bool.eq_false_iff.2 (all_bad hk2 (by rw [hbk]; first | exact blk_bad1 (by assumption) | exact blk_bad2 (by assumption) | exact blk_bad3 (by assumption)))]; simp)
    ·refine za Z Z c2<|zVGvloadWF jp ji Z Z<|za Z Z c2<|z8 (zc j6 Z jx (by decide) Z Z)<|za Z Z c2<|z8 (Gv.loadAC (l := [_, _, _, _]) Ye jx Z ⟨_, .head⟩ Z Z)<|za Z Z c2<|zg (term_spec _ _) Z<|za Z Z c2<|zVGvnot Z<|zVzPf Z c2 Z<|z6<|zz Z (fun c3=>?_) (fun c3=>?_)
     ·refine zSr<|zVzAb Z<|z6<|zf<|zj (x := .bool _) Z ?_
      exact jb (by unfold shapedB; rw [show f.blocks.all (blkOK f) = false from Bool.eq_false_iff.2 (all_bad hk2 (by rw [hbk]; first | exact blk_bad1 (by assumption) | exact blk_bad2 (by assumption) | exact blk_bad3 (by assumption)))]; simp)
     ·refine ze<|zRg<|zVzAd Z Z<|zVzMi Z<|z6 ?_
      exact ⟨k + 1, zR3, ⟨congrArg (AV.int .i64) (by rw [hsucc]; omega), rfl, trivial⟩, ⟨_, (.drop (.refl _)), rfl⟩, ⟨hk2, by rw [hsucc]; omega, all_take hk2 hall (by rw [hbk]; exact blk_good (by assumption) (by assumption) (by assumption))⟩, by omega⟩
  ·have hkn : k = f.blocks.length := by simp at ck; omega
   subst hkn
   rw [qr] at hall ⊢
   refine y2<|zSr<|zVzMi Z<|z8 (Gv.leq Z Z)<|zVzAb Z<|z6<|zf<|zj (x := .bool _) Z ?_
   exact jb (by unfold shapedB; rw [qy hN, hall]; simp; omega)
theorem phiOK_iff (f : PFunc) (p : PPhi) : phiOK f p = true ↔ PhiP f p := by
 unfold phiOK PhiP
 simp only [w0, Bool.not_eq_true', decide_eq_false_iff_not, w4]
 constructor
 ·rintro ⟨⟨⟨⟨h1, h2⟩, h3⟩, h4⟩, h5⟩; exact ⟨h3, h2, by omega, h4, h5⟩
 ·rintro ⟨h3, h2, h1, h4, h5⟩; exact ⟨⟨⟨⟨by omega, h2⟩, h3⟩, h4⟩, h5⟩
theorem tyWord_ne (t : Int) : ¬ tyWord t = ⟨#[]⟩ ↔ 0 ≤ t ∧ t ≤ 2 := by
 unfold tyWord
 constructor
 ·intro h
  by_cases h0 : t = 0
  ·omega
  ·by_cases h1 : t = 1
   ·omega
   ·by_cases h2 : t = 2
    ·omega
    ·rw [if_neg h0, if_neg h1, if_neg h2] at h; exact absurd rfl h
 ·intro h e
  have : t = 0 ∨ t = 1 ∨ t = 2 := by omega
  rcases this with rfl | rfl | rfl <;> exact absurd e (by decide)
theorem blkOK_iff (f : PFunc) (b : PBlock) : blkOK f b = true ↔ BlkP f b := by
 unfold blkOK BlkP
 simp only [w0, Bool.not_eq_true', List.any_eq_false, Bool.not_eq_false]
 constructor
 ·rintro ⟨⟨h1, h2⟩, h3⟩
  exact ⟨fun p hp => (phiOK_iff f p).1 (by simpa using h1 p hp), fun x hx => (instOK_iff f x).1 (by simpa using h2 x hx), h3⟩
 ·rintro ⟨h1, h2, h3⟩
  exact ⟨⟨fun p hp => by simpa using (phiOK_iff f p).2 (h1 p hp), fun x hx => by simpa using (instOK_iff f x).2 (h2 x hx)⟩, h3⟩
theorem unlP_iff {l : List ByteArray} : UnlP l ↔ ∀ i (h : i < l.length), scanName l[i] = true ∧ l[i] ∉ l.take i := by
 unfold UnlP
 constructor <;> intro h i hi
 ·exact ⟨(h i hi).1, fun hm => by have := inB_iff.2 hm; rw [(h i hi).2] at this; cases this⟩
 ·exact ⟨(h i hi).1, Bool.eq_false_iff.2 fun hm => (h i hi).2 (inB_iff.1 hm)⟩
theorem vn_getE {f : PFunc} {i : Nat} (h : i < (VNames f).length) (h' : i < f.vars.length) : (VNames f)[i] = f.vars[i].name := by
 have : (VNames f)[i]? = some f.vars[i].name := by unfold VNames; rw [qu, qm h']; rfl
 rw [qm h] at this
 simpa using this
theorem bn_getE {f : PFunc} {i : Nat} (h : i < (BNames f).length) (h' : i < f.blocks.length) : (BNames f)[i] = f.blocks[i].name := by
 have : (BNames f)[i]? = some f.blocks[i].name := by unfold BNames; rw [qu, qm h']; rfl
 rw [qm h] at this
 simpa using this
theorem shapedB_eq (f : PFunc) : shapedB f = decide (ShapedP f) := by
 rw [Bool.eq_iff_iff, decide_eq_true_iff]
 unfold shapedB
 simp only [w0, decide_eq_true_iff, List.all_eq_true, blkOK_iff]
 unfold NamesP LensP ShapedP bad1
 simp only [unlP_iff]
 constructor
 ·rintro ⟨⟨h1, h2, ⟨g1, g2, g3, g4, g5⟩, h4, h5⟩, h6, h7⟩
  refine ⟨?_, h2, fun i h => ?_, fun i h => ?_, h7, h6⟩
  ·simp; omega
  ·have ht := (tyWord_ne _).1 (h1 i h)
   have hu := h4 i (by unfold VNames; simpa using h)
   have e := vn_getE (f := f) (i := i) (by unfold VNames; simpa using h) h
   rw [e] at hu
   exact ⟨by rw [name_eq]; exact hu.1, ht.1, ht.2, fun s hs e2 => hu.2 (by unfold VNames; rw [← List.map_take, ← e2]; exact hs)⟩
  ·have hu := h5 i (by unfold BNames; simpa using h)
   have e := bn_getE (f := f) (i := i) (by unfold BNames; simpa using h) h
   rw [e] at hu
   exact ⟨by rw [name_eq]; exact hu.1, fun s hs e2 => hu.2 (by unfold BNames; rw [← List.map_take, ← e2]; exact hs)⟩
 ·rintro ⟨h1, h2, h3, h4, h7, h6⟩
  simp at h1
  refine ⟨⟨fun i h => (tyWord_ne _).2 ⟨(h3 i h).2.1, (h3 i h).2.2.1⟩, h2, by omega, fun i h => ?_, fun i h => ?_⟩, h6, h7⟩
  ·have h' : i < f.vars.length := by simpa using h
   have e := vn_getE h h'
   rw [e]
   exact ⟨by rw [← name_eq]; exact (h3 i h').1, fun hm => (h3 i h').2.2.2 _ (by unfold VNames at hm; rw [← List.map_take] at hm; exact hm) rfl⟩
  ·have h' : i < f.blocks.length := by simpa using h
   have e := bn_getE h h'
   rw [e]
   exact ⟨by rw [← name_eq]; exact (h4 i h').1, fun hm => (h4 i h').2 _ (by unfold BNames at hm; rw [← List.map_take] at hm; exact hm) rfl⟩
end Go.Proofs.YtpojdepccecpgaaGreatDoor
namespace Go.Proofs.YtpojdepccecpgaaGreatDoor
open Go.Proofs.Tryz
open Go.Proofs Go.Lib Go.Shelf Go.RowKit
variable {E : World}
set_option maxRecDepth 20000
theorem ShapedP.ends {f : PFunc} (h : ShapedP f) : EndsOk f := by
 obtain ⟨h1, _, _, _, _, h6⟩ := h
 unfold bad1 at h1
 simp only [Bool.or_eq_false_iff, decide_eq_false_iff_not] at h1
 refine ⟨by omega, fun b hb c hc => ?_⟩
 have ht := (h6 b hb).2.2
 unfold termOK at ht
 unfold endsL at hc
 split at hc
 ·rename_i hk
  rw [if_pos hk] at ht
  simp only [w0, hasB, w4] at ht
  simp at hc; subst hc; exact ht.1.1
 ·rename_i hk
  rw [if_neg hk] at ht
  split at hc
  ·rename_i hk1
   rw [if_pos hk1] at ht
   simp only [w0, hasB, w4] at ht
   split at hc
   ·simp at hc; subst hc; exact ht.1.2
   ·simp at hc; rcases hc with rfl | rfl
    ·exact ht.1.2
    ·exact ht.2
  ·cases hc
def blkT (f : PFunc) (b : PBlock) : Bool := b.phis.all (phiT f) && b.insts.all (instT f) && termT f b.term
def typedB (f : PFunc) : Bool := shapedB f && f.blocks.all (blkT f)
theorem small.shaped {f : PFunc} (hf : small f) (hL : Letters E) : AFun prog E 57 [.agg (encF f)] (.bool (shapedB f)) :=
 Shaped_spec f hf.ok (by have := hf.1; omega) (by have := hf.2.2.1; omega) (by have := hf.2.1; omega) hf.names hL
theorem term_var {f : PFunc} {t : PTerm} (h : termOK f t = true) (hk : ¬ t.kind = 0) : hasV f t.var = true := by
 unfold termOK at h
 rw [if_neg hk] at h
 split at h
 ·simp only [w0] at h; exact h.1.1
 ·split at h
  ·simp only [w0] at h; exact h.1
  ·cases h
theorem Typed_spec (f : PFunc) (hf : small f) (hL : Letters E) : AFun prog E 81 [.agg (encF f)] (.int .i64 (if typedB f then 0 else 3)) := by
 have hok := hf.ok
 refine zl func81 Z (by decide) Z<|zSr<|y8 (cs := _) Z Z Z<|zVzAi Z<|z6<|zb<|zSr<|zVGvloadWF jp ji Z Z<|zg (hf.shaped hL) Z<|zVGvnot Z<|z6<|zz Z (fun cs=>?_) (fun cs=>?_)
 ·refine zSr<|zVzAi Z<|z6<|zf<|zj (x := .int _ _) Z ?_
  unfold typedB; rw [show shapedB f = false by simpa using cs]; rfl
 ·have hsb : shapedB f = true := by simpa using cs
  have hS : ShapedP f := by rw [shapedB_eq] at hsb; exact of_decide_eq_true hsb
  have hB := hS.2.2.2.2.2
  have hfl := hok.2.2.1.lt
  refine ze<|zb<|zSr<|zVzFF j8 Z ju Z Z<|zVzLf Z5 Z<|zVGvlenM jh Z<|zVzMi Z<|z6<|zh<|y3 (γ := Nat) [1, 13, 14] (fun k => [(15, .int .i64 k)]) (fun k => []) (fun k => k ≤ f.blocks.length ∧ (f.blocks.take k).all (blkT f) = true) (fun k => f.blocks.length - k) 0 zR1 zLe (⟨qp _, Z⟩) ?_
  rintro k ⟨hk, hall⟩
  refine zSr<|zVGvlss Z Z<|z6<|zb<|zk Z (fun ck=>?_) (fun ck=>?_)
  ·have hk2 : k < f.blocks.length := by simp at ck; omega
   obtain ⟨b, hbk⟩ : ∃ b, f.blocks[k] = b := ⟨_, rfl⟩
   have hget : f.blocks[k]? = some b := by rw [qm hk2, hbk]
   have hmem : b ∈ f.blocks := hbk ▸ qq hk2
   obtain ⟨hph, hin, htm⟩ := hB b hmem
   have hbad : blkT f b = false → typedB f = false := fun h => by unfold typedB; rw [Bool.eq_false_iff.2 (all_bad hk2 (by rw [hbk]; exact h))]; simp
   have hs5 := hok.2.2.2 b hmem
   have hpl := hs5.1.lt
   have hil := hs5.2.1.lt
   refine ze<|zb<|zh<|zSr<|z8 (zIM k jh jm Z Z Z hget)<|zVGvloadWF Zq jm Z Z<|zu (cs := [.str ⟨#[]⟩, .raw (.slice none 0 0), .raw (.slice none 0 0), .int .i64 0, .int .i64 0, .int .i64 0, .int .i64 0]) Z4 Z Z<|fun i4 => zt jm Z Z Z Z Z Z .head Z<|zw (yi (t := 4) Z .head)<|z6<|zb<|zSr<|zVzFF j6 Z Z8 Z Z<|zVzLf Zs Z<|zVGvlenM jq Z<|zVzMi Z<|z6<|zh<|y3 (γ := Nat) [1, 4, 13, 14, 15, 20, 21] (fun p => [(22, .int .i64 p)]) (fun p => []) (fun p => p ≤ b.phis.length ∧ (b.phis.take p).all (phiT f) = true) (fun p => b.phis.length - p) 0 zR1 zLe (⟨qp _, Z⟩) ?_
   rintro p ⟨hp, hpall⟩
   refine zSr<|zVGvlss Z Z<|z6<|zb<|zk Z (fun cp=>?_) (fun cp=>?_)
   ·have hp2 : p < b.phis.length := by simp at cp; omega
    have hpm := qq hp2
    have hP := hph _ hpm
    refine ze<|zb<|zh<|zSr<|z8 (zIM p jq js Z Z Z (qm hp2))<|zVGvloadWF Zt js Z Z<|zu (cs := [.int .i64 0, .raw (.slice none 0 0), .raw (.slice none 0 0)]) Zb Z Z<|fun i6 => zt js Z Z Z Z Z Z .head Z<|zw (yi (t := 6) Z .head)<|z6<|zSr<|zVGvloadWF jp ji Z Z<|zVGvloadWF Zt js Z Z<|zg (yphi_spec f b.phis[p] (hs5.2.2.1 _ hpm) hP.2.2.2.1 hP.1) Z<|zVGvnot Z<|z6<|zz Z (fun cq=>?_) (fun cq=>?_)
    ·refine zSr<|zVzAi Z<|z6<|zf<|zj (x := .int _ _) Z ?_
     rw [hbad (by unfold blkT; rw [Bool.eq_false_iff.2 (all_bad hp2 (by simpa using cq))]; rfl)]; rfl
    ·refine ze<|zRg<|zVzAd Z Z<|zVzMi Z<|z6 ?_
     exact ⟨p + 1, zR7, zR1, zLe, ⟨hp2, all_take hp2 hpall (by simpa using cq)⟩, by omega⟩
   ·have hpn : p = b.phis.length := by simp at cp; omega
    subst hpn
    rw [qr] at hpall
    refine y2<|zb<|zSr<|zVzFF j6 Z Zh Z Z<|zVzLf Y3 Z<|zVGvlenM jw Z<|zVzMi Z<|z6<|zh<|y3 (γ := Nat) [1, 4, 13, 14, 15, 32, 33] (fun q => [(34, .int .i64 q)]) (fun q => []) (fun q => q ≤ b.insts.length ∧ (b.insts.take q).all (instT f) = true) (fun q => b.insts.length - q) 0 zR1 zLe (⟨qp _, Z⟩) ?_
    rintro q ⟨hq, hqall⟩
    refine zSr<|zVGvlss Z Z<|z6<|zb<|zk Z (fun cp2=>?_) (fun cp2=>?_)
    ·have hq2 : q < b.insts.length := by simp at cp2; omega
     have hqm := qq hq2
     have hI := instP_F (hin _ hqm)
     have hId : makesB b.insts[q].op = true → hasV f b.insts[q].dst = true := fun h => by
      rcases hI.dst with ⟨d1, _⟩ | ⟨_, _, d3⟩
      ·rw [h] at d1; cases d1
      ·exact d3
     refine ze<|zb<|zh<|zSr<|z8 (zIM q jw jz Z Z Z (qm hq2))<|zVGvloadWF Y8 jz Z Z<|zu (cs := [.int .i64 0, .int .i64 0, .raw (.slice none 0 0), .int .i64 0]) Zy Z Z<|fun i8 => zt jz Z Z Z Z Z Z .head Z<|zw (yi (t := 8) Z .head)<|z6<|zSr<|zVGvloadWF jp ji Z Z<|zVGvloadWF Y8 jz Z Z<|zg (yinst_spec f b.insts[q] (List.all_eq_true.2 hI.args) hI.len hId) Z<|zVGvnot Z<|z6<|zz Z (fun cq=>?_) (fun cq=>?_)
     ·refine zSr<|zVzAi Z<|z6<|zf<|zj (x := .int _ _) Z ?_
      rw [hbad (by unfold blkT; rw [hpall, Bool.eq_false_iff.2 (all_bad hq2 (by simpa using cq))]; rfl)]; rfl
     ·refine ze<|zRg<|zVzAd Z Z<|zVzMi Z<|z6 ?_
      exact ⟨q + 1, zR7, zR1, zLe, ⟨hq2, all_take hq2 hqall (by simpa using cq)⟩, by omega⟩
    ·have hqn : q = b.insts.length := by simp at cp2; omega
     subst hqn
     rw [qr] at hqall
     refine y2<|zSr<|zVGvloadWF jp ji Z Z<|zVzFF j6 Z jx Z Z<|zVGvloadWF Ye jx Z Z<|zg (yterm_spec f b.term (term_var htm)) Z<|zVGvnot Z<|z6<|zz Z (fun ct=>?_) (fun ct=>?_)
     ·refine zSr<|zVzAi Z<|z6<|zf<|zj (x := .int _ _) Z ?_
      rw [hbad (by unfold blkT; rw [hpall, hqall]; simpa using ct)]; rfl
     ·refine ze<|zRg<|zVzAd Z Z<|zVzMi Z<|z6 ?_
      exact ⟨k + 1, zR3, zR1, zLe, ⟨hk2, all_take hk2 hall (by rw [hbk]; unfold blkT; rw [hpall, hqall]; simpa using ct)⟩, by omega⟩
  ·have hkn : k = f.blocks.length := by simp at ck; omega
   subst hkn
   rw [qr] at hall
   refine y2<|zSr<|zVzAi Z<|z6<|zf<|zj (x := .int _ _) Z ?_
   unfold typedB; rw [hsb, hall]; rfl
end Go.Proofs.YtpojdepccecpgaaGreatDoor
namespace Go.Proofs.YtpojdepccecpgaaGreatDoor
open Go.Proofs.Tryz
open Go.Proofs Go.Lib
def ord (f : PFunc) : List Int := orderT (EndsOf f) f.blocks.length
def noBlk : PBlock := ⟨⟨#[]⟩, [], [], ⟨0, 0, 0, 0⟩⟩
def blkX (f : PFunc) (x : Int) : PBlock := (f.blocks[x.toNat]?).getD noBlk
def prs (p : PPhi) : List (Int × Int) := p.from_.zip p.args
def lookP (p : PPhi) (x : Int) : Option Int := ((prs p).find? fun q => decide (q.1 = x)).map (·.2)
def posI (l : List Int) (x : Int) : Int := (l.idxOf x : Int)
def trmM (ν β : Int → Int) (t : PTerm) : PTerm :=
 if t.kind = 0 then ⟨t.kind, t.var, β t.to0, t.to1⟩ else if t.kind = 1 then ⟨t.kind, ν t.var, β t.to0, β t.to1⟩ else ⟨t.kind, ν t.var, t.to0, t.to1⟩
def insM (ν : Int → Int) (x : PInst) : PInst := ⟨x.op, if 0 ≤ x.dst then ν x.dst else x.dst, x.args.map ν, x.num⟩
def phM (ν : Int → Int) (p : PPhi) : PPhi := ⟨ν p.dst, p.args.map ν, p.from_⟩
def mapV (ν : Int → Int) (b : PBlock) : PBlock := ⟨b.name, b.phis.map (phM ν), b.insts.map (insM ν), trmM ν id b.term⟩
def phPairs (l : List Int) (p : PPhi) : List (Int × Int) := (List.range l.length).filterMap fun (n : Nat) => (l[n]?).bind fun x => (lookP p x).map fun a => ((n : Int), a)
def phD (l : List Int) (p : PPhi) : PPhi := ⟨p.dst, (phPairs l p).map (·.2), (phPairs l p).map (·.1)⟩
def nameK (c : UInt8) (i : Nat) : ByteArray := strL (c :: decDigits i)
def turnB (l : List Int) (i : Nat) (b : PBlock) : PBlock := ⟨nameK 98 i, b.phis.map (phD l), b.insts, trmM id (posI l) b.term⟩
def canB (f : PFunc) : List PBlock := (ord f).zipIdx.map fun q => turnB (ord f) q.2 (blkX f q.1)
def see1 (l : List Int) (v : Int) : List Int := if v ∈ l then l else l ++ [v]
def seeL (l vs : List Int) : List Int := vs.foldl see1 l
def phiVars (p : PPhi) : List Int := p.dst :: p.args
def instVars (x : PInst) : List Int := x.args ++ if 0 ≤ x.dst then [x.dst] else []
def termVars (t : PTerm) : List Int := if t.kind = 0 then [] else [t.var]
def blkVars (b : PBlock) : List Int := b.phis.flatMap phiVars ++ (b.insts.flatMap instVars ++ termVars b.term)
def vsL (f : PFunc) : List Int := seeL [] (f.params ++ (canB f).flatMap blkVars)
def canV (f : PFunc) (q : Int × Nat) : PVar := ⟨nameK 118 q.2, kindV f q.1⟩
def canD (f : PFunc) : PFunc := ⟨(vsL f).zipIdx.map (canV f), f.params, (canB f).map (mapV (posI (vsL f)))⟩
structure LikeB (R V : Int → Prop) (β ν : Int → Int) (b c : PBlock) : Prop where
 nphi : c.phis.length = b.phis.length
 phi : ∀ (i : Nat) (p q : PPhi), b.phis[i]? = some p → c.phis[i]? = some q → q.dst = ν p.dst ∧ V p.dst ∧ q.from_.length = q.args.length ∧ ∃ k : List (Int × Int), (∀ z, z ∈ k ↔ z ∈ prs p ∧ R z.1) ∧ List.Sublist k (prs p) ∧ (∀ z ∈ k, V z.2) ∧ (prs q).Perm (k.map fun z => (β z.1, ν z.2))
 insts : c.insts = b.insts.map (insM ν)
 instv : ∀ x ∈ b.insts, ∀ v ∈ instVars x, V v
 term : c.term = trmM ν β b.term
 termv : ∀ v ∈ termVars b.term, V v
structure Like (R V : Int → Prop) (β ν : Int → Int) (f g : PFunc) : Prop where
 okf : EndsOk f
 okg : EndsOk g
 r0 : R 0
 b0 : β 0 = 0
 rng : ∀ x, R x → (0 ≤ x ∧ x < f.blocks.length) ∧ 0 ≤ β x ∧ β x < g.blocks.length
 cl : ∀ x, R x → ∀ c ∈ EndsOf f x, R c
 onto : ∀ y : Int, 0 ≤ y → y < g.blocks.length → ∃ x, R x ∧ β x = y
 inj : ∀ x y, R x → R y → β x = β y → x = y
 blk : ∀ x, R x → LikeB R V β ν (blkX f x) (blkX g (β x))
 par : g.params = f.params
 parv : ∀ v ∈ f.params, V v ∧ ν v = v
 vty : ∀ v, V v → 0 ≤ v ∧ 0 ≤ ν v ∧ kindV g (ν v) = kindV f v
 vinj : ∀ u v, V u → V v → ν u = ν v → u = v
theorem ends_at {f : PFunc} {x : Int} (h0 : 0 ≤ x) (h1 : x < f.blocks.length) : EndsOf f x = endsL (blkX f x).term := by
 unfold EndsOf blkX
 rw [if_pos h0, qm (by omega)]; rfl
theorem endsL_map {ν β : Int → Int} {t : PTerm} (h : ∀ x ∈ endsL t, ∀ y ∈ endsL t, β x = β y → x = y) : endsL (trmM ν β t) = (endsL t).map β := by
 unfold endsL trmM at *
 by_cases h0 : t.kind = 0
 ·rw [if_pos h0]; dsimp only; rw [if_pos h0, if_pos h0]; rfl
 ·rw [if_neg h0] at h ⊢
  by_cases h1 : t.kind = 1
  ·rw [if_pos h1] at h ⊢
   dsimp only
   rw [if_neg h0, if_pos h1]
   by_cases e : t.to0 = t.to1
   ·rw [if_pos e, if_pos (by rw [e]), if_neg h0, if_pos h1]; rfl
   ·rw [if_neg e] at h ⊢
    rw [if_neg fun k => e (h _ (by simp) _ (by simp) k), if_neg h0, if_pos h1]; rfl
  ·rw [if_neg h1]; dsimp only; rw [if_neg h0, if_neg h1]; rfl
section
variable {R V : Int → Prop} {β ν : Int → Int} {f g : PFunc} (h : Like R V β ν f g)
include h
theorem Like.leads {x : Int} (hx : R x) : EndsOf g (β x) = (EndsOf f x).map β := by
 have hr := h.rng x hx
 rw [ends_at hr.1.1 hr.1.2, ends_at hr.2.1 hr.2.2, (h.blk x hx).term]
 apply endsL_map
 rw [← ends_at hr.1.1 hr.1.2]
 exact fun a ha b hb => h.inj a b (h.cl x hx a ha) (h.cl x hx b hb)
theorem Like.reach {x : Int} (hx : x ∈ ord f) : R x := by
 have hr := (order_mem h.okf.grph.toEOk x).1 hx
 unfold Rch at hr
 induction hr with
 | refl _ => exact h.r0
 | step hw hc _ ih => exact h.cl _ (ih ((order_mem h.okf.grph.toEOk _).2 hw)) _ hc
theorem Like.orders : ord g = (ord f).map β := order_map h.okf.grph.toEOk h.okg.grph.toEOk h.b0 (fun x hx => h.leads (h.reach hx)) (fun x hx => (h.rng x (h.reach hx)).2) (fun x hx y hy => h.inj x y (h.reach hx) (h.reach hy))
end
theorem idx_map {β : Int → Int} {x : Int} : ∀ {l : List Int}, (∀ y ∈ l, β y = β x → y = x) → (l.map β).idxOf (β x) = l.idxOf x
 | [], _ => rfl
 | y :: l, h => by
  rw [List.map_cons, List.idxOf_cons, List.idxOf_cons, idx_map fun z hz => h z (.tail _ hz)]
  by_cases e : y = x
  ·rw [e]; simp
  ·have : ¬ β y = β x := fun k => e (h y (.head _) k)
   rw [beq_eq_false_iff_ne.2 e, beq_eq_false_iff_ne.2 this]
theorem see_map {ν : Int → Int} (V : Int → Prop) (hi : ∀ u v, V u → V v → ν u = ν v → u = v) : ∀ (vs l : List Int), (∀ v ∈ l, V v) → (∀ v ∈ vs, V v) → seeL (l.map ν) (vs.map ν) = (seeL l vs).map ν ∧ ∀ v ∈ seeL l vs, V v
 | [], l, hl, _ => ⟨rfl, hl⟩
 | v :: vs, l, hl, hv => by
  have hv0 := hv v (.head _)
  have e : see1 (l.map ν) (ν v) = (see1 l v).map ν := by
   unfold see1
   by_cases hm : v ∈ l
   ·rw [if_pos hm, if_pos (List.mem_map_of_mem hm)]
   ·rw [if_neg hm, if_neg (fun k => by obtain ⟨u, hu, e⟩ := List.mem_map.1 k; exact hm (hi u v (hl u hu) hv0 e ▸ hu)), qw]; rfl
  show seeL (see1 (l.map ν) (ν v)) (vs.map ν) = (seeL (see1 l v) vs).map ν ∧ ∀ u ∈ seeL (see1 l v) vs, V u
  rw [e]
  refine see_map V hi vs (see1 l v) (fun u hu => ?_) fun u hu => hv u (.tail _ hu)
  unfold see1 at hu
  split at hu
  ·exact hl u hu
  ·rcases List.mem_append.1 hu with k | k
   ·exact hl u k
   ·rw [List.mem_singleton.1 k]; exact hv0
end Go.Proofs.YtpojdepccecpgaaGreatDoor
namespace Go.Proofs.YtpojdepccecpgaaGreatDoor
open Go.Proofs.Tryz
open Go.Proofs Go.Lib
def DistP (p : PPhi) : Prop := ((prs p).map (·.1)).Nodup
theorem look_iff {p : PPhi} (hn : DistP p) {x a : Int} : lookP p x = some a ↔ (x, a) ∈ prs p := by
 unfold lookP DistP at *
 generalize prs p = l at *
 induction l with
 | nil => simp
 | cons z l ih =>
  rw [List.map_cons, List.nodup_cons] at hn
  rw [List.find?_cons]
  by_cases e : z.1 = x
  ·rw [qy e]
   show some z.2 = some a ↔ _
   rw [List.mem_cons]
   constructor
   ·intro h; left; rw [← e, ← Option.some.inj h]
   ·rintro (h | h)
    ·rw [← h]
    ·exact absurd (List.mem_map.2 ⟨_, h, rfl⟩) (e ▸ hn.1)
  ·rw [qz e]
   refine (ih hn.2).trans ?_
   rw [List.mem_cons]
   exact ⟨.inr, fun h => h.resolve_left fun k => e (by rw [← k])⟩
theorem insM_comp {a ν c : Int → Int} {x : PInst} (h : ∀ v ∈ instVars x, a (ν v) = c v ∧ 0 ≤ ν v) : insM a (insM ν x) = insM c x := by
 unfold insM instVars at *
 congr 1
 ·by_cases h0 : 0 ≤ x.dst
  ·have := h x.dst (by rw [if_pos h0]; simp)
   dsimp only
   rw [if_pos h0, if_pos this.2, if_pos h0, this.1]
  ·dsimp only; rw [if_neg h0, if_neg h0, if_neg h0]
 ·dsimp only
  rw [List.map_map]
  exact List.map_congr_left fun v hv => (h v (List.mem_append_left _ hv)).1
theorem phM_comp {a ν c : Int → Int} {p : PPhi} (h : ∀ v ∈ phiVars p, a (ν v) = c v) : phM a (phM ν p) = phM c p := by
 unfold phM phiVars at *
 congr 1
 ·exact h _ (.head _)
 ·dsimp only
  rw [List.map_map]
  exact List.map_congr_left fun v hv => h v (.tail _ hv)
theorem trm_comp {a ν c : Int → Int} {t : PTerm} (h : ∀ v ∈ termVars t, a (ν v) = c v) : trmM a id (trmM ν id t) = trmM c id t := by
 unfold trmM termVars at *
 by_cases h0 : t.kind = 0
 ·rw [if_pos h0, if_pos h0]; dsimp only; rw [if_pos h0]; rfl
 ·rw [if_neg h0] at h
  have h := h _ (.head _)
  rw [if_neg h0, if_neg h0]
  by_cases h1 : t.kind = 1
  ·rw [if_pos h1, if_pos h1]; dsimp only; rw [if_neg h0, if_pos h1, h]; rfl
  ·rw [if_neg h1, if_neg h1]; dsimp only; rw [if_neg h0, if_neg h1, h]
theorem mapV_comp {a ν c : Int → Int} {b : PBlock} (h : ∀ v ∈ blkVars b, a (ν v) = c v ∧ 0 ≤ ν v) : mapV a (mapV ν b) = mapV c b := by
 unfold mapV
 congr 1
 ·dsimp only
  rw [List.map_map]
  exact List.map_congr_left fun p hp => phM_comp fun v hv => (h v (List.mem_append_left _ (List.mem_flatMap.2 ⟨p, hp, hv⟩))).1
 ·dsimp only
  rw [List.map_map]
  exact List.map_congr_left fun p hp => insM_comp fun v hv => h v (List.mem_append_right _ (List.mem_append_left _ (List.mem_flatMap.2 ⟨p, hp, hv⟩)))
 ·exact trm_comp fun v hv => (h v (List.mem_append_right _ (List.mem_append_right _ hv))).1
theorem blkVars_map {ν : Int → Int} {b : PBlock} (h : ∀ v ∈ blkVars b, 0 ≤ ν v) : blkVars (mapV ν b) = (blkVars b).map ν := by
 unfold blkVars mapV
 dsimp only
 rw [qw, qw, List.flatMap_map, List.flatMap_map, List.map_flatMap, List.map_flatMap]
 congr 1
 congr 1
 ·unfold List.flatMap
  congr 1
  refine List.map_congr_left fun x hx => ?_
  have hv : ∀ v ∈ instVars x, 0 ≤ ν v := fun v hv => h v (List.mem_append_right _ (List.mem_append_left _ (List.mem_flatMap.2 ⟨x, hx, hv⟩)))
  show instVars (insM ν x) = (instVars x).map ν
  unfold instVars at hv ⊢
  unfold insM
  dsimp only
  rw [qw]
  by_cases h0 : 0 ≤ x.dst
  ·have := hv x.dst (by rw [if_pos h0]; simp)
   rw [if_pos h0, if_pos this, if_pos h0]; rfl
  ·rw [if_neg h0, if_neg h0]; rfl
 ·unfold termVars trmM
  by_cases h0 : b.term.kind = 0
  ·rw [if_pos h0, if_pos h0]; rfl
  ·rw [if_neg h0, if_neg h0]
   by_cases h1 : b.term.kind = 1
   ·rw [if_pos h1, if_neg h0]; rfl
   ·rw [if_neg h1, if_neg h0]; rfl
section
variable {R V : Int → Prop} {β ν : Int → Int} {f g : PFunc} (h : Like R V β ν f g) (hD : ∀ x, R x → ∀ p ∈ (blkX f x).phis, DistP p)
include h
theorem Like.pos {x : Int} (hx : R x) : posI (ord g) (β x) = posI (ord f) x := by
 unfold posI
 rw [h.orders, idx_map fun y hy e => h.inj y x (h.reach hy) hx e]
include hD
theorem Like.look {x y : Int} (hx : R x) (hy : R y) {i : Nat} {p q : PPhi} (hp : (blkX f x).phis[i]? = some p) (hq : (blkX g (β x)).phis[i]? = some q) : lookP q (β y) = (lookP p y).map ν ∧ ∀ a, lookP p y = some a → V a := by
 obtain ⟨_, _, _, k, k1, k2, k3, k4⟩ := (h.blk x hx).phi i p q hp hq
 have hpn := hD x hx p (qv hp)
 have hkn : (k.map (·.1)).Nodup := (k2.map _).nodup hpn
 have hqn : DistP q := by
  unfold DistP
  refine (k4.map (·.1)).nodup_iff.2 ?_
  rw [List.map_map]
  have : ∀ l : List (Int × Int), (∀ z ∈ l, R z.1) → (l.map (·.1)).Nodup → (l.map ((fun z : Int × Int => z.1) ∘ fun z => (β z.1, ν z.2))).Nodup := by
   intro l
   induction l with
   | nil => intro _ _; simp
   | cons z l ih =>
    intro h1 h2
    rw [List.map_cons, List.nodup_cons] at h2 ⊢
    refine ⟨fun hm=>?_, ih (fun z hz => h1 z (.tail _ hz)) h2.2⟩
    obtain ⟨w, hw, e⟩ := List.mem_map.1 hm
    exact h2.1 (List.mem_map.2 ⟨w, hw, h.inj _ _ (h1 w (.tail _ hw)) (h1 z (.head _)) e⟩)
  exact this k (fun z hz => ((k1 z).1 hz).2) hkn
 have hmem : ∀ a', (β y, a') ∈ prs q ↔ ∃ a, (y, a) ∈ prs p ∧ ν a = a' := fun a' => by
  rw [k4.mem_iff, List.mem_map]
  constructor
  ·rintro ⟨z, hz, e⟩
   obtain ⟨e1, e2⟩ := Prod.mk.inj e
   obtain ⟨z1, z2⟩ := (k1 z).1 hz
   have := h.inj _ _ z2 hy e1
   exact ⟨z.2, by rw [← this]; exact z1, e2⟩
  ·rintro ⟨a, ha, e⟩
   exact ⟨(y, a), (k1 _).2 ⟨ha, hy⟩, by rw [← e]⟩
 refine ⟨?_, fun a ha => k3 (y, a) ((k1 _).2 ⟨(look_iff hpn).1 ha, hy⟩)⟩
 cases hl : lookP p y with
 | some a => exact (look_iff hqn).2 ((hmem _).2 ⟨a, (look_iff hpn).1 hl, rfl⟩)
 | none =>
  cases hl2 : lookP q (β y) with
  | none => rfl
  | some a' =>
   obtain ⟨a, ha, _⟩ := (hmem a').1 ((look_iff hqn).1 hl2)
   rw [(look_iff hpn).2 ha] at hl; cases hl
theorem Like.phiD {x : Int} (hx : R x) {i : Nat} {p q : PPhi} (hp : (blkX f x).phis[i]? = some p) (hq : (blkX g (β x)).phis[i]? = some q) : phD (ord g) q = phM ν (phD (ord f) p) ∧ ∀ v ∈ phiVars (phD (ord f) p), V v := by
 have hd := (h.blk x hx).phi i p q hp hq
 have e : phPairs (ord g) q = (phPairs (ord f) p).map fun z => (z.1, ν z.2) := by
  unfold phPairs
  rw [h.orders, qt, List.map_filterMap]
  refine congrArg (fun F => List.filterMap F (List.range (ord f).length)) (funext fun n=>?_)
  rw [qu]
  cases hy : (ord f)[n]? with
  | none => rfl
  | some y =>
   show (lookP q (β y)).map _ = ((lookP p y).map _).map _
   rw [(h.look hD hx (h.reach (qv hy)) hp hq).1, Option.map_map, Option.map_map]; rfl
 refine ⟨?_, fun v hv => ?_⟩
 ·unfold phD phM
  rw [e, hd.1, List.map_map, List.map_map, List.map_map]
  congr 1
 ·unfold phiVars at hv
  rcases List.mem_cons.1 hv with e | hv
  ·rw [e]; exact hd.2.1
  ·obtain ⟨z, hz, e⟩ := List.mem_map.1 hv
   obtain ⟨n, hn, hz⟩ := List.mem_filterMap.1 hz
   cases hy : (ord f)[n]? with
   | none => rw [hy] at hz; cases hz
   | some y =>
    rw [hy] at hz
    have hz : (lookP p y).map (fun a => ((n : Int), a)) = some z := hz
    cases hl : lookP p y with
    | none => rw [hl] at hz; cases hz
    | some a =>
     rw [hl] at hz
     have : ((n : Int), a) = z := Option.some.inj hz
     rw [← e, ← this]
     exact (h.look hD hx (h.reach (qv hy)) hp hq).2 a hl
theorem Like.turn {x : Int} (hx : R x) (n : Nat) : turnB (ord g) n (blkX g (β x)) = mapV ν (turnB (ord f) n (blkX f x)) ∧ ∀ v ∈ blkVars (turnB (ord f) n (blkX f x)), V v := by
 have hb := h.blk x hx
 have hr := h.rng x hx
 have hend : ∀ c ∈ endsL (blkX f x).term, R c := by rw [← ends_at hr.1.1 hr.1.2]; exact h.cl x hx
 constructor
 ·unfold turnB mapV
  congr 1
  ·dsimp only
   rw [List.map_map]
   apply List.ext_getElem?
   intro i
   rw [qu, qu]
   by_cases hi : i < (blkX f x).phis.length
   ·have hp := qm hi
    have hi2 : i < (blkX g (β x)).phis.length := by rw [hb.nphi]; exact hi
    have hq := qm hi2
    rw [hp, hq]
    exact congrArg some (h.phiD hD hx hp hq).1
   ·rw [List.getElem?_eq_none (l := (blkX f x).phis) (by omega), List.getElem?_eq_none (l := (blkX g (β x)).phis) (by rw [hb.nphi]; omega)]; rfl
  ·exact hb.insts
  ·dsimp only
   rw [hb.term]
   generalize (blkX f x).term = t at hend
   unfold trmM
   unfold endsL at hend
   by_cases h0 : t.kind = 0
   ·rw [if_pos h0] at hend
    rw [if_pos h0, if_pos h0]; dsimp only; rw [if_pos h0, if_pos h0, h.pos (hend _ (.head _))]; rfl
   ·rw [if_neg h0] at hend
    by_cases h1 : t.kind = 1
    ·rw [if_pos h1] at hend
     have e0 : posI (ord g) (β t.to0) = posI (ord f) t.to0 := h.pos (hend _ (by split <;> simp))
     have e1 : posI (ord g) (β t.to1) = posI (ord f) t.to1 := by
      by_cases e : t.to0 = t.to1
      ·rw [← e]; exact e0
      ·exact h.pos (hend _ (by rw [if_neg e]; simp))
     rw [if_neg h0, if_pos h1, if_neg h0, if_pos h1]; dsimp only
     rw [if_neg h0, if_pos h1, if_neg h0, if_pos h1, e0, e1]; rfl
    ·rw [if_neg h0, if_neg h1, if_neg h0, if_neg h1]; dsimp only
     rw [if_neg h0, if_neg h1, if_neg h0, if_neg h1]; rfl
 ·intro v hv
  unfold blkVars at hv
  rcases List.mem_append.1 hv with hv | hv
  ·obtain ⟨q, hq, hv⟩ := List.mem_flatMap.1 hv
   obtain ⟨p, hp, rfl⟩ := List.mem_map.1 hq
   obtain ⟨i, hi, rfl⟩ := List.getElem_of_mem hp
   have hi2 : i < (blkX g (β x)).phis.length := by rw [hb.nphi]; exact hi
   exact (h.phiD hD hx (qm hi) (qm hi2)).2 v hv
  ·rcases List.mem_append.1 hv with hv | hv
   ·obtain ⟨z, hz, hv⟩ := List.mem_flatMap.1 hv
    exact hb.instv z hz v hv
   ·refine hb.termv v ?_
    unfold termVars turnB trmM at hv
    unfold termVars
    by_cases h0 : (blkX f x).term.kind = 0
    ·rw [if_pos h0] at hv; dsimp only at hv; rw [if_pos h0] at hv; cases hv
    ·rw [if_neg h0]
     by_cases h1 : (blkX f x).term.kind = 1
     ·rw [if_neg h0, if_pos h1] at hv; dsimp only at hv; rw [if_neg h0] at hv; exact hv
     ·rw [if_neg h0, if_neg h1] at hv; dsimp only at hv; rw [if_neg h0] at hv; exact hv
theorem Like.cans : canB g = (canB f).map (mapV ν) ∧ ∀ b ∈ canB f, ∀ v ∈ blkVars b, V v := by
 constructor
 ·unfold canB
  rw [h.orders, List.zipIdx_map, List.map_map, List.map_map, ← h.orders]
  refine List.map_congr_left fun q hq => ?_
  exact (h.turn hD (h.reach (qv (List.mem_zipIdx_iff_getElem?.1 hq))) q.2).1
 ·intro b hb
  obtain ⟨q, hq, rfl⟩ := List.mem_map.1 hb
  exact (h.turn hD (h.reach (qv (List.mem_zipIdx_iff_getElem?.1 hq))) q.2).2
theorem Like.vars : vsL g = (vsL f).map ν ∧ ∀ v ∈ vsL f, V v := by
 obtain ⟨e, hv⟩ := h.cans hD
 have hall : ∀ v ∈ f.params ++ (canB f).flatMap blkVars, V v := fun v hm => by
  rcases List.mem_append.1 hm with k | k
  ·exact (h.parv v k).1
  ·obtain ⟨b, hb, hk⟩ := List.mem_flatMap.1 k
   exact hv b hb v hk
 have := see_map V (ν := ν) h.vinj (f.params ++ (canB f).flatMap blkVars) [] (fun _ k => by cases k) hall
 refine ⟨?_, this.2⟩
 unfold vsL
 rw [← this.1, e, h.par, qw, List.flatMap_map, List.map_flatMap]
 congr 1
 congr 1
 ·refine (List.map_id _).symm.trans (List.map_congr_left fun v hv => ((h.parv v hv).2).symm)
 ·unfold List.flatMap
  congr 1
  refine List.map_congr_left fun b hb => ?_
  exact blkVars_map fun v hm => (h.vty v (hv b hb v hm)).2.1
theorem Like.can : canD g = canD f := by
 obtain ⟨e, hv⟩ := h.cans hD
 obtain ⟨e2, hv2⟩ := h.vars hD
 unfold canD
 rw [h.par]
 congr 1
 ·rw [e2, List.zipIdx_map, List.map_map]
  refine List.map_congr_left fun q hq => ?_
  have := h.vty q.1 (hv2 q.1 (qv (List.mem_zipIdx_iff_getElem?.1 hq)))
  show (⟨_, kindV g (ν q.1)⟩ : PVar) = ⟨_, kindV f q.1⟩
  rw [this.2.2]; rfl
 ·rw [e, List.map_map]
  refine List.map_congr_left fun b hb => mapV_comp fun v hm => ⟨?_, (h.vty v (hv b hb v hm)).2.1⟩
  unfold posI
  rw [e2, idx_map fun y hy k => h.vinj y v (hv2 y hy) (hv b hb v hm) k]
end
end Go.Proofs.YtpojdepccecpgaaGreatDoor
namespace Go.Proofs.YtpojdepccecpgaaGreatDoor
open Go.Proofs.Tryz
open Go.Proofs Go.Lib
def rlL (f : PFunc) : List Nat := (List.range f.blocks.length).filter fun (b : Nat) => decide ((b : Int) ∈ ord f)
def nmb (f : PFunc) (x : Int) : Int := if x ∈ ord f then ((rlL f).idxOf x.toNat : Int) else -1
def kept (nm : Int → Int) (fr : List Int) (p : PPhi) : List (Int × Int) := (prs p).filter fun z => decide (z.1 ∈ fr ∧ 0 ≤ nm z.1)
def pruneP (nm : Int → Int) (fr : List Int) (p : PPhi) : PPhi := ⟨p.dst, (kept nm fr p).map (·.2), (kept nm fr p).map fun z => nm z.1⟩
def pruneB (nm : Int → Int) (fr : List Int) (b : PBlock) : PBlock := ⟨b.name, b.phis.map (pruneP nm fr), b.insts, trmM id nm b.term⟩
def frL (f : PFunc) (b : Nat) : List Int := predsT (EndsOf f) f.blocks.length b
def pruneF (f : PFunc) : PFunc := ⟨f.vars, f.params, (rlL f).map fun b => pruneB (nmb f) (frL f b) (blkX f b)⟩
section
variable {f : PFunc}
theorem mem_rl {b : Nat} (hE : EndsOk f) : b ∈ rlL f ↔ (b : Int) ∈ ord f := by
 unfold rlL
 rw [List.mem_filter, List.mem_range, w4]
 exact ⟨fun h => h.2, fun h => ⟨by have := order_rng hE.grph.toEOk h; omega, h⟩⟩
theorem rl_nodup : (rlL f).Nodup := List.Nodup.sublist List.filter_sublist List.nodup_range
theorem nmb_at (hE : EndsOk f) {x : Int} (hx : x ∈ ord f) : ∃ k : Nat, nmb f x = k ∧ (rlL f)[k]? = some x.toNat ∧ k < (rlL f).length := by
 have h0 := order_rng hE.grph.toEOk hx
 have hm : x.toNat ∈ rlL f := (mem_rl hE).2 (by rwa [w3 h0.1])
 have hl := List.idxOf_lt_length_of_mem hm
 refine ⟨(rlL f).idxOf x.toNat, by unfold nmb; rw [if_pos hx], ?_, hl⟩
 rw [qm hl, List.getElem_idxOf hl]
theorem nmb_row (hE : EndsOk f) {k : Nat} {b : Nat} (hk : (rlL f)[k]? = some b) : nmb f b = k := by
 have hm : (b : Int) ∈ ord f := (mem_rl hE).1 (qv hk)
 obtain ⟨j, hj, h2, _⟩ := nmb_at hE hm
 rw [hj]
 have h3 : (rlL f)[j]? = some b := h2
 obtain ⟨hk1, hk2⟩ := List.getElem?_eq_some_iff.1 hk
 obtain ⟨hj1, hj2⟩ := List.getElem?_eq_some_iff.1 h3
 have := (List.getElem_inj rl_nodup (h₀ := hj1) (h₁ := hk1)).1 (by rw [hj2, hk2])
 rw [this]
theorem nmb_inj (hE : EndsOk f) {x y : Int} (hx : x ∈ ord f) (hy : y ∈ ord f) (h : nmb f x = nmb f y) : x = y := by
 obtain ⟨k, hk, h2, _⟩ := nmb_at hE hx
 obtain ⟨j, hj, h3, _⟩ := nmb_at hE hy
 have a := order_rng hE.grph.toEOk hx
 have b := order_rng hE.grph.toEOk hy
 have : k = j := by omega
 rw [this, h3] at h2
 have := Option.some.inj h2
 omega
theorem nmb_neg (hE : EndsOk f) {x : Int} : 0 ≤ nmb f x ↔ x ∈ ord f := by
 by_cases h : x ∈ ord f
 ·obtain ⟨k, hk, _⟩ := nmb_at hE h
  exact ⟨fun _ => h, fun _ => by omega⟩
 ·exact ⟨fun k => by unfold nmb at k; rw [if_neg h] at k; omega, fun k => absurd k h⟩
theorem zero_ord (hE : EndsOk f) : (0 : Int) ∈ ord f := qv (order_head hE.grph.toEOk)
theorem rl_head (hE : EndsOk f) : (rlL f)[0]? = some 0 := by
 have hz := zero_ord hE
 obtain ⟨n, hn⟩ : ∃ n, f.blocks.length = n + 1 := ⟨f.blocks.length - 1, by have := hE.pos; omega⟩
 unfold rlL
 rw [hn, List.range_succ_eq_map, List.filter_cons, if_pos (by simpa using hz)]; rfl
theorem nmb_zero (hE : EndsOk f) : nmb f 0 = 0 := nmb_row hE (rl_head hE)
theorem blkX_get {k : Nat} {b : PBlock} (h : f.blocks[k]? = some b) : blkX f k = b := by unfold blkX; rw [show ((k : Int).toNat) = k from rfl, h]; rfl
theorem prune_at (hE : EndsOk f) {x : Int} (hx : x ∈ ord f) : blkX (pruneF f) (nmb f x) = pruneB (nmb f) (frL f x.toNat) (blkX f x) := by
 obtain ⟨k, hk, h2, _⟩ := nmb_at hE hx
 have h0 := order_rng hE.grph.toEOk hx
 rw [hk]
 refine blkX_get ?_
 show ((rlL f).map _)[k]? = _
 rw [qu, h2]
 show some (pruneB _ _ (blkX f (x.toNat : Int))) = _
 rw [w3 h0.1]
theorem insM_id (x : PInst) : insM id x = x := by unfold insM; rw [List.map_id]; simp
theorem ord_rch (hE : EndsOk f) {x c : Int} (hx : x ∈ ord f) (hc : c ∈ EndsOf f x) : c ∈ ord f := (order_mem hE.grph.toEOk c).2 (.step ((order_mem hE.grph.toEOk x).1 hx) hc trivial)
theorem prune_ends (hE : EndsOk f) : EndsOk (pruneF f) := by
 refine ⟨?_, fun b hb c hc => ?_⟩
 ·show 0 < ((rlL f).map _).length
  rw [qt]
  exact (List.getElem?_eq_some_iff.1 (rl_head hE)).1
 ·obtain ⟨x, hx, rfl⟩ := List.mem_map.1 hb
  have hxo := (mem_rl hE).1 hx
  have hr := order_rng hE.grph.toEOk hxo
  have hend : ∀ c ∈ endsL (blkX f x).term, c ∈ ord f := by rw [← ends_at hr.1 hr.2]; exact fun c hc => ord_rch hE hxo hc
  have hc : c ∈ endsL (trmM id (nmb f) (blkX f x).term) := hc
  rw [endsL_map fun a ha b hb => nmb_inj hE (hend a ha) (hend b hb)] at hc
  obtain ⟨a, ha, rfl⟩ := List.mem_map.1 hc
  obtain ⟨k, hk, _, h3⟩ := nmb_at hE (hend a ha)
  show 0 ≤ nmb f a ∧ nmb f a < (((rlL f).map _).length : Nat)
  rw [qt, hk]
  omega
theorem prs_zip {nm : Int → Int} : ∀ l : List (Int × Int), (l.map fun z => nm z.1).zip (l.map (·.2)) = l.map fun z => (nm z.1, id z.2)
 | [] => rfl
 | z :: l => by rw [List.map_cons, List.map_cons, List.zip_cons_cons, prs_zip l]; rfl
theorem inst_vars {b : PBlock} (hS : ShapedP f) (hb : b ∈ f.blocks) {x : PInst} (hx : x ∈ b.insts) : ∀ v ∈ instVars x, hasV f v = true := fun v hv => by
 obtain ⟨_, _, h3, h4⟩ := (hS.2.2.2.2.2 b hb).2.1 x hx
 unfold instVars at hv
 rcases List.mem_append.1 hv with h | h
 ·exact List.all_eq_true.1 h4 v h
 ·by_cases h0 : 0 ≤ x.dst
  ·rw [if_pos h0] at h
   rw [List.mem_singleton.1 h]
   unfold bad2 at h3
   rw [show decide (x.dst = -1) = false from qz (by omega)] at h3
   simp only [Bool.or_eq_false_iff] at h3
   simpa using h3.2.2.1
  ·rw [if_neg h0] at h; cases h
theorem term_vars {b : PBlock} (hS : ShapedP f) (hb : b ∈ f.blocks) : ∀ v ∈ termVars b.term, hasV f v = true := fun v hv => by
 have h := (hS.2.2.2.2.2 b hb).2.2
 unfold termVars at hv
 by_cases h0 : b.term.kind = 0
 ·rw [if_pos h0] at hv; cases hv
 ·rw [if_neg h0] at hv
  rw [List.mem_singleton.1 hv]
  exact term_var h h0
theorem par_vars (hS : ShapedP f) : ∀ v ∈ f.params, hasV f v = true := fun v hv => by
 obtain ⟨i, hi, rfl⟩ := List.getElem_of_mem hv
 have h1 := hS.1
 unfold bad1 at h1
 simp only [Bool.or_eq_false_iff, decide_eq_false_iff_not] at h1
 rw [hS.2.1 i hi]
 unfold hasV
 simp; omega
theorem prune_like (hE : EndsOk f) (hS : ShapedP f) (hJ : JoinP f) : Like (· ∈ ord f) (fun v => hasV f v = true) (nmb f) id f (pruneF f) := by
 have hl : (pruneF f).blocks.length = (rlL f).length := qt ..
 refine { okf := hE, okg := prune_ends hE, r0 := zero_ord hE, b0 := nmb_zero hE, rng := fun x hx => ?_, cl := fun x hx c hc => ord_rch hE hx hc, onto := fun y h0 h1 => ?_, inj := fun x y => nmb_inj hE, blk := fun x hx => ?_, par := Z, parv := fun v hv => ⟨par_vars hS v hv, Z⟩, vty := fun v hv => ?_, vinj := fun _ _ _ _ e => e }
 ·obtain ⟨k, hk, _, h3⟩ := nmb_at hE hx
  have := order_rng hE.grph.toEOk hx
  exact ⟨this, by omega, by rw [hk, hl]; omega⟩
 ·obtain ⟨k, rfl⟩ : ∃ k : Nat, y = k := ⟨y.toNat, by omega⟩
  have hk : k < (rlL f).length := by omega
  exact ⟨((rlL f)[k] : Nat), (mem_rl hE).1 (qq hk), nmb_row hE (qm hk)⟩
 ·rw [prune_at hE hx]
  have hr := order_rng hE.grph.toEOk hx
  have hxl : x.toNat < f.blocks.length := by omega
  have ex : f.blocks[x.toNat] = blkX f x := by unfold blkX; rw [qm hxl]; rfl
  have hm : blkX f x ∈ f.blocks := by rw [← ex]; exact qq hxl
  refine ⟨qt .., fun i p q hp hq => ?_, ?_, fun z hz => inst_vars hS hm hz, Z, term_vars hS hm⟩
  ·have hq : ((blkX f x).phis.map (pruneP (nmb f) (frL f x.toNat)))[i]? = some q := hq
   rw [qu, hp] at hq
   have hq := (Option.some.inj hq).symm
   subst hq
   have hpm := qv hp
   obtain ⟨p1, p2, p3, p4, p5⟩ := (hS.2.2.2.2.2 _ hm).1 p hpm
   have hj := hJ x.toNat hxl p (by rw [ex]; exact hpm)
   refine ⟨Z, p1, ?_, kept (nmb f) (frL f x.toNat) p, fun z=>?_, List.filter_sublist, fun z hz => ?_, ?_⟩
   ·show ((kept _ _ p).map _).length = ((kept _ _ p).map _).length
    rw [qt, qt]
   ·unfold kept
    rw [List.mem_filter, w4, nmb_neg hE]
    exact and_congr_right fun hz => ⟨fun h => h.2, fun h => ⟨hj.mem_iff.1 (List.of_mem_zip hz).1, h⟩⟩
   ·exact List.all_eq_true.1 p4 _ (List.of_mem_zip (List.mem_filter.1 hz).1).2
   ·show (((kept _ _ p).map _).zip ((kept _ _ p).map _)).Perm _
    rw [prs_zip]
  ·exact (List.map_id _).symm.trans (List.map_congr_left fun z _ => (insM_id z).symm)
 ·have := hv
  unfold hasV at this
  simp only [w0, w4] at this
  exact ⟨this.1, this.1, rfl⟩
end
end Go.Proofs.YtpojdepccecpgaaGreatDoor
namespace Go.Proofs.YtpojdepccecpgaaGreatDoor
open Go.Proofs.Tryz
structure FrS (E : Int → List Int) (a shut : Int) (n : Nat) (out : List Bool) : Prop where
 len : out.length = n
 sound : ∀ b : Nat, out[b]? = some true → FromP E a shut b
def okX (a : Int) (out : List Bool) (shut x : Int) : Prop := x ≠ shut ∧ (x = a ∨ gb out x = true)
instance (a : Int) (out : List Bool) (shut x : Int) : Decidable (okX a out shut x) := by unfold okX; infer_instance
def clTo (E : Int → List Int) (a shut : Int) (out : List Bool) (k : Nat) : Prop := ∀ x : Nat, x < k → okX a out shut x → ∀ y : Nat, (y : Int) ∈ E x → (y : Int) ≠ shut → gb out y = true
theorem gb_nat (out : List Bool) (k : Nat) : gb out (k : Int) = (out[k]?).getD false := rfl
theorem gb_some {out : List Bool} {k : Nat} (h : k < out.length) : out[k]? = some (gb out k) := by
 rw [gb_nat, qm h]; rfl
theorem FrS.begin (E : Int → List Int) (a shut : Int) (n : Nat) : FrS E a shut n (List.replicate n false) := ⟨by simp, fun b h => by
 rw [List.getElem?_replicate] at h; split at h <;> simp at h⟩
theorem FrS.set {E : Int → List Int} {a shut : Int} {n : Nat} {out : List Bool} (h : FrS E a shut n out) {x y : Nat} (hx : okX a out shut x) (ha : a ≠ shut ∨ (x : Int) ≠ a) (he : (y : Int) ∈ E x) (hy : (y : Int) ≠ shut) : FrS E a shut n (out.set y true) := by
 refine ⟨by rw [List.length_set]; exact h.len, fun b hb => ?_⟩
 by_cases e : b = y
 ·subst e
  refine FromP.step (x := x) ?_ he hy
  rcases hx.2 with e | hg
  ·left
   refine ⟨e, ?_⟩
   rw [← e]; exact hx.1
  ·right
   by_cases hlt : x < out.length
   ·exact h.sound x (by rw [gb_some hlt, hg])
   ·rw [gb_nat, List.getElem?_eq_none (by omega)] at hg; simp at hg
 ·rw [List.getElem?_set_ne (fun e2 => e e2.symm)] at hb; exact h.sound b hb
theorem FrS.all {E : Int → List Int} {a shut : Int} {n : Nat} {out : List Bool} (hE : Grph E n) (ha : a = a ∧ 0 ≤ a ∧ a < n) (h : FrS E a shut n out) (hc : clTo E a shut out n) (b : Nat) (hb : b < n) : gb out b = true ↔ FromP E a shut b := by
 constructor
 ·intro hg; exact h.sound b (by rw [gb_some (by rw [h.len]; exact hb), hg])
 ·intro hf
  have := FromP.closed (out := fun x : Int => 0 ≤ x ∧ x < n ∧ gb out x = true) (fun x y h1 h2 h3 h4 => by
   have hxr : 0 ≤ x ∧ x < n := by
    rcases h2 with e | h2
    ·rw [e]; exact ha.2
    ·exact ⟨h2.1, h2.2.1⟩
   have hy := hE.rng x hxr.1 hxr.2 y h3
   have e1 : ((x.toNat : Nat) : Int) = x := w3 hxr.1
   have e2 : ((y.toNat : Nat) : Int) = y := w3 hy.1
   refine ⟨hy.1, hy.2, ?_⟩
   have := hc x.toNat (by omega) ⟨by rw [e1]; exact h1, by
    rw [e1]
    rcases h2 with e | h2
    ·exact .inl e
    ·exact .inr h2.2.2⟩ y.toNat (by rw [e1, e2]; exact h3) (by rw [e2]; exact h4)
   rwa [e2] at this) hf
  exact this.2.2
end Go.Proofs.YtpojdepccecpgaaGreatDoor
namespace Go.Proofs.YtpojdepccecpgaaGreatDoor
open Go.Proofs.Tryz
noncomputable section
end
end Go.Proofs.YtpojdepccecpgaaGreatDoor
namespace Go.Proofs.YtpojdepccecpgaaGreatDoor
open Go.Proofs.Tryz
abbrev Rng := Int × Int
def is64 (x : Int) : Prop := -9223372036854775808 ≤ x ∧ x ≤ 9223372036854775807
instance (x : Int) : Decidable (is64 x) := by unfold is64; infer_instance
def ok64 (r : Rng) : Prop := is64 r.1 ∧ is64 r.2
def noR : Rng := (1, 0)
def rMade (lo hi : Int) : Rng := if hi < lo then noR else (lo, hi)
def imin (a b : Int) : Int := if b < a then b else a
def imax (a b : Int) : Int := if a < b then b else a
def rJoin (a b : Rng) : Rng := if a.2 < a.1 then rMade b.1 b.2 else if b.2 < b.1 then a else (imin a.1 b.1, imax a.2 b.2)
def op3 (k : Nat) (x y : Int) : Int := if k = 0 then x + y else if k = 1 then x - y else x * y
def fit3 (k : Nat) (x y : Int) : Prop := is64 (op3 k x y)
instance (k : Nat) (x y : Int) : Decidable (fit3 k x y) := by unfold fit3; infer_instance
def rOf (n : Int) : Rng := (n, n)
def cornF (k : Nat) (a b : Rng) : Prop := fit3 k a.1 b.1 ∧ fit3 k a.1 b.2 ∧ fit3 k a.2 b.1 ∧ fit3 k a.2 b.2
instance (k : Nat) (a b : Rng) : Decidable (cornF k a b) := by unfold cornF; infer_instance
theorem mul_fit {x y : Nat} (hy : 0 < y) (l : Nat) : x ≤ l / y ↔ x * y ≤ l := Nat.le_div_iff_mul_le hy
theorem natAbs_mul_le (a b : Int) (l : Nat) : a.natAbs ≤ l / b.natAbs ↔ (b = 0 ∧ a = 0) ∨ (b ≠ 0 ∧ (a * b).natAbs ≤ l) := by
 by_cases hb : b = 0
 ·subst hb; simp
 ·rw [mul_fit (by omega), Int.natAbs_mul]; simp [hb]
theorem sign_mul {a b : Int} (ha : a ≠ 0) (hb : b ≠ 0) : (0 < a * b ↔ ((a < 0) ↔ (b < 0))) ∧ a * b ≠ 0 := by
 refine ⟨?_, Int.mul_ne_zero ha hb⟩
 rcases Int.lt_or_gt_of_ne ha with h1 | h1 <;> rcases Int.lt_or_gt_of_ne hb with h2 | h2
 ·have := Int.mul_pos_of_neg_of_neg h1 h2; simp [this, h1, h2]
 ·have := Int.mul_neg_of_neg_of_pos h1 h2
  constructor
  ·intro h; omega
  ·intro h; have := h.1 h1; omega
 ·have := Int.mul_neg_of_pos_of_neg h1 h2
  constructor
  ·intro h; omega
  ·intro h; have := h.2 h2; omega
 ·have := Int.mul_pos h1 h2
  constructor
  ·intro _; constructor <;> intro h <;> omega
  ·intro _; exact this
theorem fitMul (a b : Int) (ha : a ≠ 0) (hb : b ≠ 0) : (a.natAbs ≤ (if decide (a < 0) = decide (b < 0) then 9223372036854775807 else 9223372036854775808) / b.natAbs) ↔ fit3 2 a b := by
 have hs := sign_mul ha hb
 rw [natAbs_mul_le]
 unfold fit3 is64
 have e : op3 2 a b = a * b := rfl
 rw [e]
 simp only [hb, false_and, false_or, ne_eq, not_false_eq_true, true_and]
 by_cases h : decide (a < 0) = decide (b < 0)
 ·rw [if_pos h]
  have : (a < 0) ↔ (b < 0) := by simpa using h
  have h1 := hs.1.2 this
  omega
 ·rw [if_neg h]
  have : ¬ ((a < 0) ↔ (b < 0)) := by simpa using h
  have h1 : ¬ 0 < a * b := fun h2 => this (hs.1.1 h2)
  omega
end Go.Proofs.YtpojdepccecpgaaGreatDoor
namespace Go.Proofs.YtpojdepccecpgaaGreatDoor
open Go.Proofs.Tryz
def rSub (r s : Rng) : Prop := r.2 < r.1 ∨ (s.1 ≤ r.1 ∧ r.2 ≤ s.2)
theorem rSub.refl (r : Rng) : rSub r r := .inr ⟨Int.le_refl _, Int.le_refl _⟩
theorem rSub.trans {r s t : Rng} (h : rSub r s) (k : rSub s t) : rSub r t := by
 rcases h with h | h
 ·exact .inl h
 ·rcases k with k | k
  ·exact .inl (by omega)
  ·exact .inr (by omega)
end Go.Proofs.YtpojdepccecpgaaGreatDoor
namespace Go.Proofs.YtpojdepccecpgaaGreatDoor
open Go.Proofs.Tryz
end Go.Proofs.YtpojdepccecpgaaGreatDoor
namespace Go.Proofs.YtpojdepccecpgaaGreatDoor
open Go.Proofs.Tryz
end Go.Proofs.YtpojdepccecpgaaGreatDoor
namespace Go.Proofs.YtpojdepccecpgaaGreatDoor
open Go.Proofs.Tryz
def ra (rs : List Rng) (i : Nat) : Rng := (rs[i]?).getD (0, 0)
structure Less (a a' : Rng) : Prop where
 ok : ok64 a
 ok' : ok64 a'
 ne : a.1 ≤ a.2
 sub : a'.1 ≤ a.1 ∧ a.2 ≤ a'.2
theorem Less.zero : Less (0, 0) (0, 0) := ⟨⟨by decide, by decide⟩, ⟨by decide, by decide⟩, by decide, by decide, by decide⟩
end Go.Proofs.YtpojdepccecpgaaGreatDoor
namespace Go.Proofs.YtpojdepccecpgaaGreatDoor
open Go.Proofs.Tryz
def lv (l : List Rng) (v : Int) : Rng := (l[v.toNat]?).getD noR
structure Rules (n : Nat) (rule : List Rng → Int → Rng) (vs : List Int) : Prop where
 mono : ∀ l l' v, l.length = n → l'.length = n → (∀ u : Int, 0 ≤ u → rSub (lv l u) (lv l' u)) → (∀ u : Int, 0 ≤ u → ok64 (lv l u)) → (∀ u : Int, 0 ≤ u → ok64 (lv l' u)) → v ∈ vs → rSub (rule l v) (rule l' v)
 ok : ∀ l v, l.length = n → (∀ u : Int, 0 ≤ u → ok64 (lv l u)) → v ∈ vs → ok64 (rule l v)
 rng : ∀ v ∈ vs, 0 ≤ v ∧ v < n
end Go.Proofs.YtpojdepccecpgaaGreatDoor
namespace Go.Proofs.YtpojdepccecpgaaGreatDoor
open Go.Proofs.Tryz
section
variable {n : Nat} {rule : List Rng → Int → Rng} {widn : Nat → Int → Option Rng} {vs : List Int} (hR : Rules n rule vs) (hw : ∀ i v t, widn i v = some t → ok64 t)
include hR hw
end
end Go.Proofs.YtpojdepccecpgaaGreatDoor
namespace Go.Proofs.YtpojdepccecpgaaGreatDoor
open Go.Proofs.Tryz
end Go.Proofs.YtpojdepccecpgaaGreatDoor
namespace Go.Proofs.YtpojdepccecpgaaGreatDoor
open Go.Proofs.Tryz
def chkQ (f : PFunc) (op : Int) (args : List Int) (i : Nat) (block at_ : Int) (q : PInst × Nat) : Bool := decide (q.1.op = op) && decide (q.1.args = args) && aheadB f ((i : Int), (q.2 : Int)) block at_
def chkI (f : PFunc) (op : Int) (args : List Int) (block at_ : Int) (i : Nat) : Bool := ((f.blocks[i]?).map fun b => b.insts.zipIdx.any (chkQ f op args i block at_)).getD false
def chkW (f : PFunc) (op : Int) (args : List Int) (block at_ : Int) : Bool := (List.range f.blocks.length).any (chkI f op args block at_)
def isSum (op : Int) : Bool := decide (op = 2 ∨ op = 3 ∨ op = 4)
def chkX (f : PFunc) (x : PInst) (block at_ : Int) : Bool := isSum x.op && chkW f (x.op + 19) x.args block at_
def instAt (f : PFunc) (m : Plc) : Option PInst := if 0 ≤ m.1 ∧ 0 ≤ m.2 then (f.blocks[m.1.toNat]?).bind fun b => b.insts[m.2.toNat]? else none
def chkV (f : PFunc) (v : Int) : Bool := ((instAt f (makerT f v)).map fun x => chkX f x (makerT f v).1 (makerT f v).2).getD false
theorem mem_mkBlk {v i : Int} {b : PBlock} {m : Plc} : m ∈ mkBlk v i b ↔ (∃ p ∈ b.phis, p.dst = v ∧ m = (i, -1)) ∨ ∃ (k : Nat) (x : PInst), b.insts[k]? = some x ∧ x.dst = v ∧ m = (i, (k : Int)) := by
 unfold mkBlk
 rw [List.mem_append]
 constructor
 ·rintro (h | h)
  ·obtain ⟨p, hp, e⟩ := List.mem_map.1 h
   obtain ⟨h1, h2⟩ := List.mem_filter.1 hp
   exact .inl ⟨p, h1, by simpa using h2, e.symm⟩
  ·obtain ⟨q, hq, e⟩ := List.mem_map.1 h
   obtain ⟨h1, h2⟩ := List.mem_filter.1 hq
   obtain ⟨x, k⟩ := q
   have := List.mem_zipIdx_iff_getElem?.1 h1
   exact .inr ⟨k, x, this, by simpa using h2, e.symm⟩
 ·rintro (⟨p, h1, h2, rfl⟩ | ⟨k, x, h1, h2, rfl⟩)
  ·exact .inl (List.mem_map.2 ⟨p, List.mem_filter.2 ⟨h1, by simpa using h2⟩, rfl⟩)
  ·exact .inr (List.mem_map.2 ⟨(x, k), List.mem_filter.2 ⟨List.mem_zipIdx_iff_getElem?.2 h1, by simpa using h2⟩, rfl⟩)
theorem mem_makings {f : PFunc} {v : Int} {m : Plc} : m ∈ makings f v ↔ ∃ (i : Nat) (b : PBlock), f.blocks[i]? = some b ∧ m ∈ mkBlk v i b := by
 unfold makings
 rw [List.mem_flatMap]
 constructor
 ·rintro ⟨⟨b, i⟩, h1, h2⟩; exact ⟨i, b, List.mem_zipIdx_iff_getElem?.1 h1, h2⟩
 ·rintro ⟨i, b, h1, h2⟩; exact ⟨(b, i), List.mem_zipIdx_iff_getElem?.2 h1, h2⟩
theorem maker_mem {f : PFunc} {v : Int} (h : 0 ≤ (makerT f v).1) : makerT f v ∈ makings f v := by
 unfold makerT at h ⊢
 cases hm : makings f v with
 | nil => rw [hm] at h; simp at h
 | cons x l => simp
theorem maker_eq {f : PFunc} {v : Int} {m : Plc} (hl : (makings f v).length ≤ 1) (h : m ∈ makings f v) : makerT f v = m := by
 unfold makerT
 cases hm : makings f v with
 | nil => rw [hm] at h; cases h
 | cons x l =>
  rw [hm] at h hl
  cases l with
  | nil => simp at h; simp [h]
  | cons y l => simp at hl
theorem maker_cases {f : PFunc} {v : Int} (h : 0 ≤ (makerT f v).1) : ∃ (i : Nat) (b : PBlock), f.blocks[i]? = some b ∧ ((∃ p ∈ b.phis, p.dst = v ∧ makerT f v = ((i : Int), -1)) ∨ ∃ (k : Nat) (x : PInst), b.insts[k]? = some x ∧ x.dst = v ∧ makerT f v = ((i : Int), (k : Int))) := by
 obtain ⟨i, b, h1, h2⟩ := mem_makings.1 (maker_mem h)
 exact ⟨i, b, h1, mem_mkBlk.1 h2⟩
theorem chkV_at {f : PFunc} {v : Int} {i k : Nat} {b : PBlock} {x : PInst} (hb : f.blocks[i]? = some b) (hx : b.insts[k]? = some x) (hm : makerT f v = ((i : Int), (k : Int))) : chkV f v = chkX f x i k := by
 unfold chkV instAt
 rw [hm, if_pos ⟨by dsimp only; omega, by dsimp only; omega⟩]
 show (((f.blocks[i]?).bind fun b => b.insts[k]?).map fun x => chkX f x i k).getD false = _
 rw [hb]; show ((b.insts[k]?).map _).getD false = _
 rw [hx]; rfl
end Go.Proofs.YtpojdepccecpgaaGreatDoor
namespace Go.Proofs.YtpojdepccecpgaaGreatDoor
open Go.Proofs.Tryz
end Go.Proofs.YtpojdepccecpgaaGreatDoor
namespace Go.Proofs.YtpojdepccecpgaaGreatDoor
open Go.Proofs.Tryz
def isChk (q : Int) : Prop := 21 ≤ q ∧ q ≤ 23
instance (q : Int) : Decidable (isChk q) := by unfold isChk; infer_instance
def Done (f : PFunc) (i k : Nat) (v : Int) : Prop := ∃ (i' k' : Nat) (b : PBlock) (z : PInst), f.blocks[i']? = some b ∧ b.insts[k']? = some z ∧ z.dst = v ∧ chkX f z i' k' = true ∧ (i' < i ∨ i' = i ∧ k' < k)
theorem Done.step {f : PFunc} {i k : Nat} {b : PBlock} {z : PInst} (h1 : f.blocks[i]? = some b) (h2 : b.insts[k]? = some z) (v : Int) : Done f i (k + 1) v ↔ Done f i k v ∨ (v = z.dst ∧ chkX f z i k = true) := by
 constructor
 ·rintro ⟨i', k', b', z', g1, g2, g3, g4, g5⟩
  by_cases e : i' = i ∧ k' = k
  ·obtain ⟨rfl, rfl⟩ := e
   rw [h1] at g1; cases g1
   rw [h2] at g2; cases g2
   exact .inr ⟨g3.symm, g4⟩
  ·exact .inl ⟨i', k', b', z', g1, g2, g3, g4, by omega⟩
 ·rintro (⟨i', k', b', z', g1, g2, g3, g4, g5⟩ | ⟨rfl, h⟩)
  ·exact ⟨i', k', b', z', g1, g2, g3, g4, by omega⟩
  ·exact ⟨i, k, b, z, h1, h2, rfl, h, .inr ⟨rfl, by omega⟩⟩
theorem Done.next {f : PFunc} {i : Nat} {b : PBlock} (h1 : f.blocks[i]? = some b) (v : Int) : Done f (i + 1) 0 v ↔ Done f i b.insts.length v := by
 constructor
 ·rintro ⟨i', k', b', z', g1, g2, g3, g4, g5⟩
  refine ⟨i', k', b', z', g1, g2, g3, g4, ?_⟩
  by_cases e : i' = i
  ·subst e
   rw [h1] at g1; cases g1
   exact .inr ⟨rfl, (List.getElem?_eq_some_iff.1 g2).1⟩
  ·exact .inl (by omega)
 ·rintro ⟨i', k', b', z', g1, g2, g3, g4, g5⟩
  exact ⟨i', k', b', z', g1, g2, g3, g4, .inl (by omega)⟩
theorem Done.zero (f : PFunc) (v : Int) : ¬ Done f 0 0 v := by
 rintro ⟨i', k', b', z', g1, g2, g3, g4, g5⟩; omega
theorem Done.all {f : PFunc} (ho : OnceP f) {v : Nat} (hv : v < f.vars.length) : Done f f.blocks.length 0 v ↔ chkV f v = true := by
 constructor
 ·rintro ⟨i', k', b', z', g1, g2, g3, g4, g5⟩
  have hm : ((i' : Int), (k' : Int)) ∈ makings f v := mem_makings.2 ⟨i', b', g1, mem_mkBlk.2 (.inr ⟨k', z', g2, g3, rfl⟩)⟩
  have := maker_eq (ho v hv).1 hm
  rw [chkV_at g1 g2 this]; exact g4
 ·intro h
  by_cases h0 : 0 ≤ (makerT f v).1
  ·obtain ⟨i, b, h1, ⟨p, h2, h3, h4⟩ | ⟨k, x, h2, h3, h4⟩⟩ := maker_cases h0
   ·unfold chkV instAt at h
    rw [h4, if_neg (by dsimp only; omega)] at h
    cases h
   ·rw [chkV_at h1 h2 h4] at h
    exact ⟨i, k, b, x, h1, h2, h3, h, .inl (List.getElem?_eq_some_iff.1 h1).1⟩
  ·unfold chkV instAt at h
   rw [if_neg (fun hh => h0 hh.1)] at h
   cases h
end Go.Proofs.YtpojdepccecpgaaGreatDoor
namespace Go.Proofs.YtpojdepccecpgaaGreatDoor
open Go.Proofs.Tryz
end Go.Proofs.YtpojdepccecpgaaGreatDoor
namespace Go.Proofs.YtpojdepccecpgaaGreatDoor
open Go.Proofs.Tryz
section
variable {n : Nat} {rule : List Rng → Int → Rng} {vs : List Int} {phi : Int → Prop} {rank : Int → Nat}
def SameR (vs : List Int) (phi : Int → Prop) (rank : Int → Nat) (m : Nat) (l l' : List Rng) : Prop := ∀ u : Int, 0 ≤ u → (u ∉ vs ∨ phi u ∨ rank u < m) → lv l u = lv l' u
theorem SameR.le {m k : Nat} {l l' : List Rng} (h : SameR vs phi rank m l l') (hk : k ≤ m) : SameR vs phi rank k l l' := fun u hu hc => h u hu (by
 rcases hc with hc | hc | hc
 ·exact .inl hc
 ·exact .inr (.inl hc)
 ·exact .inr (.inr (by omega)))
end
section
variable {n : Nat} {rule : List Rng → Int → Rng} {vs : List Int} {phi : Int → Prop} {t : Int → Rng}
end
end Go.Proofs.YtpojdepccecpgaaGreatDoor
namespace Go.Proofs.YtpojdepccecpgaaGreatDoor
open Go.Proofs.Tryz
def hAdd (h : Rng × Bool) (n : Int) (fits : Bool) (e : Int) : Rng × Bool := (rJoin h.1 (rOf (if fits then n else e)), h.2 || !fits)
def h4 (h : Rng × Bool) (a b : Rng) (n : Int → Int → Int) (fit : Int → Int → Bool) (e : Int → Int → Int) : Rng × Bool :=
 hAdd (hAdd (hAdd (hAdd h (n a.1 b.1) (fit a.1 b.1) (e a.1 b.1)) (n a.1 b.2) (fit a.1 b.2) (e a.1 b.2)) (n a.2 b.1) (fit a.2 b.1) (e a.2 b.1)) (n a.2 b.2) (fit a.2 b.2) (e a.2 b.2)
instance (k : Nat) (x y : Int) : Decidable (fit3 k x y) := by unfold fit3 is64; infer_instance
instance (k : Nat) (a b : Rng) : Decidable (cornF k a b) := by unfold cornF; infer_instance
end Go.Proofs.YtpojdepccecpgaaGreatDoor
namespace Go.Proofs.YtpojdepccecpgaaGreatDoor
open Go.Proofs.Tryz
open Go.Proofs
theorem abs_wrap {x : Int} (h : is64 x) : (if x < 0 then IntKind.u64.wrap (0 - IntKind.u64.wrap x) else IntKind.u64.wrap x) = ((x.natAbs : Nat) : Int) := by
 unfold is64 at h
 unfold IntKind.wrap; simp [IntKind.bits, IntKind.signed]; split <;> omega
def encZ (r : Rng) : List AV := [.int .i64 r.1, .int .i64 r.2]
end Go.Proofs.YtpojdepccecpgaaGreatDoor
namespace Go.Proofs.YtpojdepccecpgaaGreatDoor
open Go.Proofs.Tryz
open Go.Proofs
theorem wrap_s (z : Int) : IntKind.i64.wrap z = (z + 9223372036854775808) % 18446744073709551616 - 9223372036854775808 := by
 unfold IntKind.wrap; simp [IntKind.bits, IntKind.signed]; (try split) <;> omega
theorem wrap_u (z : Int) : IntKind.u64.wrap z = z % 18446744073709551616 := by
 unfold IntKind.wrap; simp [IntKind.bits, IntKind.signed]
theorem wrapU_add (x y : Int) : IntKind.i64.wrap (IntKind.u64.wrap (IntKind.u64.wrap x + IntKind.u64.wrap y)) = IntKind.i64.wrap (x + y) := by
 simp only [wrap_s, wrap_u]; omega
theorem wrapU_sub (x y : Int) : IntKind.i64.wrap (IntKind.u64.wrap (IntKind.u64.wrap x - IntKind.u64.wrap y)) = IntKind.i64.wrap (x - y) := by
 simp only [wrap_s, wrap_u]; omega
theorem wrapU_mul (x y : Int) : IntKind.i64.wrap (IntKind.u64.wrap (IntKind.u64.wrap x * IntKind.u64.wrap y)) = IntKind.i64.wrap (x * y) := by
 simp only [wrap_s, wrap_u]
 rw [← Int.mul_emod]; omega
theorem wrapU_neg (x : Int) : IntKind.i64.wrap (IntKind.u64.wrap (0 - IntKind.u64.wrap x)) = IntKind.i64.wrap (x.tdiv (-1)) := by
 rw [show x.tdiv (-1) = -x by rw [Int.tdiv_neg, Int.tdiv_one]]
 simp only [wrap_s, wrap_u]; omega
theorem fitU {x y : Int} (hx : is64 x) (hx0 : x ≠ 0) (hy0 : y ≠ 0) : decide ((x.natAbs : Int) ≤ IntKind.u64.wrap ((if (decide (x < 0) == decide (y < 0)) = true then 9223372036854775807 else 9223372036854775808 : Int).tdiv (y.natAbs : Int))) = decide (fit3 2 x y) := by
 rw [decide_eq_decide, ← fitMul x y hx0 hy0]
 obtain ⟨l, hl⟩ : ∃ l : Nat, (if decide (x < 0) = decide (y < 0) then 9223372036854775807 else 9223372036854775808) = l := ⟨_, rfl⟩
 have hl2 : (if (decide (x < 0) == decide (y < 0)) = true then 9223372036854775807 else 9223372036854775808 : Int) = (l : Int) := by
  rw [← hl]
  by_cases h : decide (x < 0) = decide (y < 0)
  ·rw [if_pos h, if_pos (by simpa using h)]; rfl
  ·rw [if_neg h, if_neg (by simpa using h)]; rfl
 have hll : l ≤ 9223372036854775808 := by rw [← hl]; split <;> omega
 rw [hl, hl2, show ((l : Int)).tdiv (y.natAbs : Int) = ((l / y.natAbs : Nat) : Int) from rfl, wrap_u]
 have h3 := Nat.div_le_self l y.natAbs
 generalize l / y.natAbs = q at h3 ⊢
 omega
end Go.Proofs.YtpojdepccecpgaaGreatDoor
namespace Go.Proofs.YtpojdepccecpgaaGreatDoor
open Go.Proofs.Tryz
structure GS where
 ints : List Int
 bools : List Bool
 arrs : List Int
 arrays : List (List Int)
 blk : Int
 pc : Nat
 en : Int
 val : Int
 tr : Int
 trace : List Int
 st : Nat
 ck : Nat → Nat
 ended : Bool
structure PArg where
 int : Int
 b : Bool
 arr : Int
structure PIn where
 args : List PArg
 arrays : List (List Int)
def vi (l : List Int) (v : Int) : Int := (l[v.toNat]?).getD 0
def ar0 (x : PInst) : Int := (x.args[0]?).getD 0
def ar1 (x : PInst) : Int := (x.args[1]?).getD 0
def ar2 (x : PInst) : Int := (x.args[2]?).getD 0
def rowG (s : GS) (a : Int) : List Int := (s.arrays[a.toNat]?).getD []
def placeG (s : GS) (a i : Int) : Bool := decide (0 ≤ a ∧ a < s.arrays.length ∧ 0 ≤ i ∧ i < (rowG s a).length)
def bIf (l : List Int) (ints : List Int) : Int := if 1 < l.length then vi ints ((l[1]?).getD 0) else 0
def passG (s : GS) (op : Int) (l : List Int) : Bool :=
 if op = 18 then placeG s (vi s.arrs ((l[0]?).getD 0)) (bIf l s.ints)
 else if op = 19 then decide (0 ≤ vi s.arrs ((l[0]?).getD 0))
 else if op = 20 then decide (vi s.ints ((l[0]?).getD 0) ≠ 0)
 else if op = 21 then decide (fit3 0 (vi s.ints ((l[0]?).getD 0)) (bIf l s.ints))
 else if op = 22 then decide (fit3 1 (vi s.ints ((l[0]?).getD 0)) (bIf l s.ints))
 else if op = 23 then decide (fit3 2 (vi s.ints ((l[0]?).getD 0)) (bIf l s.ints))
 else decide (0 ≤ vi s.ints ((l[0]?).getD 0) ∧ vi s.ints ((l[0]?).getD 0) ≤ 64)
def bumpG (s : GS) (t : Nat) : GS := { s with ck := fun i => if i = t then s.ck i + 1 else s.ck i }
def stopG (s : GS) (e : Int) : GS := { s with en := e, ended := true }
def trapG (s : GS) (t : Int) : GS := { s with en := 1, tr := t, ended := true }
def stI (s : GS) (d v : Int) : GS := { s with ints := s.ints.set d.toNat v }
def stB (s : GS) (d : Int) (v : Bool) : GS := { s with bools := s.bools.set d.toNat v }
def stA (s : GS) (d v : Int) : GS := { s with arrs := s.arrs.set d.toNat v }
def quoG (a b : Int) : Int := IntKind.i64.wrap (a.tdiv b)
def remG (a b : Int) : Int := if b = -1 then 0 else IntKind.i64.wrap (a - IntKind.i64.wrap (IntKind.i64.wrap (a.tdiv b) * b))
def aG (s : GS) (x : PInst) : Int := vi s.ints (ar0 x)
def bG (s : GS) (x : PInst) : Int := vi s.ints (ar1 x)
def pG (s : GS) (x : PInst) : Bool := gb s.bools (ar0 x)
def qG (s : GS) (x : PInst) : Bool := gb s.bools (ar1 x)
def rG (s : GS) (x : PInst) : Int := vi s.arrs (ar0 x)
def doG (s : GS) (x : PInst) : GS :=
 if x.op = 0 then stI s x.dst x.num
 else if x.op = 1 ∨ x.op = 25 ∨ x.op = 26 then stA (stB (stI s x.dst (aG s x)) x.dst (pG s x)) x.dst (rG s x)
 else if x.op = 2 then stI s x.dst (IntKind.i64.wrap (op3 0 (aG s x) (bG s x)))
 else if x.op = 3 then stI s x.dst (IntKind.i64.wrap (op3 1 (aG s x) (bG s x)))
 else if x.op = 4 then stI s x.dst (IntKind.i64.wrap (op3 2 (aG s x) (bG s x)))
 else if x.op = 5 then (if bG s x = 0 then stopG s 2 else stI s x.dst (quoG (aG s x) (bG s x)))
 else if x.op = 6 then (if bG s x = 0 then stopG s 2 else stI s x.dst (remG (aG s x) (bG s x)))
 else if x.op = 7 then stB s x.dst (decide (aG s x = bG s x))
 else if x.op = 8 then stB s x.dst (decide (aG s x < bG s x))
 else if x.op = 9 then stB s x.dst (decide (aG s x ≤ bG s x))
 else if x.op = 10 then stB s x.dst (!pG s x)
 else if x.op = 11 then stB s x.dst (pG s x && qG s x)
 else if x.op = 12 then (if rG s x < 0 then stopG s 2 else stI s x.dst ((rowG s (rG s x)).length))
 else if x.op = 13 then (if placeG s (rG s x) (bG s x) = true then stI s x.dst (vi (rowG s (rG s x)) (bG s x)) else stopG s 2)
 else if x.op = 14 then (if placeG s (rG s x) (bG s x) = true then { s with arrays := s.arrays.set (rG s x).toNat ((rowG s (rG s x)).set (bG s x).toNat (vi s.ints (ar2 x))) } else stopG s 2)
 else if x.op = 15 then (if aG s x < 0 ∨ 64 < aG s x then stopG s 2 else if 32 ≤ s.arrays.length then stopG s 3 else stA { s with arrays := s.arrays ++ [List.replicate (aG s x).toNat 0] } x.dst s.arrays.length)
 else if x.op = 16 then stA s x.dst (-1)
 else (if 4096 ≤ s.trace.length then stopG s 3 else { s with trace := s.trace ++ [aG s x] })
def instG (s : GS) (x : PInst) : GS :=
 if 18 ≤ x.op ∧ x.op ≤ 24 then (if passG s x.op x.args = true then bumpG s (x.op - 17).toNat else trapG (bumpG s (x.op - 17).toNat) (x.op - 17))
 else doG s x
def blkG (f : PFunc) (b : Int) : PBlock := (f.blocks[b.toNat]?).getD ⟨⟨#[]⟩, [], [], ⟨2, 0, 0, 0⟩⟩
def phiAt (p : PPhi) (b : Int) : Int := ((p.from_.zip p.args).find? fun q => decide (q.1 = b)).elim (-1) (·.2)
def assign (s t : GS) (p : PPhi) : GS := stA (stB (stI t p.dst (vi s.ints (phiAt p s.blk))) p.dst (gb s.bools (phiAt p s.blk))) p.dst (vi s.arrs (phiAt p s.blk))
def goG (s : GS) (to : Int) : GS := { s with blk := to, pc := 0 }
def enterG (f : PFunc) (s : GS) (to : Int) : GS :=
 if (blkG f to).phis.all (fun p => decide (0 ≤ phiAt p s.blk)) = true then goG ((blkG f to).phis.foldl (assign s) s) to else stopG (goG s to) 2
def nextG (f : PFunc) (s : GS) : Int := if (blkG f s.blk).term.kind = 0 ∨ gb s.bools (blkG f s.blk).term.var = true then (blkG f s.blk).term.to0 else (blkG f s.blk).term.to1
def stepG (f : PFunc) (s : GS) : GS :=
 match (blkG f s.blk).insts[s.pc]? with
 | some x => instG { s with pc := s.pc + 1, st := s.st + 1 } x
 | none => if (blkG f s.blk).term.kind = 2 then stopG { s with st := s.st + 1, val := vi s.ints (blkG f s.blk).term.var } 0 else enterG f { s with st := s.st + 1 } (nextG f s)
def runG (f : PFunc) : Nat → GS → GS
 | 0, s => s
 | k + 1, s => if s.ended = true then s else runG f k (stepG f s)
def tyL (f : PFunc) (i : Nat) : Int := ((f.vars[i]?).map (·.ty)).getD 0
def begI (f : PFunc) (i : Nat) (a : PArg) : Int := if tyL f i = 0 then a.int else 0
def begB (f : PFunc) (i : Nat) (a : PArg) : Bool := if tyL f i = 0 then false else if tyL f i = 1 then a.b else false
def begA (f : PFunc) (i : Nat) (a : PArg) : Int := if tyL f i = 0 then -1 else if tyL f i = 1 then -1 else a.arr
def fillW {α β : Type} (g : Nat → α → β) (d : β) (n : Nat) (l : List α) : List β := l.zipIdx.map (fun q => g q.2 q.1) ++ List.replicate (n - l.length) d
def begG (f : PFunc) (i : PIn) : GS := ⟨fillW (begI f) 0 f.vars.length i.args, fillW (begB f) false f.vars.length i.args, fillW (begA f) (-1) f.vars.length i.args, i.arrays, 0, 0, 3, 0, 0, [], 0, fun _ => 0, false⟩
structure GInv (f : PFunc) (s : GS) : Prop where
 li : s.ints.length = f.vars.length
 lb : s.bools.length = f.vars.length
 la : s.arrs.length = f.vars.length
 i64 : ∀ x ∈ s.ints, is64 x
 arr : ∀ x ∈ s.arrs, -1 ≤ x ∧ x < s.arrays.length
 ls : s.arrays.length ≤ 40
 lr : ∀ r ∈ s.arrays, r.length ≤ 100
 r64 : ∀ r ∈ s.arrays, ∀ x ∈ r, is64 x
 lt : s.trace.length ≤ 4096
 b0 : 0 ≤ s.blk
 b1 : s.blk < f.blocks.length
 pc : s.pc ≤ (blkG f s.blk).insts.length
theorem vi_get {l : List Int} {v : Int} (h1 : v < l.length) (h0 : 0 ≤ v) : l[v.toNat]? = some (vi l v) := by
 unfold vi; rw [qm (by omega)]; rfl
theorem vi_mem {l : List Int} {v : Int} (h1 : v < l.length) (h0 : 0 ≤ v) : vi l v ∈ l := qv (vi_get h1 h0)
theorem vi_64 {l : List Int} {v : Int} (h : ∀ x ∈ l, is64 x) : is64 (vi l v) := by
 unfold vi
 cases e : l[v.toNat]? with
 | none => exact ⟨by decide, by decide⟩
 | some x => exact h x (qv e)
theorem row_get {s : GS} {a : Int} (h0 : 0 ≤ a) (h1 : a < s.arrays.length) : s.arrays[a.toNat]? = some (rowG s a) := by
 unfold rowG; rw [qm (by omega)]; rfl
theorem row_mem {s : GS} {a : Int} (h0 : 0 ≤ a) (h1 : a < s.arrays.length) : rowG s a ∈ s.arrays := qv (row_get h0 h1)
theorem mem_set_or {α : Type} {l : List α} {n : Nat} {a x : α} (h : x ∈ l.set n a) : x ∈ l ∨ x = a := List.mem_or_eq_of_mem_set h
theorem GInv.stI {f : PFunc} {s : GS} (h : GInv f s) {d v : Int} (hv : is64 v) : GInv f (stI s d v) :=
 ⟨by simp [Go.Proofs.YtpojdepccecpgaaGreatDoor.stI, h.li], h.lb, h.la, fun x hx => (mem_set_or hx).elim (h.i64 x) (fun e => e ▸ hv), h.arr, h.ls, h.lr, h.r64, h.lt, h.b0, h.b1, h.pc⟩
theorem GInv.stB {f : PFunc} {s : GS} (h : GInv f s) {d : Int} {v : Bool} : GInv f (stB s d v) :=
 ⟨h.li, by simp [Go.Proofs.YtpojdepccecpgaaGreatDoor.stB, h.lb], h.la, h.i64, h.arr, h.ls, h.lr, h.r64, h.lt, h.b0, h.b1, h.pc⟩
theorem GInv.stA {f : PFunc} {s : GS} (h : GInv f s) {d v : Int} (hv : -1 ≤ v ∧ v < s.arrays.length) : GInv f (stA s d v) :=
 ⟨h.li, h.lb, by simp [Go.Proofs.YtpojdepccecpgaaGreatDoor.stA, h.la], h.i64, fun x hx => (mem_set_or hx).elim (h.arr x) (fun e => e ▸ hv), h.ls, h.lr, h.r64, h.lt, h.b0, h.b1, h.pc⟩
theorem GInv.stop {f : PFunc} {s : GS} (h : GInv f s) (e : Int) : GInv f (stopG s e) := ⟨h.li, h.lb, h.la, h.i64, h.arr, h.ls, h.lr, h.r64, h.lt, h.b0, h.b1, h.pc⟩
theorem GInv.trap {f : PFunc} {s : GS} (h : GInv f s) (t : Int) : GInv f (trapG s t) := ⟨h.li, h.lb, h.la, h.i64, h.arr, h.ls, h.lr, h.r64, h.lt, h.b0, h.b1, h.pc⟩
theorem GInv.bump {f : PFunc} {s : GS} (h : GInv f s) (t : Nat) : GInv f (bumpG s t) := ⟨h.li, h.lb, h.la, h.i64, h.arr, h.ls, h.lr, h.r64, h.lt, h.b0, h.b1, h.pc⟩
theorem arr_at {f : PFunc} {s : GS} (h : GInv f s) {v : Int} (h1 : v < f.vars.length) (h0 : 0 ≤ v) : -1 ≤ vi s.arrs v ∧ vi s.arrs v < s.arrays.length :=
 h.arr _ (vi_mem (by rw [h.la]; exact h1) h0)
theorem arr_any {f : PFunc} {s : GS} (h : GInv f s) {v : Int} (hn : v < f.vars.length ∧ 0 ≤ v) : -1 ≤ vi s.arrs v ∧ vi s.arrs v < s.arrays.length := arr_at h hn.1 hn.2
theorem place_iff {s : GS} {a i : Int} : placeG s a i = true ↔ 0 ≤ a ∧ a < s.arrays.length ∧ 0 ≤ i ∧ i < (rowG s a).length := by unfold placeG; rw [w4]
theorem wrap_64 (x : Int) : is64 (IntKind.i64.wrap x) := by
 rw [wrap_s]; unfold is64; omega
theorem rem_64 (a b : Int) : is64 (remG a b) := by
 unfold remG; split
 ·exact ⟨by decide, by decide⟩
 ·exact wrap_64 _
theorem has_lt {f : PFunc} {v : Int} (h : hasV f v = true) : v < f.vars.length ∧ 0 ≤ v := by
 unfold hasV at h; simp at h; exact ⟨h.2, h.1⟩
theorem InstF.a0 {f : PFunc} {x : PInst} (h : InstF f x) (hl : 0 < x.args.length) : ar0 x < f.vars.length ∧ 0 ≤ ar0 x := by
 unfold ar0; rw [qm hl]; exact has_lt (h.args _ (qq hl))
theorem InstF.a1 {f : PFunc} {x : PInst} (h : InstF f x) (hl : 1 < x.args.length) : ar1 x < f.vars.length ∧ 0 ≤ ar1 x := by
 unfold ar1; rw [qm hl]; exact has_lt (h.args _ (qq hl))
theorem InstF.a2 {f : PFunc} {x : PInst} (h : InstF f x) (hl : 2 < x.args.length) : ar2 x < f.vars.length ∧ 0 ≤ ar2 x := by
 unfold ar2; rw [qm hl]; exact has_lt (h.args _ (qq hl))
theorem takesN : ∀ j : Nat, j < 27 → (takesL (j : Int)).length = ([0, 1, 2, 2, 2, 2, 2, 2, 2, 2, 1, 2, 1, 2, 3, 1, 0, 1, 2, 1, 1, 2, 2, 2, 1, 2, 2][j]?).getD 0 := by decide
theorem InstF.argc {f : PFunc} {x : PInst} (h : InstF f x) : x.args.length = ([0, 1, 2, 2, 2, 2, 2, 2, 2, 2, 1, 2, 1, 2, 3, 1, 0, 1, 2, 1, 1, 2, 2, 2, 1, 2, 2][x.op.toNat]?).getD 0 := by
 have h1 := h.op
 obtain ⟨j, e⟩ : ∃ j : Nat, x.op = (j : Int) := ⟨x.op.toNat, by omega⟩
 rw [h.len, e, takesN j (by omega), Int.toNat_natCast]
theorem makesN : ∀ j : Nat, j < 27 → makesB (j : Int) = ([true, true, true, true, true, true, true, true, true, true, true, true, true, true, false, true, true, false, false, false, false, false, false, false, false, true, true][j]?).getD false := by decide
theorem InstF.made {f : PFunc} {x : PInst} (h : InstF f x) (hm : ([true, true, true, true, true, true, true, true, true, true, true, true, true, true, false, true, true, false, false, false, false, false, false, false, false, true, true][x.op.toNat]?).getD false = true) : x.dst < f.vars.length ∧ 0 ≤ x.dst := by
 have h1 := h.op
 obtain ⟨j, e⟩ : ∃ j : Nat, x.op = (j : Int) := ⟨x.op.toNat, by omega⟩
 rw [e, Int.toNat_natCast, ← makesN j (by omega), ← e] at hm
 rcases h.dst with g | g
 ·rw [g.1] at hm; cases hm
 ·exact has_lt g.2.2
theorem GInv.doG {f : PFunc} {s : GS} (h : GInv f s) {x : PInst} (hx : InstF f x) (h64 : is64 x.num) : GInv f (doG s x) := by
 have hc := hx.argc
 have st : ∀ e, GInv f (stopG s e) := h.stop
 have wr : ∀ d v, GInv f (Go.Proofs.YtpojdepccecpgaaGreatDoor.stI s d (IntKind.i64.wrap v)) := fun _ _ => h.stI (wrap_64 _)
 have bo : ∀ d v, GInv f (Go.Proofs.YtpojdepccecpgaaGreatDoor.stB s d v) := fun _ _ => h.stB
 unfold Go.Proofs.YtpojdepccecpgaaGreatDoor.doG
 by_cases e : x.op = 0
 ·rw [if_pos e]; exact h.stI h64
 rw [if_neg e]; clear e
 by_cases e : x.op = 1 ∨ x.op = 25 ∨ x.op = 26
 ·rw [if_pos e]
  refine GInv.stA (s := Go.Proofs.YtpojdepccecpgaaGreatDoor.stB (Go.Proofs.YtpojdepccecpgaaGreatDoor.stI s x.dst (aG s x)) x.dst (pG s x)) (h.stI (vi_64 h.i64)).stB ?_
  exact arr_any h (hx.a0 (by rcases e with e | e | e <;> (rw [e] at hc; rw [hc]; decide)))
 rw [if_neg e]; clear e
 by_cases e : x.op = 2
 ·rw [if_pos e]; exact wr _ _
 rw [if_neg e]; clear e
 by_cases e : x.op = 3
 ·rw [if_pos e]; exact wr _ _
 rw [if_neg e]; clear e
 by_cases e : x.op = 4
 ·rw [if_pos e]; exact wr _ _
 rw [if_neg e]; clear e
 by_cases e : x.op = 5
 ·rw [if_pos e]
  split
  ·exact st 2
  ·exact wr _ _
 rw [if_neg e]; clear e
 by_cases e : x.op = 6
 ·rw [if_pos e]
  split
  ·exact st 2
  ·exact h.stI (rem_64 _ _)
 rw [if_neg e]; clear e
 by_cases e : x.op = 7
 ·rw [if_pos e]; exact bo _ _
 rw [if_neg e]; clear e
 by_cases e : x.op = 8
 ·rw [if_pos e]; exact bo _ _
 rw [if_neg e]; clear e
 by_cases e : x.op = 9
 ·rw [if_pos e]; exact bo _ _
 rw [if_neg e]; clear e
 by_cases e : x.op = 10
 ·rw [if_pos e]; exact bo _ _
 rw [if_neg e]; clear e
 by_cases e : x.op = 11
 ·rw [if_pos e]; exact bo _ _
 rw [if_neg e]; clear e
 by_cases e : x.op = 12
 ·rw [if_pos e]
  split
  ·exact st 2
  ·rename_i hr
   have hl := h.lr _ (row_mem (by omega) (arr_any h (hx.a0 (by rw [e] at hc; rw [hc]; decide))).2 : rowG s (rG s x) ∈ s.arrays)
   exact h.stI ⟨by omega, by omega⟩
 rw [if_neg e]; clear e
 by_cases e : x.op = 13
 ·rw [if_pos e]
  split
  ·rename_i hp
   obtain ⟨h1, h2, _⟩ := place_iff.1 hp
   exact h.stI (vi_64 (h.r64 _ (row_mem h1 h2)))
  ·exact st 2
 rw [if_neg e]; clear e
 by_cases e : x.op = 14
 ·rw [if_pos e]
  split
  ·rename_i hp
   obtain ⟨h1, h2, _⟩ := place_iff.1 hp
   refine ⟨h.li, h.lb, h.la, h.i64, fun y hy => by simpa using h.arr y hy, by simpa using h.ls, fun r hr => ?_, fun r hr => ?_, h.lt, h.b0, h.b1, h.pc⟩
   ·rcases mem_set_or hr with hr | hr
    ·exact h.lr r hr
    ·rw [hr, List.length_set]; exact h.lr _ (row_mem h1 h2)
   ·rcases mem_set_or hr with hr | hr
    ·exact h.r64 r hr
    ·intro y hy
     rw [hr] at hy
     rcases mem_set_or hy with hy | hy
     ·exact h.r64 _ (row_mem h1 h2) y hy
     ·rw [hy]; exact vi_64 h.i64
  ·exact st 2
 rw [if_neg e]; clear e
 by_cases e : x.op = 15
 ·rw [if_pos e]
  split
  ·exact st 2
  ·rename_i ha
   split
   ·exact st 3
   ·rename_i hs
    refine GInv.stA (s := { s with arrays := s.arrays ++ [List.replicate (aG s x).toNat 0] }) ⟨h.li, h.lb, h.la, h.i64, fun y hy => ?_, ?_, fun r hr => ?_, fun r hr => ?_, h.lt, h.b0, h.b1, h.pc⟩ ?_
    ·have := h.arr y hy
     simp only [qs, List.length_singleton]; omega
    ·simp only [qs, List.length_singleton]; omega
    ·rcases List.mem_append.1 hr with hr | hr
     ·exact h.lr r hr
     ·rw [List.mem_singleton.1 hr, List.length_replicate]; omega
    ·rcases List.mem_append.1 hr with hr | hr
     ·exact h.r64 r hr
     ·intro y hy
      rw [List.mem_singleton.1 hr] at hy
      rw [(List.mem_replicate.1 hy).2]; exact ⟨by decide, by decide⟩
    ·simp only [qs, List.length_singleton]; omega
 rw [if_neg e]; clear e
 by_cases e : x.op = 16
 ·rw [if_pos e]; exact h.stA ⟨by omega, by omega⟩
 rw [if_neg e]; clear e
 split
 ·exact st 3
 ·rename_i ht
  exact ⟨h.li, h.lb, h.la, h.i64, h.arr, h.ls, h.lr, h.r64, by simp only [qs, List.length_singleton]; omega, h.b0, h.b1, h.pc⟩
theorem GInv.inst {f : PFunc} {s : GS} (h : GInv f s) {x : PInst} (hx : InstF f x) (h64 : is64 x.num) : GInv f (instG s x) := by
 unfold instG
 split
 ·split
  ·exact h.bump _
  ·exact (h.bump _).trap _
 ·exact h.doG hx h64
structure RunP (f : PFunc) : Prop where
 pos : 0 < f.blocks.length
 phis : ∀ b ∈ f.blocks, ∀ p ∈ b.phis, PhiP f p
 insts : ∀ b ∈ f.blocks, ∀ x ∈ b.insts, InstF f x ∧ is64 x.num
 term : ∀ b ∈ f.blocks, termOK f b.term = true
theorem blk_get {f : PFunc} {b : Int} (h0 : 0 ≤ b) (h1 : b < f.blocks.length) : f.blocks[b.toNat]? = some (blkG f b) := by
 unfold blkG; rw [qm (by omega)]; rfl
theorem blk_mem {f : PFunc} {b : Int} (h0 : 0 ≤ b) (h1 : b < f.blocks.length) : blkG f b ∈ f.blocks := qv (blk_get h0 h1)
theorem phiAt_mem {p : PPhi} {b : Int} (h : 0 ≤ phiAt p b) : phiAt p b ∈ p.args := by
 unfold phiAt at h ⊢
 cases e : (p.from_.zip p.args).find? fun q => decide (q.1 = b) with
 | none => rw [e] at h; simp at h
 | some q => exact (List.of_mem_zip (List.mem_of_find?_eq_some e)).2
theorem GInv.assign {f : PFunc} {s t : GS} (h : GInv f s) (ht : GInv f t) (ha : t.arrays = s.arrays) {p : PPhi} (hp : PhiP f p) (h0 : 0 ≤ phiAt p s.blk) : GInv f (assign s t p) ∧ (assign s t p).arrays = s.arrays := by
 have hv := has_lt (List.all_eq_true.1 hp.2.2.2.1 _ (phiAt_mem h0))
 refine ⟨GInv.stA (s := Go.Proofs.YtpojdepccecpgaaGreatDoor.stB (Go.Proofs.YtpojdepccecpgaaGreatDoor.stI t p.dst _) p.dst _) (ht.stI (vi_64 h.i64)).stB ?_, ha⟩
 show _ ∧ _ < (t.arrays.length : Int)
 rw [ha]; exact arr_any h hv
theorem GInv.assigns {f : PFunc} {s : GS} (h : GInv f s) : ∀ (l : List PPhi) (t : GS), GInv f t → t.arrays = s.arrays → (∀ p ∈ l, PhiP f p ∧ 0 ≤ phiAt p s.blk) → GInv f (l.foldl (Go.Proofs.YtpojdepccecpgaaGreatDoor.assign s) t)
 | [], t, ht, _, _ => ht
 | p :: l, t, ht, ha, hl => by
  obtain ⟨h1, h2⟩ := h.assign ht ha (hl p (.head _)).1 (hl p (.head _)).2
  exact h.assigns l _ h1 h2 fun q hq => hl q (.tail _ hq)
theorem GInv.goG {f : PFunc} {s : GS} (h : GInv f s) {to : Int} (h0 : 0 ≤ to) (h1 : to < f.blocks.length) : GInv f (goG s to) := ⟨h.li, h.lb, h.la, h.i64, h.arr, h.ls, h.lr, h.r64, h.lt, h0, h1, qp _⟩
theorem GInv.enter {f : PFunc} {s : GS} (hR : RunP f) (h : GInv f s) {to : Int} (h0 : 0 ≤ to) (h1 : to < f.blocks.length) : GInv f (enterG f s to) := by
 unfold enterG
 split
 ·rename_i ha
  exact (h.assigns _ s h rfl fun p hp => ⟨hR.phis _ (blk_mem h0 h1) p hp, of_decide_eq_true (List.all_eq_true.1 ha p hp)⟩).goG h0 h1
 ·exact (h.goG h0 h1).stop 2
theorem term_to {f : PFunc} {t : PTerm} (h : termOK f t = true) (hk : ¬ t.kind = 2) : (0 ≤ t.to0 ∧ t.to0 < f.blocks.length) ∧ (¬ t.kind = 0 → t.kind = 1 ∧ (0 ≤ t.to1 ∧ t.to1 < f.blocks.length)) := by
 unfold termOK at h
 split at h
 ·rename_i e
  simp only [w0, hasB, w4] at h
  exact ⟨h.1.1, fun g => absurd e g⟩
 ·split at h
  ·rename_i e
   simp only [w0, hasB, w4] at h
   exact ⟨h.1.2, fun _ => ⟨e, h.2⟩⟩
  ·simp [hk] at h
theorem next_to {f : PFunc} (hR : RunP f) {s : GS} (h : GInv f s) (hk : ¬ (blkG f s.blk).term.kind = 2) : 0 ≤ nextG f s ∧ nextG f s < f.blocks.length := by
 have ht := term_to (hR.term _ (blk_mem h.b0 h.b1)) hk
 unfold nextG
 split
 ·exact ht.1
 ·rename_i e
  exact (ht.2 fun g => e (.inl g)).2
theorem GInv.up {f : PFunc} {s : GS} (h : GInv f s) (n : Nat) (v : Int) : GInv f { s with st := n, val := v } := ⟨h.li, h.lb, h.la, h.i64, h.arr, h.ls, h.lr, h.r64, h.lt, h.b0, h.b1, h.pc⟩
theorem GInv.step {f : PFunc} (hR : RunP f) {s : GS} (h : GInv f s) : GInv f (stepG f s) := by
 unfold stepG
 split
 ·rename_i x hx
  obtain ⟨hi, h64⟩ := hR.insts _ (blk_mem h.b0 h.b1) x (qv hx)
  obtain ⟨hp, _⟩ := List.getElem?_eq_some_iff.1 hx
  exact GInv.inst (s := { s with pc := s.pc + 1, st := s.st + 1 }) ⟨h.li, h.lb, h.la, h.i64, h.arr, h.ls, h.lr, h.r64, h.lt, h.b0, h.b1, hp⟩ hi h64
 ·split
  ·exact (h.up _ _).stop 0
  ·rename_i hk
   obtain ⟨h0, h1⟩ := next_to hR h hk
   exact GInv.enter hR (s := { s with st := s.st + 1 }) (h.up _ s.val) h0 h1
end Go.Proofs.YtpojdepccecpgaaGreatDoor
