/- What is asked of the program itself, of the law NumberNone, fact for fact. No conditions. -/
import Derived.Test.YtiojekbkamegdaaGreatDoorKr
import Derived.Test.YtiojekbkamegdaaGreatDoorKh
import Derived.Test.YtiojekbkamegdaaGreatDoorKd
import Derived.Lib.LaidRTab
import Derived.Test.YtiojekbkamegdaaGreatDoorRows
import Derived.Test.YtiojekbkamegdaaGreatDoorChecked
import Derived.ProofKit
import Derived.JoinedOf
set_option linter.unusedVariables false
set_option linter.unusedSimpArgs false
set_option linter.unusedSectionVars false
namespace Go.Proofs.YtiojekbkamegdaaGreatDoor
open Go.Proofs.Tryz
open Go.Proofs Go.Lib Go.Shelf Go.RowKit
variable {E : World}
set_option maxRecDepth 20000
set_option maxHeartbeats 8000000 in
theorem nSame_spec (x y : PInst) (hx : x.args.length ≤ 1000) (hy : y.args.length ≤ 1000) : AFun prog E 24 [.agg (encInst x), .agg (encInst y)] (.bool (sameI x y)) := by
 have no : ¬ (cntB x.op = true ∧ x.op = y.op ∧ x.num = y.num ∧ x.args.length = y.args.length) → sameI x y = false := fun h => by
  cases hs : sameI x y with
  | false => rfl
  | true =>
   obtain ⟨h1, ⟨h2, h3⟩, h4⟩ := sameI_iff.1 hs
   refine absurd ⟨h1, h2, h3, ?_⟩ h
   rcases h4 with h4 | ⟨_, _, h4⟩ <;> rw [h4]
   exact List.length_reverse
 refine zo func24 Z (by decide) Z<|zSr<|y9 (cs := _) Z Z Z<|y9 (cs := _) Z Z Z<|zVzAb Z<|z6<|za<|zSr<|zVzFF j6 Z Z1 Z Z<|zVzLi Za Z<|zk (counts_spec _) Z<|zVGvnot Z<|zVzMb Z<|zn (s := 9) Z (fun c1=>?_) (fun c1=>?_)
 ·refine z2 Z Z c1<|z2 Z Z c1<|z2 Z Z c1<|z2 Z Z c1<|z2 Z Z c1<|zVzPt Z c1 Z<|zVzMb Z<|z2 Z Z Z<|z2 Z Z Z<|z2 Z Z Z<|z2 Z Z Z<|z2 Z Z Z<|zVzPt Z Z Z<|zVzMb Z<|z2 Z Z Z<|z2 Z Z Z<|z2 Z Z Z<|z2 Z Z Z<|z2 Z Z Z<|z2 Z Z Z<|z2 Z Z Z<|zVzPt Z Z Z<|z6<|yi Z Z<|zSr<|zVzAb Z<|z6<|zi<|zj (x := .bool _) Z ?_
  rw [no (fun h => by rw [h.1] at c1; cases c1)]
 ·have hc : cntB x.op = true := by simpa using c1
  refine z7 Z Z c1<|zVzFF j6 Z Z1 Z Z<|z7 Z Z c1<|zVzLi Za Z<|z7 Z Z c1<|zVzFF j6 Z Z1 Z Z<|z7 Z Z c1<|zVzLi Za Z<|z7 Z Z c1<|zVGvneqI Z Z<|zVzPf Z c1 Z<|zVzMb Z<|zn (s := 16) Z (fun c2=>?_) (fun c2=>?_)
  ·refine z2 Z Z c2<|z2 Z Z c2<|z2 Z Z c2<|z2 Z Z c2<|z2 Z Z c2<|zVzPt Z c2 Z<|zVzMb Z<|z2 Z Z Z<|z2 Z Z Z<|z2 Z Z Z<|z2 Z Z Z<|z2 Z Z Z<|z2 Z Z Z<|z2 Z Z Z<|zVzPt Z Z Z<|z6<|yi Z Z<|zSr<|zVzAb Z<|z6<|zi<|zj (x := .bool _) Z ?_
   rw [no (fun h => nT c2 h.2.1)]
  ·have eop := nF c2
   refine z7 Z Z c2<|zVzFF j6 Z Y5 Z Z<|z7 Z Z c2<|zVzLi Y7 Z<|z7 Z Z c2<|zVzFF j6 Z Y5 Z Z<|z7 Z Z c2<|zVzLi Y7 Z<|z7 Z Z c2<|zVGvneqI Z Z<|zVzPf Z c2 Z<|zVzMb Z<|zn (s := 23) Z (fun c3=>?_) (fun c3=>?_)
   ·refine z2 Z Z c3<|z2 Z Z c3<|z2 Z Z c3<|z2 Z Z c3<|z2 Z Z c3<|z2 Z Z c3<|z2 Z Z c3<|zVzPt Z c3 Z<|z6<|yi Z Z<|zSr<|zVzAb Z<|z6<|zi<|zj (x := .bool _) Z ?_
    rw [no (fun h => nT c3 h.2.2.1)]
   ·have enum := nF c3
    refine z7 Z Z c3<|zVzFF j6 Z j8 Z Z<|z7 Z Z c3<|zVzLf jg Z<|z7 Z Z c3<|zVGvlenM j4 Z<|z7 Z Z c3<|zVzFF j6 Z j8 Z Z<|z7 Z Z c3<|zVzLf jg Z<|z7 Z Z c3<|zVGvlenM j4 Z<|z7 Z Z c3<|zVGvneqI Z Z<|zVzPf Z c3 Z<|z6<|zr Z (fun c4=>?_) (fun c4=>?_)
    ·refine zSr<|zVzAb Z<|z6<|zi<|zj (x := .bool _) Z ?_
     rw [no (fun h => nT c4 (by rw [h.2.2.2]))]
    ·have elen : x.args.length = y.args.length := by have := nF c4; omega
     have key : sameI x y = (decide (x.args = y.args) || (trnB x.op && (decide (x.args.length = 2) && decide (x.args = y.args.reverse)))) := by
      unfold sameI; rw [hc, qp (⟨eop, enum⟩ : x.op = y.op ∧ x.num = y.num)]; rfl
     refine ze<|za<|zSr<|zVzFF j6 Z j8 Z Z<|zVzLf jg Z<|zVzFF j6 Z j8 Z Z<|zVzLf jg Z<|zk (equalI_spec x.args y.args (by unfold okL; omega)) Z<|z6<|zq Z (fun c5=>?_) (fun c5=>?_)
     ·refine zSr<|zVzAb Z<|z6<|zi<|zj (x := .bool _) Z ?_
      rw [key, qp c5, Bool.true_or]
     ·rw [qq c5, Bool.false_or] at key
      refine ze<|za<|y8 (fun j => false) (by kernel_rfl) Z (zp (.rest _))<|zTk 0 Z (zFF j6 Z Z1 Z Z)<|zTk 1 Z (zLi Za Z)<|zOn 2 Z<|zk (turns_spec _) Z<|z6<|zTk 3 Z (zMb Z)<|AAny.case (s := 40) Z (fun c6=>?_) (fun c6=>?_)
      ·have ht : trnB x.op = true := c6
       refine zTt 4 Z Z Z c6 (zFF j6 Z j8 Z Z)<|zTt 5 Z Z Z c6 (zLf jg Z)<|zTt 6 Z Z Z c6 (Gv.lenM j4 Z)<|zTt 7 Z Z Z c6 (Gv.eqlI Z Z)<|zTk 8 Z (zPt Z c6 Z)<|zTk 9 Z (zMb Z)<|AAny.case (s := 46) Z (fun c7=>?_) (fun c7=>?_)
       ·have h2 : x.args.length = 2 := by simp at c7; omega
        obtain ⟨a, b, hab⟩ : ∃ a b, x.args = [a, b] := by
         match h : x.args, h2 with
         | [a, b], _ => exact ⟨a, b, rfl⟩
        obtain ⟨c, d, hcd⟩ : ∃ c d, y.args = [c, d] := by
         match h : y.args, (show y.args.length = 2 by omega) with
         | [a, b], _ => exact ⟨a, b, rfl⟩
        refine zTt 10 Z Z Z c7 (zFF j6 Z j8 Z Z)<|zTt 11 Z Z Z c7 (zLf jg Z)<|zTt 12 Z Z Z c7 (zIM 0 j4 j5 Z Z Z (by rw [hab]; rfl)) ?_
        refine zTt 13 Z Z Z c7 (zLi jd Z)<|zTt 14 Z Z Z c7 (zFF j6 Z j8 Z Z)<|zTt 15 Z Z Z c7 (zLf jg Z)<|zTt 16 Z Z Z c7 (zIM 1 j4 j5 Z Z Z (by rw [hcd]; rfl)) ?_
        refine zTt 17 Z Z Z c7 (zLi jd Z)<|zTt 18 Z Z Z c7 (Gv.eqlI Z Z)<|zTk 19 Z (zPt Z c7 Z)<|zTk 20 Z (zMb Z)<|AAny.case (s := 57) Z (fun c8=>?_) (fun c8=>?_)
        ·refine zTt 21 Z Z Z c8 (zFF j6 Z j8 Z Z)<|zTt 22 Z Z Z c8 (zLf jg Z)<|zTt 23 Z Z Z c8 (zIM 1 j4 j5 Z Z Z (by rw [hab]; rfl)) ?_
         refine zTt 24 Z Z Z c8 (zLi jd Z)<|zTt 25 Z Z Z c8 (zFF j6 Z j8 Z Z)<|zTt 26 Z Z Z c8 (zLf jg Z)<|zTt 27 Z Z Z c8 (zIM 0 j4 j5 Z Z Z (by rw [hcd]; rfl)) ?_
         refine zTt 28 Z Z Z c8 (zLi jd Z)<|zTt 29 Z Z Z c8 (Gv.eqlI Z Z)<|zTk 30 Z (zPt Z c8 Z)<|zTk 31 Z (zAb Z)<|zDn<|zi<|zj (x := .bool _) Z ?_
         rw [key, ht, qp h2, hab, hcd]; exact congrArg AV.bool (by rw [Bool.eq_iff_iff]; simp at c8 ⊢; exact fun _ => c8)
        ·refine zTf 21 Z Z Z c8<|zTf 22 Z Z Z c8<|zTf 23 Z Z Z c8<|zTf 24 Z Z Z c8<|zTf 25 Z Z Z c8<|zTf 26 Z Z Z c8<|zTf 27 Z Z Z c8<|zTf 28 Z Z Z c8<|zTf 29 Z Z Z c8<|zTk 30 Z (zPf Z c8 Z)<|zTk 31 Z (zAb Z)<|zDn<|zi<|zj (x := .bool _) Z ?_
         rw [key, ht, qp h2, hab, hcd]; exact congrArg AV.bool (by rw [Bool.eq_iff_iff]; simp at c8 ⊢; exact fun h => absurd h c8)
       ·have h2 : ¬ x.args.length = 2 := by simp at c7; omega
        refine zTf 10 Z Z Z c7<|zTf 11 Z Z Z c7<|zTf 12 Z Z Z c7<|zTf 13 Z Z Z c7<|zTf 14 Z Z Z c7<|zTf 15 Z Z Z c7<|zTf 16 Z Z Z c7<|zTf 17 Z Z Z c7<|zTf 18 Z Z Z c7<|zTk 19 Z (zPf Z c7 Z)<|zTk 20 Z (zMb Z)<|zTf 21 Z Z Z Z<|zTf 22 Z Z Z Z<|zTf 23 Z Z Z Z<|zTf 24 Z Z Z Z<|zTf 25 Z Z Z Z<|zTf 26 Z Z Z Z<|zTf 27 Z Z Z Z<|zTf 28 Z Z Z Z<|zTf 29 Z Z Z Z<|zTk 30 Z (zPf Z Z Z)<|zTk 31 Z (zAb Z)<|zDn<|zi<|zj (x := .bool _) Z ?_
        rw [key, qq h2, Bool.false_and, Bool.and_false]
      ·have ht : trnB x.op = false := c6
       refine zTf 4 Z Z Z c6<|zTf 5 Z Z Z c6<|zTf 6 Z Z Z c6<|zTf 7 Z Z Z c6<|zTk 8 Z (zPf Z c6 Z)<|zTk 9 Z (zMb Z)<|zTf 10 Z Z Z Z<|zTf 11 Z Z Z Z<|zTf 12 Z Z Z Z<|zTf 13 Z Z Z Z<|zTf 14 Z Z Z Z<|zTf 15 Z Z Z Z<|zTf 16 Z Z Z Z<|zTf 17 Z Z Z Z<|zTf 18 Z Z Z Z<|zTk 19 Z (zPf Z Z Z)<|zTk 20 Z (zMb Z)<|zTf 21 Z Z Z Z<|zTf 22 Z Z Z Z<|zTf 23 Z Z Z Z<|zTf 24 Z Z Z Z<|zTf 25 Z Z Z Z<|zTf 26 Z Z Z Z<|zTf 27 Z Z Z Z<|zTf 28 Z Z Z Z<|zTf 29 Z Z Z Z<|zTk 30 Z (zPf Z Z Z)<|zTk 31 Z (zAb Z)<|zDn<|zi<|zj (x := .bool _) Z ?_
       rw [key, ht, Bool.false_and]
set_option maxHeartbeats 16000000 in
theorem numberNone_law (f : PFunc) (hw : wFunc f) (hL : Letters E) : AFun prog E 5 [.agg (encF f)] (.bool true) := by
 have hlv := lives31_spec (E := E) hL
 refine zo func5 Z (by decide) Z<|zSr<|y9 (cs := _) Z Z Z<|zVzAb Z<|z6<|za<|zSr<|zk (hlv) Z<|zVGvnot Z<|zVzMb Z<|z7 Z Z Z<|zVGvloadWF ji je Z Z<|z7 Z Z Z<|zk (lawSingle_spec f hw hL) Z<|z7 Z Z Z<|zVGvnot Z<|zVzPf Z Z Z<|z6<|zr Z (fun cf=>?_) (fun cf=>?_)
 ·refine zSr<|zk (hlv) Z<|zVzAb Z<|z6<|zi<|zj (x := .bool _) Z ?_
  rfl
 ·have hls : lawSing f = true := by cases h : lawSing f; rw [h] at cf; simp at cf; rfl
  have hfew : fewB f = true ∧ (typedB f = true ∧ singB f = true) := by unfold lawSing at hls; simp only [qr] at hls; exact ⟨hls.1.1, hls.1.2, hls.2⟩
  obtain ⟨hfew, ht, hs⟩ := hfew
  have hlit := (fewB_iff f).1 hfew
  have hsm := hlit.small
  have hS := typedB_shaped ht
  have hE := typedB_ends ht
  have hSg := (singB_iff hE).1 hs
  obtain ⟨rk, hok, hN⟩ := num_all hsm hS hE hSg
  obtain ⟨r, hr⟩ := roots_ex hok
  have hnum := numF_spec (E := E) f hL ht hs (hN r hr) (phi_args hS)
  have hK := root_kind ht hr
  have hO := oneV_of hSg.2.2.1 (fun b hb x hx => (inst_dst hS hb hx).1) fun b hb p hp => by
   have := has_lt ((hS.2.2.2.2.2 b hb).1 p hp).1
   exact ⟨this.2, this.1⟩
  obtain ⟨g, hg⟩ : ∃ g, numF f r = g := ⟨_, rfl⟩
  have htg : typedB g = true := hg ▸ typed_num hK ht
  have hSgG : SingP g := hg ▸ sing_num hS hE hSg hO hok hr
  have hlg : little g := hg ▸ little_num r hlit
  have hpg : plainB f = true → plainB g = true := fun h => hg ▸ plain_num h
  have hng : ∀ y x, ¬ HitN g y x := hg ▸ no_hit hok hr
  rw [hg] at hnum
  have hsmg := hlg.small
  have hSG := typedB_shaped htg
  have hEG := typedB_ends htg
  have hsg : singB g = true := (singB_iff hEG).2 hSgG
  obtain ⟨rkg, hokg, hNg⟩ := num_all hsmg hSG hEG hSgG
  have hrg : Roots g _root_.id := half_end hokg (Half.first g) (by rw [num_id]; exact hng)
  have hnumg := numF_spec (E := E) g hL htg hsg (hNg _ hrg) (phi_args hSG)
  rw [num_id] at hnumg
  have hwg : wFunc g := ⟨by unfold wL; have := hsmg.1; omega, by unfold wL; have := hsmg.2.1; omega, by unfold wL; have := hsmg.2.2.1; omega, fun b hb => by
   obtain ⟨_, g1, g2, g3, g4⟩ := hsmg.2.2.2.2 b hb
   exact ⟨by unfold wL; omega, by unfold wL; omega, fun p hp => ⟨by unfold wL; have := g3 p hp; omega, by unfold wL; have := g3 p hp; omega⟩, fun x hx => by unfold wL; have := g4 x hx; omega⟩⟩
  have hfg : fewB g = true := (fewB_iff g).2 hlg
  have hl1 := lawSingle_spec (E := E) g hwg hL
  rw [show lawSing g = true by unfold lawSing; rw [hfg, htg, hsg]; rfl] at hl1
  have hl2 := lawTyped8_spec (E := E) g hsmg hL
  rw [htg] at hl2
  have hl3 := lawPlain_spec (E := E) f hw hL
  rw [show lawPlain f = plainB f by unfold lawPlain; rw [hfew, ht, hs]; rfl] at hl3
  have hl4 := lawPlain_spec (E := E) g hwg hL
  rw [show lawPlain g = plainB g by unfold lawPlain; rw [hfg, htg, hsg]; rfl] at hl4
  have hsame := refSame_spec (E := E) g g hsmg.ok
  rw [qp rfl] at hsame
  refine ze<|zSr<|zVGvloadWF ji je Z Z<|zk (hnum) Z<|z8 (zMu Z)<|z8 (q5 (v := .agg _) Z Z)<|z8 (zXi Z Z)<|zz (cs := [.raw (.slice none 0 0), .raw (.slice none 0 0), .raw (.slice none 0 0)]) Zt Z Z<|fun i3 => zu je Z Z Z Z Z Z .head Z<|zd (ye (t := 3) Z .head)<|zVzAi Z<|z6<|za<|za<|yo (γ := Bool) [3] (fun z => [(48, .bool z)]) (fun z => []) (fun z => z = false) ?_ (fun _ _ h => h) ?_
  ·refine zRg<|zVzMi Z<|zVGvneqI Z Z<|zVzMb Z<|z7 Z Z Z<|zVGvloadWF ji je Z Z<|z7 Z Z Z<|zk (hl2) Z<|z7 Z Z Z<|zVGvnot Z<|zVzPf Z Z Z<|zVzMb Z<|z7 Z Z Z<|zVGvloadWF ji je Z Z<|z7 Z Z Z<|zk (hl1) Z<|z7 Z Z Z<|zVGvnot Z<|zVzPf Z Z Z<|zVzMb Z<|z7 Z Z Z<|zVGvloadWF ji je Z Z<|z7 Z Z Z<|zk (hl3) Z<|z7 Z Z Z<|zVzMb Z<|zn (s := 43) Z (fun cp=>?_) (fun cp=>?_)
   ·refine z7 Z Z cp<|zVGvloadWF ji je Z Z<|z7 Z Z cp<|zk (hl4) Z<|z7 Z Z cp<|zVGvnot Z<|z7 Z Z Z<|zVzPt Z cp Z<|zVzPf Z Z Z<|z6 ?_
    exact ⟨_, zR1, zR1, zLe, by rw [hpg cp]; rfl⟩
   ·refine z2 Z Z cp<|z2 Z Z cp<|z2 Z Z cp<|z7 Z Z Z<|zVzPf Z cp Z<|zVzPf Z Z Z<|z6 ?_
    exact ⟨_, zR1, zR1, zLe, rfl⟩
  ·rintro z hz
   subst hz
   refine yg Z Z ?_
   have hd := fun b hb x hx => (inst_dst hSG (b := b) hb (x := x) hx).1
   refine ze<|za<|zSr<|zVzFF j9 Z jp Z Z<|zVzLf jt Z<|zVGvlenM jf Z<|zVzMi Z<|z6<|zg<|zx (γ := Nat) [3, 50, 51] (fun i => [(52, .int .i64 i)]) (fun i => []) (fun i => i ≤ g.blocks.length) (fun i => g.blocks.length - i) 0 zR1 zLe (qg _) ?_
   rintro i hi
   refine zSr<|zVGvlss Z Z<|z6<|za<|zq Z (fun ci=>?_) (fun ci=>?_)
   ·have hi2 : i < g.blocks.length := by omega
    obtain ⟨b, hb⟩ : ∃ b, g.blocks[i] = b := ⟨_, rfl⟩
    have hget : g.blocks[i]? = some b := by rw [qd hi2, hb]
    have hbm : b ∈ g.blocks := hb ▸ qh hi2
    obtain ⟨hb0, hb1, hb2, hb3, hb4⟩ := hsmg.2.2.2.2 b hbm
    have hgn := hsmg.2.2.1
    refine ze<|za<|zg<|zSr<|zVzMi Z<|z8 (zIM i jf jk Z Z Z hget)<|zVGvloadWF Zk jk Z Z<|zz (cs := [.str ⟨#[]⟩, .raw (.slice none 0 0), .raw (.slice none 0 0), .int .i64 0, .int .i64 0, .int .i64 0, .int .i64 0]) ju Z Z<|fun i6 => zVzAi Z<|zu jk Z Z Z Z Z Z .head Z<|zd (ye (t := 6) Z .head)<|z6<|zSr<|zVzFF j7 Z jv Z Z<|zVzLf Z5 Z<|zVGvlenM jh Z<|zVzMi Z<|z6<|zg<|zx (γ := Nat) [3, 5, 50, 51, 52, 58, 59] (fun k => [(60, .int .i64 k)]) (fun k => []) (fun k => k ≤ b.insts.length) (fun k => b.insts.length - k) 0 zR1 zLe (qg _) ?_
    rintro k hk
    refine zSr<|zVGvlss Z Z<|z6<|za<|zq Z (fun ck=>?_) (fun ck=>?_)
    ·have hk2 : k < b.insts.length := by omega
     obtain ⟨y, hy⟩ : ∃ y, b.insts[k] = y := ⟨_, rfl⟩
     have hyg : b.insts[k]? = some y := by rw [qd hk2, hy]
     have hal := hb4 y (hy ▸ qh hk2)
     refine ze<|za<|zg<|zSr<|zVzMi Z<|z8 (zIM k jh jm Z Z Z hyg)<|zVGvloadWF Zh jm Z Z<|zz (cs := [.int .i64 0, .int .i64 0, .raw (.slice none 0 0), .int .i64 0]) jz Z Z<|fun i8 => zVzAi Z<|zu jm Z Z Z Z Z Z .head Z<|zd (ye (t := 8) Z .head)<|z6<|zSr<|zVzFF j9 Z jp Z Z<|zVzLf jt Z<|zVGvlenM jf Z<|zVzMi Z<|z6<|zg<|zx (γ := Nat) [3, 5, 7, 8, 50, 51, 52, 58, 59, 60, 66, 67] (fun j => [(68, .int .i64 j)]) (fun j => []) (fun j => j ≤ g.blocks.length) (fun j => g.blocks.length - j) 0 zR1 zLe (qg _) ?_
     rintro j hj
     refine zSr<|zVGvlss Z Z<|z6<|za<|zq Z (fun cj=>?_) (fun cj=>?_)
     ·have hj2 : j < g.blocks.length := by omega
      obtain ⟨c, hc⟩ : ∃ c, g.blocks[j] = c := ⟨_, rfl⟩
      have hcg : g.blocks[j]? = some c := by rw [qd hj2, hc]
      have hcm : c ∈ g.blocks := hc ▸ qh hj2
      obtain ⟨hc0, hc1, hc2, hc3, hc4⟩ := hsmg.2.2.2.2 c hcm
      refine ze<|za<|zg<|zSr<|z8 (zIM j jf jk Z Z Z hcg)<|zVGvloadWF Zk jk Z Z<|zz (cs := [.str ⟨#[]⟩, .raw (.slice none 0 0), .raw (.slice none 0 0), .int .i64 0, .int .i64 0, .int .i64 0, .int .i64 0]) ju Z Z<|fun i10 => zu jk Z Z Z Z Z Z .head Z<|zd (ye (t := 10) Z .head)<|z6<|zSr<|zVzFF j7 Z jv Z Z<|zVzLf Z5 Z<|zVGvlenM jh Z<|zVzMi Z<|z6<|zg<|zx (γ := Nat) [3, 5, 7, 8, 50, 51, 52, 58, 59, 60, 66, 67, 68, 73, 74] (fun m => [(75, .int .i64 m)]) (fun m => []) (fun m => m ≤ c.insts.length) (fun m => c.insts.length - m) 0 zR1 zLe (qg _) ?_
      rintro m hm
      refine zSr<|zVGvlss Z Z<|z6<|za<|zq Z (fun cm=>?_) (fun cm=>?_)
      ·have hm2 : m < c.insts.length := by omega
       have hxm := qh hm2
       have hxl := hc4 _ hxm
       have hxd := hd c hcm _ hxm
       refine ze<|za<|zg<|zSr<|z8 (zIM m jh jm Z Z Z (qd hm2))<|zVGvloadWF Zh jm Z Z<|zz (cs := [.int .i64 0, .int .i64 0, .raw (.slice none 0 0), .int .i64 0]) jz Z Z<|fun i12 => zu jm Z Z Z Z Z Z .head Z<|zd (ye (t := 12) Z .head)<|z6<|zSr<|zVzFF j6 Z j5 Z Z<|zVzLi jd Z<|z8 (qb Z Z)<|zVzMb Z<|zn (s := 82) Z (fun c1=>?_) (fun c1=>?_)
       ·have h1 : 0 ≤ c.insts[m].dst := by simpa using c1
        refine z7 Z Z c1<|zVzFF j6 Z j5 Z Z<|z7 Z Z c1<|zVzLi jd Z<|z7 Z Z c1<|z8 (qb Z Z)<|zVzPt Z c1 Z<|zVzMb Z<|zn (s := 87) Z (fun c0=>?_) (fun c0=>?_)
        ·have h0 : 0 ≤ y.dst := by simpa using c0
         refine z7 Z Z c0<|zVzFF j6 Z j5 Z Z<|z7 Z Z c0<|zVzLi jd Z<|z7 Z Z c0<|zVzFF j6 Z j5 Z Z<|z7 Z Z c0<|zVzLi jd Z<|z7 Z Z c0<|zVGvneqI Z Z<|zVzPt Z c0 Z<|zVzMb Z<|zn (s := 94) Z (fun c2=>?_) (fun c2=>?_)
         ·have h2 : c.insts[m].dst ≠ y.dst := nT c2
          refine z7 Z Z c2<|zVGvloadWF Zh jm Z Z<|z7 Z Z c2<|zVGvloadWF Zh jm Z Z<|z7 Z Z c2<|zk (nSame_spec c.insts[m] y (by omega) (by omega)) Z<|zVzPt Z c2 Z<|zVzMb Z<|zn (s := 99) Z (fun c3=>?_) (fun c3=>?_)
          ·have h4 : aheadR g (makerT g c.insts[m].dst) i k = false := by
            cases h : aheadR g (makerT g c.insts[m].dst) i k with
            | false => rfl
            | true => exact absurd ⟨i, k, j, m, ⟨b, hget, hyg⟩, ⟨c, hcg, qd hm2⟩, h0, h1, h2, c3, (hit_ahead hEG hSgG.2.1 hget).1 h⟩ (hng y c.insts[m])
           refine z7 Z Z c3<|zVGvloadWF ji je Z Z<|z7 Z Z c3<|zVzFF j6 Z j5 Z Z<|z7 Z Z c3<|zVzLi jd Z<|z7 Z Z c3<|zVzMi Z<|z7 Z Z c3<|zVzMi Z<|z7 Z Z c3<|zk (refAheadV_spec g hEG hsmg (v := c.insts[m].dst) (by simp [hasV, h1, hxd]) i k (by omega) (by omega)) Z<|zVzPt Z c3 Z<|z6<|yg Z h4<|ze<|zRg<|zVzAd Z Z<|zVzMi Z<|z6 ?_
           exact ⟨m + 1, ⟨rfl, rfl, rfl, rfl, rfl, rfl, rfl, rfl, rfl, rfl, rfl, rfl, rfl, rfl, rfl, trivial⟩, zR1, zLe, hm2, by omega⟩
          ·refine z2 Z Z c3<|z2 Z Z c3<|z2 Z Z c3<|z2 Z Z c3<|z2 Z Z c3<|z2 Z Z c3<|zVzPf Z c3 Z<|z6<|yg Z Z<|ze<|zRg<|zVzAd Z Z<|zVzMi Z<|z6 ?_
           exact ⟨m + 1, ⟨rfl, rfl, rfl, rfl, rfl, rfl, rfl, rfl, rfl, rfl, rfl, rfl, rfl, rfl, rfl, trivial⟩, zR1, zLe, hm2, by omega⟩
         ·refine z2 Z Z c2<|z2 Z Z c2<|z2 Z Z c2<|zVzPf Z c2 Z<|zVzMb Z<|z2 Z Z Z<|z2 Z Z Z<|z2 Z Z Z<|z2 Z Z Z<|z2 Z Z Z<|z2 Z Z Z<|zVzPf Z Z Z<|z6<|yg Z Z<|ze<|zRg<|zVzAd Z Z<|zVzMi Z<|z6 ?_
          exact ⟨m + 1, ⟨rfl, rfl, rfl, rfl, rfl, rfl, rfl, rfl, rfl, rfl, rfl, rfl, rfl, rfl, rfl, trivial⟩, zR1, zLe, hm2, by omega⟩
        ·refine z2 Z Z c0<|z2 Z Z c0<|z2 Z Z c0<|z2 Z Z c0<|z2 Z Z c0<|zVzPf Z c0 Z<|zVzMb Z<|z2 Z Z Z<|z2 Z Z Z<|z2 Z Z Z<|zVzPf Z Z Z<|zVzMb Z<|z2 Z Z Z<|z2 Z Z Z<|z2 Z Z Z<|z2 Z Z Z<|z2 Z Z Z<|z2 Z Z Z<|zVzPf Z Z Z<|z6<|yg Z Z<|ze<|zRg<|zVzAd Z Z<|zVzMi Z<|z6 ?_
         exact ⟨m + 1, ⟨rfl, rfl, rfl, rfl, rfl, rfl, rfl, rfl, rfl, rfl, rfl, rfl, rfl, rfl, rfl, trivial⟩, zR1, zLe, hm2, by omega⟩
       ·refine z2 Z Z c1<|z2 Z Z c1<|z2 Z Z c1<|zVzPf Z c1 Z<|zVzMb Z<|z2 Z Z Z<|z2 Z Z Z<|z2 Z Z Z<|z2 Z Z Z<|z2 Z Z Z<|zVzPf Z Z Z<|zVzMb Z<|z2 Z Z Z<|z2 Z Z Z<|z2 Z Z Z<|zVzPf Z Z Z<|zVzMb Z<|z2 Z Z Z<|z2 Z Z Z<|z2 Z Z Z<|z2 Z Z Z<|z2 Z Z Z<|z2 Z Z Z<|zVzPf Z Z Z<|z6<|yg Z Z<|ze<|zRg<|zVzAd Z Z<|zVzMi Z<|z6 ?_
        exact ⟨m + 1, ⟨rfl, rfl, rfl, rfl, rfl, rfl, rfl, rfl, rfl, rfl, rfl, rfl, rfl, rfl, rfl, trivial⟩, zR1, zLe, hm2, by omega⟩
      ·refine zw<|zRg<|zVzAd Z Z<|zVzMi Z<|z6 ?_
       exact ⟨j + 1, zR12, zR1, zLe, hj2, by omega⟩
     ·refine zw<|zRg<|zVzAd Z Z<|zVzMi Z<|z6 ?_
      exact ⟨k + 1, zR7, zR1, zLe, hk2, by omega⟩
    ·refine zw<|zRg<|zVzAd Z Z<|zVzMi Z<|z6 ?_
     exact ⟨i + 1, zR3, zR1, zLe, hi2, by omega⟩
   ·refine zw<|zSr<|zVGvloadWF ji je Z Z<|zk (hnumg) Z<|z8 (zMu Z)<|z8 (q5 (v := .agg _) Z Z)<|z8 (zXi Z Z)<|zz (cs := [.raw (.slice none 0 0), .raw (.slice none 0 0), .raw (.slice none 0 0)]) Zt Z Z<|fun i13 => zu je Z Z Z Z Z Z .head Z<|zd (ye (t := 13) Z .head)<|zVzAi Z<|z6<|zSr<|zVzMi Z<|zVGveqlI Z Z<|zVzMb Z<|z7 Z Z Z<|zVGvloadWF ji je Z Z<|z7 Z Z Z<|zVGvloadWF ji je Z Z<|z7 Z Z Z<|zk (hsame) Z<|zVzPt Z Z Z<|zVzAb Z<|z6<|zi<|zj (x := .bool _) Z ?_
    rfl
end Go.Proofs.YtiojekbkamegdaaGreatDoor
namespace Go.Proofs.YtiojekbkamegdaaGreatDoor
open Go.Proofs.Tryz
open Go.Proofs Go.Lib Go.Shelf Go.RowKit Go.WideShapes
set_option maxRecDepth 20000
variable {W : World}
theorem decI : Dec prog W 3 encI (fun x => (Lit.int .i64 x).wf = true) := Dec.int Zo
theorem decIs : Dec prog W 23 (fun l : List Int => [.fro 1 (l.map encI)]) wL := fun en held fuel cs x h => by
 obtain ⟨l, hl, r⟩ := Dec.slice (k := 1) j4 decI (by kernel_rfl) (by decide) en held fuel cs x h
 exact ⟨l, hl.2, r⟩
theorem decVar : Dec prog W 79 encVar (fun _ => True) := fun en held fuel cs x h => by
 obtain ⟨xs, n, _, _, hl, hxl, hf⟩ := DataW.trod_struct Z9 h
 have hl : cs.length = 2 := hl.trans (by kernel_rfl)
 have hxl : xs.length = 2 := hxl
 obtain ⟨a, _, ra⟩ := Dec.at (o := 0) (k := 1) (hf 0 _ rfl) (Dec.str Z2) (by omega) rfl (by kernel_rfl)
 obtain ⟨b, _, rb⟩ := Dec.at (o := 1) (k := 1) (hf 1 _ rfl) (Dec.int underlying77) (by omega) rfl (by kernel_rfl)
 exact ⟨⟨a, b⟩, trivial, q3 (o := 0) ra (q3 rb (RepL.fin hl))⟩
theorem decPhi : Dec prog W 81 encPhi wPhi := fun en held fuel cs x h => by
 obtain ⟨xs, n, _, _, hl, hxl, hf⟩ := DataW.trod_struct jj h
 have hl : cs.length = 3 := hl.trans (by kernel_rfl)
 have hxl : xs.length = 3 := hxl
 obtain ⟨a, _, ra⟩ := Dec.at (o := 0) (k := 1) (hf 0 _ rfl) decI (by omega) rfl (by kernel_rfl)
 obtain ⟨b, hb, rb⟩ := Dec.at (o := 1) (k := 1) (hf 1 _ rfl) decIs (by omega) rfl (by kernel_rfl)
 obtain ⟨c, hc, rc⟩ := Dec.at (o := 2) (k := 1) (hf 2 _ rfl) decIs (by omega) rfl (by kernel_rfl)
 exact ⟨⟨a, b, c⟩, ⟨hb, hc⟩, q3 (o := 0) ra (q3 rb (q3 rc (RepL.fin hl)))⟩
def wInst (x : PInst) : Prop := wL x.args ∧ (Lit.int .i64 x.num).wf = true
theorem decInst : Dec prog W 61 encInst wInst := fun en held fuel cs x h => by
 obtain ⟨xs, n, _, _, hl, hxl, hf⟩ := DataW.trod_struct j6 h
 have hl : cs.length = 4 := hl.trans (by kernel_rfl)
 have hxl : xs.length = 4 := hxl
 obtain ⟨a, _, ra⟩ := Dec.at (o := 0) (k := 1) (hf 0 _ rfl) (Dec.int underlying59) (by omega) rfl (by kernel_rfl)
 obtain ⟨b, _, rb⟩ := Dec.at (o := 1) (k := 1) (hf 1 _ rfl) decI (by omega) rfl (by kernel_rfl)
 obtain ⟨c, hc, rc⟩ := Dec.at (o := 2) (k := 1) (hf 2 _ rfl) decIs (by omega) rfl (by kernel_rfl)
 obtain ⟨d, hd, rd⟩ := Dec.at (o := 3) (k := 1) (hf 3 _ rfl) (Dec.int underlying2) (by omega) rfl (by kernel_rfl)
 exact ⟨⟨a, b, c, d⟩, ⟨hc, hd⟩, q3 (o := 0) ra (q3 rb (q3 rc (q3 rd (RepL.fin hl))))⟩
theorem decTerm : Dec prog W 56 encTerm (fun _ => True) := fun en held fuel cs x h => by
 obtain ⟨xs, n, _, _, hl, hxl, hf⟩ := DataW.trod_struct jc h
 have hl : cs.length = 4 := hl.trans (by kernel_rfl)
 have hxl : xs.length = 3 := hxl
 obtain ⟨a, _, ra⟩ := Dec.at (o := 0) (k := 1) (hf 0 _ rfl) (Dec.int underlying53) (by omega) rfl (by kernel_rfl)
 obtain ⟨b, _, rb⟩ := Dec.at (o := 1) (k := 1) (hf 1 _ rfl) decI (by omega) rfl (by kernel_rfl)
 obtain ⟨c, _, rc⟩ := Dec.at (o := 2) (k := 2) (hf 2 _ rfl) (Dec.pair (k := 1) jn decI (by kernel_rfl) (by kernel_rfl)) (by omega) rfl (by kernel_rfl)
 exact ⟨⟨a, b, c.1, c.2⟩, trivial, q3 (o := 0) ra (q3 rb (q3 rc (RepL.fin hl)))⟩
def NumsI (f : PFunc) : Prop := ∀ b ∈ f.blocks, ∀ x ∈ b.insts, is64 x.num
def wBlkN (b : PBlock) : Prop := wBlk b ∧ ∀ x ∈ b.insts, -9223372036854775808 ≤ x.num ∧ x.num ≤ 9223372036854775807
theorem decBlkN : Dec prog W 58 encBlk wBlkN := fun en held fuel cs x h => by
 obtain ⟨xs, n, _, _, hl, hxl, hf⟩ := DataW.trod_struct j7 h
 have hl : cs.length = 7 := hl.trans (by kernel_rfl)
 have hxl : xs.length = 4 := hxl
 obtain ⟨a, _, ra⟩ := Dec.at (o := 0) (k := 1) (hf 0 _ rfl) (Dec.str Z2) (by omega) rfl (by kernel_rfl)
 obtain ⟨b, hb, rb⟩ := Dec.at (o := 1) (k := 1) (hf 1 _ rfl) (Dec.slice (k := 3) jl decPhi (by kernel_rfl) (by decide)) (by omega) rfl (by kernel_rfl)
 obtain ⟨c, hc, rc⟩ := Dec.at (o := 2) (k := 1) (hf 2 _ rfl) (Dec.slice (k := 4) jh decInst (by kernel_rfl) (by decide)) (by omega) rfl (by kernel_rfl)
 obtain ⟨d, _, rd⟩ := Dec.at (o := 3) (k := 4) (hf 3 _ rfl) decTerm (by omega) rfl (by kernel_rfl)
 exact ⟨⟨a, b, c, d⟩, ⟨⟨hb.2, hc.2, hb.1, fun x hx => (hc.1 x hx).1⟩, fun x hx => by simpa [Lit.wf, IntKind.min, IntKind.max, IntKind.signed, IntKind.bits] using (hc.1 x hx).2⟩, q3 (o := 0) ra (q3 rb (q3 rc (q3 rd (RepL.fin hl))))⟩
theorem decFN : Dec prog W 26 encF (fun f => wFunc f ∧ NumsI f) := fun en held fuel cs x h => by
 obtain ⟨xs, n, _, _, hl, hxl, hf⟩ := DataW.trod_struct j9 h
 have hl : cs.length = 3 := hl.trans (by kernel_rfl)
 have hxl : xs.length = 3 := hxl
 obtain ⟨a, ha, ra⟩ := Dec.at (o := 0) (k := 1) (hf 0 _ rfl) (Dec.slice (k := 2) js decVar (by kernel_rfl) (by decide)) (by omega) rfl (by kernel_rfl)
 obtain ⟨b, hb, rb⟩ := Dec.at (o := 1) (k := 1) (hf 1 _ rfl) decIs (by omega) rfl (by kernel_rfl)
 obtain ⟨c, hc, rc⟩ := Dec.at (o := 2) (k := 1) (hf 2 _ rfl) (Dec.slice (k := 7) jf decBlkN (by kernel_rfl) (by decide)) (by omega) rfl (by kernel_rfl)
 exact ⟨⟨a, b, c⟩, ⟨⟨ha.2, hb, hc.2, fun x hx => (hc.1 x hx).1⟩, fun x hx => (hc.1 x hx).2⟩, q3 (o := 0) ra (q3 rb (q3 rc (RepL.fin hl)))⟩
theorem of_struct {H : Type} {enc : TypeId × Value → H} {held : Bool} {α : Type} {T : TypeId} {e : α → List AV} {ok : α → Prop} {fs : Array Field} {base : Nat} {v : Value} {d : DataW H} {p : List MemPlace} (hd : Dec prog W T e ok) (ht : prog.underlying T = some (.struct fs))
  (hv : Value.okWide prog W .any base T v) (h : DataW.Trod enc prog W 0 (fun _ => true) held T v d p) : ∃ a, ok a ∧ RepV (I0 W) (.agg (e a)) v := by
 obtain ⟨cs, rfl, _⟩ := okWide_struct ht hv
 obtain ⟨fuel, h⟩ := h
 obtain ⟨a, h1, h2⟩ := hd enc held fuel _ _ h
 exact ⟨a, h1, cs.toList, by simp, h2⟩
theorem xTab : RExtra prog Tryz.lays200_ren := ⟨by kernel_rfl, by kernel_rfl, by kernel_rfl, by kernel_rfl, by kernel_rfl, by kernel_rfl, by kernel_rfl, by kernel_rfl⟩
theorem letters_of (h : Lib.VarReads prog W "unicode.properties" (Lib.tabData .u8 Lib.propertiesTab)) (h2 : Lib.VarReads prog W "unicode.Letter" (Lib.rtabData letterT)) : Letters W :=
 ⟨tabIs_of_reads (g := 0) (by kernel_rfl) (by kernel_rfl) underlying300 underlying5 (by kernel_rfl) (by kernel_rfl) h,
  rvar_of_reads { Tryz.lays200 with } xTab (name := "unicode.Letter") (g := 1) (by kernel_rfl) (by kernel_rfl) h2⟩
end Go.Proofs.YtiojekbkamegdaaGreatDoor
namespace Go.Proofs.YtiojekbkamegdaaGreatDoor
open Go.Proofs.Tryz
open Go.Proofs
theorem fMay : prog.mayEnter = true := by kernel_rfl
theorem fLift : (Rows.numberNoneRow.lifted == prog.liftsFinal) = true := by kernel_rfl
theorem fMake : (prog.make == some Rows.numberNoneRow.make) = true := by kernel_rfl
theorem fLaid : laidOutB prog = true := by kernel_rfl
theorem fRow : mapsRowed prog = true := by kernel_rfl
theorem fStop : (prog.stops == []) = true := by kernel_rfl
theorem fKnob : (prog.stopKnobs == []) = true := by kernel_rfl
theorem fKeys : (Rows.numberNoneRow.plainKeys == prog.plainKeys) = true := by kernel_rfl
theorem fHeard : prog.stopsHeard = true := by kernel_rfl
theorem gIn : (Rows.numberNoneRow.inPlace == prog.inPlace 5) = true := by kernel_rfl
theorem gUn : (Rows.numberNoneRow.unfollowed == prog.unfollowed 5) = true := by kernel_rfl
theorem gRec : (Rows.numberNoneRow.recurses == prog.recurses 5) = true := by kernel_rfl
theorem gNam : (Rows.numberNoneRow.named == prog.varsNamed 5) = true := by kernel_rfl
theorem closed : joinedFacts prog 5 Tryz.f5 Rows.numberNoneSpec Rows.numberNoneRow = true := by
 unfold joinedFacts
 rw [fLaid, fRow, fStop, fKnob, gIn, gUn, gRec, gNam, fKeys, fHeard, fMay, fLift, fMake]
 kernel_rfl
end Go.Proofs.YtiojekbkamegdaaGreatDoor
