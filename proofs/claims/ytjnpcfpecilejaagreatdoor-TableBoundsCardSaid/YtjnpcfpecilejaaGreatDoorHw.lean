/- Lists of bounds, out of what a call is handed. No conditions. -/
import Derived.Test.YtjnpcfpecilejaaGreatDoorHo
import Derived.Test.YtjnpcfpecilejaaGreatDoorHv
import Derived.Test.YtjnpcfpecilejaaGreatDoorHh
import Derived.Test.YtjnpcfpecilejaaGreatDoorHd
import Derived.Test.YtjnpcfpecilejaaGreatDoorHf
import Derived.Lib.LaidRTab
import Derived.Test.YtjnpcfpecilejaaGreatDoorRows
import Derived.Test.YtjnpcfpecilejaaGreatDoorChecked
import Derived.ProofKit
import Derived.JoinedOf
import Derived.Test.YtjnpcfpecilejaaGreatDoorHe
set_option linter.unusedVariables false
set_option linter.unusedSimpArgs false
set_option linter.unusedSectionVars false
namespace Go.Proofs.YtjnpcfpecilejaaGreatDoor
open Go.Proofs.Tryz
open Go.Proofs Go.Lib Go.Shelf Go.RowKit
variable {E : World}
set_option maxRecDepth 20000
def lives27K : PFunc := ⟨[⟨⟨#[110]⟩, 0⟩], [], [⟨⟨#[97]⟩, [], [⟨0, 0, [], 5⟩], ⟨2, 0, 0, 0⟩⟩]⟩
def NoChk (f : PFunc) : Prop := ∀ b ∈ f.blocks, ∀ x ∈ b.insts, ¬ isChk x.op
theorem checksN_spec (f : PFunc) (hf : small f) (hno : NoChk f) : ACall prog E 111 [.agg (encF f)] [] fun x O => ∃ g : Nat, x = mref g ∧ O = [(0, mfroO eP g [])] ∧ True := by
 have hn := hf.2.2.1
 refine ACall.exact (γ := Nat) (x := fun g => mref g) (M := fun g => [(0, mfroO eP g [])]) (p := fun _ => True)<|zo func111 rfl (by decide) rfl<|zSr<|y7 (cs := _) rfl rfl rfl<|z2 (zAr rfl)<|z6<|zSr<|AOps.makeMapN eP 109<|fun b8 => z2 (ye (v := mref _) rfl)<|z6<|za<|zSr<|z2 (zFF underlying26 rfl sizeOf24 rfl rfl)<|z2 (zLf isAgg24 rfl)<|z2 (zz underlying24 rfl)<|z2 (zMi rfl)<|z6<|zh<|y6 (γ := Nat) [3, 10, 11] (fun i => [(12, .int .i64 i)]) (fun i => [(0, mnestO eP 109 b8 [])]) (fun i => i ≤ f.blocks.length) (fun i => f.blocks.length - i) 0 zR1 zLe (qm _) ?_
 rintro i hi
 refine zSr<|z2 (y8 rfl rfl)<|z6<|za<|zp rfl (fun ci=>?_) (fun ci=>?_)
 ·have hi2 : i < f.blocks.length := by simp at ci; omega
  obtain ⟨b, hbi⟩ : ∃ b, f.blocks[i] = b := ⟨_, rfl⟩
  have hget : f.blocks[i]? = some b := by rw [qj hi2, hbi]
  have hmem : b ∈ f.blocks := hbi ▸ qn hi2
  obtain ⟨hb0, hb1, hb2, hb3, hb4⟩ := hf.2.2.2.2 b hmem
  refine zc<|za<|zh<|zSr<|z2 (zMi rfl)<|z2 (zIM i underlying24 sizeOf66 rfl rfl rfl hget)<|z2 (zk isAgg66 sizeOf66 rfl rfl)<|zq (cs := [.str ⟨#[]⟩, .raw (.slice none 0 0), .raw (.slice none 0 0), .int .i64 0, .int .i64 0, .int .i64 0, .int .i64 0]) zeroValue66 rfl rfl<|fun i5 => z2 (zAi rfl)<|zm sizeOf66 rfl rfl rfl rfl rfl rfl .head rfl<|zd (y9 (t := 5) rfl .head)<|z6<|zSr<|z2 (zFF underlying66 rfl sizeOf60 rfl rfl)<|z2 (zLf isAgg60 rfl)<|z2 (zz underlying60 rfl)<|z2 (zMi rfl)<|z6<|zh<|y6 (γ := Nat) [3, 4, 10, 11, 12, 18, 19] (fun j => [(20, .int .i64 j)]) (fun j => [(0, mnestO eP 109 b8 [])]) (fun j => j ≤ b.insts.length) (fun j => b.insts.length - j) 0 zR1 zLe (qm _) ?_
  rintro j hj
  refine zSr<|z2 (y8 rfl rfl)<|z6<|za<|zp rfl (fun cj=>?_) (fun cj=>?_)
  ·have hj2 : j < b.insts.length := by simp at cj; omega
   obtain ⟨z, hz⟩ : ∃ z, b.insts[j] = z := ⟨_, rfl⟩
   have hzc := hno b hmem z (hz ▸ qn hj2)
   refine zc<|za<|zh<|zSr<|z2 (zMi rfl)<|z2 (zIM j underlying60 sizeOf33 rfl rfl rfl (by rw [qj hj2, hz]))<|z2 (zk isAgg33 sizeOf33 rfl rfl)<|zq (cs := [.int .i64 0, .int .i64 0, .raw (.slice none 0 0), .int .i64 0]) zeroValue33 rfl rfl<|fun i7 => z2 (zAi rfl)<|zm sizeOf33 rfl rfl rfl rfl rfl rfl .head rfl<|zd (y9 (t := 7) rfl .head)<|z6<|za<|yc (γ := Bool) [3, 4, 6, 7, 10, 11, 12, 18, 19, 20] (fun u => [(32, .bool u)]) (fun u => [(0, mnestO eP 109 b8 [])]) (fun u => u = false) ?_ (fun _ _ h => h) ?_
   ·refine zRg<|z2 (zFF underlying33 rfl sizeOf31 rfl rfl)<|z2 (zLi isAgg31 rfl)<|z2 (q9 rfl rfl)<|z2 (zMb rfl)<|zl (s := 28) rfl (fun c1=>?_) (fun c1=>?_)
    ·refine z8 rfl rfl c1<|z2 (zFF underlying33 rfl sizeOf31 rfl rfl)<|z8 rfl rfl c1<|z2 (zLi isAgg31 rfl)<|z8 rfl rfl c1<|z2 (Gv.leq rfl rfl)<|z2 (zPt rfl c1 rfl)<|z6 ?_
     exact ⟨_, zR10, zR1, zLe, qv (fun h => hzc (by unfold isChk; have := qz c1; omega))⟩
    ·refine z7 rfl rfl c1<|z7 rfl rfl c1<|z7 rfl rfl c1<|z2 (zPf rfl c1 rfl)<|z6 ?_
     exact ⟨_, zR10, zR1, zLe, rfl⟩
   ·rintro u hu
    refine yh rfl hu<|zc<|zRg<|z2 (zAd rfl rfl)<|z2 (zMi rfl)<|z6 ?_
    exact ⟨j + 1, zR7, zR1, zLe, hj2, by omega⟩
  ·refine y4<|zRg<|z2 (zAd rfl rfl)<|z2 (zMi rfl)<|z6 ?_
   exact ⟨i + 1, zR3, zR1, zLe, hi2, by omega⟩
 ·refine y4<|yf (GStep.mapKnow .head)<|zSr<|z2 (yj (v := mref _) rfl)<|z2 (ye (v := mref _) rfl)<|z6<|zf<|zj (x := mref _) rfl ?_
  exact ⟨b8, rfl, ⟨_, .refl _, rfl⟩, trivial⟩
set_option maxHeartbeats 4000000 in
theorem lookN_ok (f : PFunc) (hf : small f) (hL : Letters E) (h : (typedB f && singB f) = true) (hno : NoChk f) : ACall prog E 67 [.agg (encF f)] [] fun x O => ∃ iv : Nat, x = .tup [.po iv 0, .int .i64 0] ∧ O = [(iv, .cells 125 (viewL f (List.replicate f.vars.length false) (.raw (.slice none 0 0))))] := by
 have hn := hf.2.2.1
 have hvn := hf.1
 have hR := SingRight_spec (E := E) f hf hL
 rw [h] at hR
 have ht := (and3 h).1
 refine ACall.exact (γ := Nat) (x := fun iv => .tup [.po iv 0, .int .i64 0]) (M := fun iv => [(iv, .cells 125 (viewL f (List.replicate f.vars.length false) (.raw (.slice none 0 0))))]) (p := fun _ => True) ?_ |>.mono fun x O ⟨iv, h1, h2, _⟩ => ⟨iv, h1, h2⟩
 refine zo func67 rfl (by decide) rfl<|zSr<|y7 (cs := _) rfl rfl rfl<|z2 (zAr rfl)<|z2 (zAi rfl)<|z6<|za<|zSr<|z2 (zk isAgg26 sizeOf26 rfl rfl)<|ze (hR) rfl<|z2 (zAi rfl)<|z6<|zSr<|z2 (zMi rfl)<|z2 (yi rfl rfl)<|z6<|yh rfl rfl<|zc<|zSr<|z2 (zk isAgg26 sizeOf26 rfl rfl)<|ze (New_spec f hf hL ht) rfl<|z2 (zMu rfl)<|z2 (yy (v := .pf _) rfl rfl)<|z2 (zXi rfl rfl)<|z2 (ye (v := .pf _) rfl)<|z2 (zAi rfl)<|z6<|za<|zSr<|z2 (zMi rfl)<|z2 (yi rfl rfl)<|z6<|yh rfl rfl<|zc<|za<|yc (γ := Nat × Nat) [1, 5] (fun z => [(7, .po z.1 0)]) (fun z => [(z.1, .cells 125 (encF f ++ [.fro 2 ((makersT f).map eP.row), .own z.2 f.vars.length, .raw (.slice none 0 0)])), (z.2, .grow 1 4 (cB (List.replicate f.vars.length false)))]) (fun z => True) ?_ (fun _ _ h => h) ?_
 ·refine y1 (fun j => false) (by kernel_rfl) rfl (zn (.rest _))<|zTk 0 rfl (zk isAgg26 sizeOf26 rfl rfl)<|zTk 1 rfl (zk isAgg26 sizeOf26 rfl rfl)<|zTk 3 rfl (zFF underlying26 rfl sizeOf22 rfl rfl)<|zTk 4 rfl (zLf isAgg22 rfl)<|zTk 5 rfl (zz underlying22 rfl)<|yk (i := 2) (j := 6) rfl rfl (by kernel_rfl) ?_ ?_
  ·refine ze (Makers_spec f hf hL ht) rfl<|z6<|zOn 6 rfl<|AOps.makeB (m := f.vars.length) underlying111 type4 rfl rfl rfl rfl rfl (by simp) (by simp) (by show (1 : Int) * _ ≤ _; omega) (by omega)<|fun i35 => z6<|zTk 7 rfl (y5 (cps := [(0, [_, _, _]), (1, [_]), (2, [_])]) (rs := [_, _, _, _, _, .raw (.slice none 0 0)]) pl125 rfl rfl rfl)<|zOn 8 rfl<|yn (cs := _) rfl rfl rfl rfl<|fun i37 => z6<|zTk 9 rfl (zAp rfl)<|zDn ?_
   exact ⟨(i37, i35), zR2, zR1, zLe, trivial⟩
  ·refine AOps.makeB (m := f.vars.length) underlying111 type4 rfl rfl rfl rfl rfl (by simp) (by simp) (by show (1 : Int) * _ ≤ _; omega) (by omega)<|fun i35 => z6<|zOn 2 rfl<|ze (Makers_spec f hf hL ht) rfl<|z6<|zTk 7 rfl (y5 (cps := [(0, [_, _, _]), (1, [_]), (2, [_])]) (rs := [_, _, _, _, _, .raw (.slice none 0 0)]) pl125 rfl rfl rfl)<|zOn 8 rfl<|yn (cs := _) rfl rfl rfl rfl<|fun i37 => z6<|zTk 9 rfl (zAp rfl)<|zDn ?_
   exact ⟨(i37, i35), zR2, zR1, zLe, trivial⟩
 ·rintro ⟨iv, ck⟩ _
  refine zSr<|z2 (zk isAgg26 sizeOf26 rfl rfl)<|zt rfl (zn (.r (.r (.rest _)))) (checksN_spec f hf hno) ?_
  rintro r39 O39 ⟨mb, rfl, rfl, _⟩
  refine z2 (ye (v := mref _) rfl)<|z6<|za<|zSr<|z2 (zFF underlying26 rfl sizeOf24 rfl rfl)<|z2 (zLf isAgg24 rfl)<|z2 (zz underlying24 rfl)<|z2 (zMi rfl)<|z6<|yf (zg (zi .t2))<|yf (zg (zi .t2))<|zh<|y6 (γ := Nat) [1, 5, 7, 8, 41, 42] (fun i => [(43, .int .i64 i)]) (fun i => [(iv, .cells 125 (encF f ++ [.fro 2 ((makersT f).map eP.row), .own ck f.vars.length, .raw (.slice none 0 0)])), (ck, .grow 1 4 (cB (List.replicate f.vars.length false))), (0, mfroO eP mb [])]) (fun i => i ≤ f.blocks.length) (fun i => f.blocks.length - i) 0 zR1 zLe (qm _) ?_
  rintro i hi
  refine zSr<|z2 (y8 rfl rfl)<|z6<|za<|zp rfl (fun ci=>?_) (fun ci=>?_)
  ·have hi2 : i < f.blocks.length := by simp at ci; omega
   obtain ⟨b, hbi⟩ : ∃ b, f.blocks[i] = b := ⟨_, rfl⟩
   have hget : f.blocks[i]? = some b := by rw [qj hi2, hbi]
   have hmem : b ∈ f.blocks := hbi ▸ qn hi2
   obtain ⟨hb0, hb1, hb2, hb3, hb4⟩ := hf.2.2.2.2 b hmem
   refine zc<|za<|zh<|zSr<|z2 (zMi rfl)<|z2 (zIM i underlying24 sizeOf66 rfl rfl rfl hget)<|z2 (zk isAgg66 sizeOf66 rfl rfl)<|zq (cs := [.str ⟨#[]⟩, .raw (.slice none 0 0), .raw (.slice none 0 0), .int .i64 0, .int .i64 0, .int .i64 0, .int .i64 0]) zeroValue66 rfl rfl<|fun i10 => z2 (zAi rfl)<|zm sizeOf66 rfl rfl rfl rfl rfl rfl .head rfl<|zd (y9 (t := 10) rfl .head)<|z6<|zSr<|z2 (zFF underlying66 rfl sizeOf60 rfl rfl)<|z2 (zLf isAgg60 rfl)<|z2 (zz underlying60 rfl)<|z2 (zMi rfl)<|z6<|zh<|y6 (γ := Nat) [1, 5, 7, 8, 9, 41, 42, 43, 49, 50] (fun j => [(51, .int .i64 j)]) (fun j => [(iv, .cells 125 (encF f ++ [.fro 2 ((makersT f).map eP.row), .own ck f.vars.length, .raw (.slice none 0 0)])), (ck, .grow 1 4 (cB (List.replicate f.vars.length false))), (0, mfroO eP mb [])]) (fun j => j ≤ b.insts.length) (fun j => b.insts.length - j) 0 zR1 zLe (qm _) ?_
   rintro j hj
   refine zSr<|z2 (y8 rfl rfl)<|z6<|za<|zp rfl (fun cj=>?_) (fun cj=>?_)
   ·have hj2 : j < b.insts.length := by simp at cj; omega
    obtain ⟨z, hz⟩ : ∃ z, b.insts[j] = z := ⟨_, rfl⟩
    refine zc<|za<|zh<|zSr<|z2 (zMi rfl)<|z2 (zIM j underlying60 sizeOf33 rfl rfl rfl (by rw [qj hj2, hz]))<|z2 (zk isAgg33 sizeOf33 rfl rfl)<|zq (cs := [.int .i64 0, .int .i64 0, .raw (.slice none 0 0), .int .i64 0]) zeroValue33 rfl rfl<|fun i12 => z2 (zAi rfl)<|zm sizeOf33 rfl rfl rfl rfl rfl rfl .head rfl<|zd (y9 (t := 12) rfl .head)<|z6<|zSr<|z2 (yj (v := mref _) rfl)<|z2 (zFF underlying33 rfl sizeOf31 rfl rfl)<|z2 (zLi isAgg31 rfl)<|ze (matching_spec z.op) rfl<|z2 (Gv.lookupF underlying178 underlying31 zeroValue102 rfl rfl ⟨_, .t2⟩)<|z2 (zz underlying102 rfl)<|z2 (zMi rfl)<|z6<|zh<|y6 (γ := Nat) [1, 5, 7, 8, 9, 11, 12, 41, 42, 43, 49, 50, 51, 60, 61] (fun q => [(62, .int .i64 q)]) (fun q => [(iv, .cells 125 (encF f ++ [.fro 2 ((makersT f).map eP.row), .own ck f.vars.length, .raw (.slice none 0 0)])), (ck, .grow 1 4 (cB (List.replicate f.vars.length false))), (0, mfroO eP mb [])]) (fun q => True) (fun q => 0) 0 zR1 zLe (trivial) ?_
    rintro q _
    refine zSr<|z2 (y8 rfl rfl)<|z6<|za<|zp rfl (fun cq=>?_) (fun cq=>?_)
    ·exfalso; simp [mg] at cq; omega
    ·refine y4<|zRg<|z2 (zAd rfl rfl)<|z2 (zMi rfl)<|z6 ?_
     exact ⟨j + 1, zR10, zR1, zLe, hj2, by omega⟩
   ·refine y4<|zRg<|z2 (zAd rfl rfl)<|z2 (zMi rfl)<|z6 ?_
    exact ⟨i + 1, zR6, zR1, zLe, hi2, by omega⟩
  ·refine y4<|yf (GStep.knowBC (off := 4) .t1 .head rfl (by simp))<|zSr<|z2 (zMp rfl)<|z2 (zAp rfl)<|z2 (zAi rfl)<|z6<|zf<|q7 (x := .po _ _) (y := .int _ _) rfl rfl ?_
   exact ⟨iv, rfl, ⟨_, .keep (.drop (.refl _)), rfl⟩, trivial⟩
set_option maxHeartbeats 4000000 in
theorem vinstK_spec (w : AV) {i : Nat} {HL : AObj} (x : PInst) (hx : x.op = 0) (ha : x.args = []) : ACall prog E 121 [w, .agg (encInst x)] [(i, HL)] (sameO i HL (.agg (encZ (x.num, x.num)))) := by
 refine ACall.same<|zo func121 rfl (by decide) rfl<|zSr<|y7 (cs := _) rfl rfl rfl<|zq (cs := [.int .i64 0, .int .i64 0]) zeroValue74 rfl rfl<|fun i4 => z6<|zSr<|z2 (Gv.buildA (cps := []) (rs := [.int .i64 0, .int .i64 0, .int .i64 0, .int .i64 0, .int .i64 0, .int .i64 0]) pl226 rfl rfl rfl)<|zq (cs := [.int .i64 0, .int .i64 0, .int .i64 0, .int .i64 0, .int .i64 0, .int .i64 0]) zeroValue226 rfl rfl<|fun i5 => zm sizeOf226 rfl rfl rfl rfl rfl rfl .head rfl<|z6<|za<|zSr<|z2 (zFF underlying33 rfl sizeOf23 rfl rfl)<|z2 (zLf isAgg23 rfl)<|z2 (zz underlying23 rfl)<|z2 (zMi rfl)<|z6<|zh<|y6 (γ := Nat) [0, 3, 4, 5, 12, 13] (fun m => [(14, .int .i64 m)]) (fun m => [(i5, .cells 226 (c3 [])), (i4, .cells 74 [.int .i64 0, .int .i64 0]), (i, HL)]) (fun m => True) (fun m => 0) 0 zR1 zLe (trivial) ?_
 rintro m _
 refine zSr<|z2 (y8 rfl rfl)<|z6<|za<|zp rfl (fun cm=>?_) (fun cm=>?_)
 ·exfalso; rw [ha] at cm; simp at cm; omega
 ·refine y4<|za<|yc (γ := Nat × Nat) [0, 3, 4] (fun z => [(8, .po z.1 0), (9, .po z.2 0)]) (fun z => [(z.1, .cells 74 (encZ (ra [] 0))), (z.2, .cells 74 (encZ (ra [] 1))), (i5, .cells 226 (c3 [])), (i4, .cells 74 [.int .i64 0, .int .i64 0]), (i, HL)]) (fun z => True) ?_ (fun _ _ h => h) ?_
  ·refine y1 (fun j => false) (by kernel_rfl) rfl (zn (.rest _))<|zTk 0 rfl (Gv.idxAO (j := 0) underlying226 sizeOf74 rfl rfl rfl (by decide) rfl)<|zTk 2 rfl (Gv.idxAO (j := 1) underlying226 sizeOf74 rfl rfl rfl (by decide) rfl)<|AAny.four (i := 1) (j := 3) (m := 4) (q := 5) rfl rfl rfl rfl (by kernel_rfl) ?_ ?_ ?_ ?_
   ·refine z2 (yp (l := [_, _]) isAgg74 sizeOf74 rfl ⟨_, .head⟩ rfl rfl)<|z6<|AAny.three (i := 3) (j := 4) (m := 5) rfl rfl rfl (by kernel_rfl) ?_ ?_ ?_
    ·refine z2 (yp (l := [_, _]) isAgg74 sizeOf74 rfl ⟨_, .head⟩ rfl rfl)<|z6<|yk (i := 4) (j := 5) rfl rfl (by kernel_rfl) ?_ ?_
     ·refine zq (cs := [.int .i64 0, .int .i64 0]) zeroValue74 rfl rfl<|fun i8 => z6<|zOn 5 rfl<|zq (cs := [.int .i64 0, .int .i64 0]) zeroValue74 rfl rfl<|fun i9 => z6<|zOn 6 rfl<|zm sizeOf74 rfl rfl rfl rfl rfl rfl .t1 rfl<|z6<|zOn 7 rfl<|zm sizeOf74 rfl rfl rfl rfl rfl rfl .head rfl<|zd (zg (zi .head))<|zd (zg (zi .t1))<|z6<|zDn ?_
      exact ⟨(i8, i9), zR3, zR2, zLe, trivial⟩
     ·refine zq (cs := [.int .i64 0, .int .i64 0]) zeroValue74 rfl rfl<|fun i9 => z6<|zOn 4 rfl<|zq (cs := [.int .i64 0, .int .i64 0]) zeroValue74 rfl rfl<|fun i8 => z6<|zOn 6 rfl<|zm sizeOf74 rfl rfl rfl rfl rfl rfl .head rfl<|z6<|zOn 7 rfl<|zm sizeOf74 rfl rfl rfl rfl rfl rfl .t1 rfl<|z6<|zDn ?_
      exact ⟨(i8, i9), zR3, zR2, zLe, trivial⟩
    ·refine zq (cs := [.int .i64 0, .int .i64 0]) zeroValue74 rfl rfl<|fun i8 => z6<|yk (i := 3) (j := 5) rfl rfl (by kernel_rfl) ?_ ?_
     ·refine z2 (yp (l := [_, _]) isAgg74 sizeOf74 rfl ⟨_, .t1⟩ rfl rfl)<|z6<|zOn 5 rfl<|zq (cs := [.int .i64 0, .int .i64 0]) zeroValue74 rfl rfl<|fun i9 => z6<|zOn 6 rfl<|zm sizeOf74 rfl rfl rfl rfl rfl rfl .t1 rfl<|z6<|zOn 7 rfl<|zm sizeOf74 rfl rfl rfl rfl rfl rfl .head rfl<|zd (zg (zi .head))<|zd (zg (zi .t1))<|z6<|zDn ?_
      exact ⟨(i8, i9), zR3, zR2, zLe, trivial⟩
     ·refine zq (cs := [.int .i64 0, .int .i64 0]) zeroValue74 rfl rfl<|fun i9 => z6<|yk (i := 3) (j := 6) rfl rfl (by kernel_rfl) ?_ ?_
      ·refine z2 (yp (l := [_, _]) isAgg74 sizeOf74 rfl ⟨_, .t2⟩ rfl rfl)<|z6<|zOn 6 rfl<|zm sizeOf74 rfl rfl rfl rfl rfl rfl .t1 rfl<|z6<|zOn 7 rfl<|zm sizeOf74 rfl rfl rfl rfl rfl rfl .head rfl<|zd (zg (zi .head))<|zd (zg (zi .t1))<|z6<|zDn ?_
       exact ⟨(i8, i9), zR3, zR2, zLe, trivial⟩
      ·refine zm sizeOf74 rfl rfl rfl rfl rfl rfl .t1 rfl<|z6<|zOn 3 rfl<|z2 (yp (l := [_, _]) isAgg74 sizeOf74 rfl ⟨_, .t2⟩ rfl rfl)<|z6<|zOn 7 rfl<|zm sizeOf74 rfl rfl rfl rfl rfl rfl .head rfl<|zd (zg (zi .head))<|zd (zg (zi .t1))<|z6<|zDn ?_
       exact ⟨(i8, i9), zR3, zR2, zLe, trivial⟩
    ·refine zq (cs := [.int .i64 0, .int .i64 0]) zeroValue74 rfl rfl<|fun i9 => z6<|yk (i := 3) (j := 4) rfl rfl (by kernel_rfl) ?_ ?_
     ·refine z2 (yp (l := [_, _]) isAgg74 sizeOf74 rfl ⟨_, .t1⟩ rfl rfl)<|z6<|zOn 4 rfl<|zq (cs := [.int .i64 0, .int .i64 0]) zeroValue74 rfl rfl<|fun i8 => z6<|zOn 6 rfl<|zm sizeOf74 rfl rfl rfl rfl rfl rfl .head rfl<|z6<|zOn 7 rfl<|zm sizeOf74 rfl rfl rfl rfl rfl rfl .t1 rfl<|z6<|zDn ?_
      exact ⟨(i8, i9), zR3, zR2, zLe, trivial⟩
     ·refine zq (cs := [.int .i64 0, .int .i64 0]) zeroValue74 rfl rfl<|fun i8 => z6<|yk (i := 3) (j := 6) rfl rfl (by kernel_rfl) ?_ ?_
      ·refine z2 (yp (l := [_, _]) isAgg74 sizeOf74 rfl ⟨_, .t2⟩ rfl rfl)<|z6<|zOn 6 rfl<|zm sizeOf74 rfl rfl rfl rfl rfl rfl .head rfl<|z6<|zOn 7 rfl<|zm sizeOf74 rfl rfl rfl rfl rfl rfl .t1 rfl<|z6<|zDn ?_
       exact ⟨(i8, i9), zR3, zR2, zLe, trivial⟩
      ·refine zm sizeOf74 rfl rfl rfl rfl rfl rfl .head rfl<|z6<|zOn 3 rfl<|z2 (yp (l := [_, _]) isAgg74 sizeOf74 rfl ⟨_, .t2⟩ rfl rfl)<|z6<|zOn 7 rfl<|zm sizeOf74 rfl rfl rfl rfl rfl rfl .t1 rfl<|z6<|zDn ?_
       exact ⟨(i8, i9), zR3, zR2, zLe, trivial⟩
   ·refine z2 (yp (l := [_, _]) isAgg74 sizeOf74 rfl ⟨_, .head⟩ rfl rfl)<|z6<|AAny.three (i := 1) (j := 4) (m := 5) rfl rfl rfl (by kernel_rfl) ?_ ?_ ?_
    ·refine z2 (yp (l := [_, _]) isAgg74 sizeOf74 rfl ⟨_, .head⟩ rfl rfl)<|z6<|yk (i := 4) (j := 5) rfl rfl (by kernel_rfl) ?_ ?_
     ·refine zq (cs := [.int .i64 0, .int .i64 0]) zeroValue74 rfl rfl<|fun i8 => z6<|zOn 5 rfl<|zq (cs := [.int .i64 0, .int .i64 0]) zeroValue74 rfl rfl<|fun i9 => z6<|zOn 6 rfl<|zm sizeOf74 rfl rfl rfl rfl rfl rfl .t1 rfl<|z6<|zOn 7 rfl<|zm sizeOf74 rfl rfl rfl rfl rfl rfl .head rfl<|zd (zg (zi .head))<|zd (zg (zi .t1))<|z6<|zDn ?_
      exact ⟨(i8, i9), zR3, zR2, zLe, trivial⟩
     ·refine zq (cs := [.int .i64 0, .int .i64 0]) zeroValue74 rfl rfl<|fun i9 => z6<|zOn 4 rfl<|zq (cs := [.int .i64 0, .int .i64 0]) zeroValue74 rfl rfl<|fun i8 => z6<|zOn 6 rfl<|zm sizeOf74 rfl rfl rfl rfl rfl rfl .head rfl<|z6<|zOn 7 rfl<|zm sizeOf74 rfl rfl rfl rfl rfl rfl .t1 rfl<|z6<|zDn ?_
      exact ⟨(i8, i9), zR3, zR2, zLe, trivial⟩
    ·refine zq (cs := [.int .i64 0, .int .i64 0]) zeroValue74 rfl rfl<|fun i8 => z6<|yk (i := 1) (j := 5) rfl rfl (by kernel_rfl) ?_ ?_
     ·refine z2 (yp (l := [_, _]) isAgg74 sizeOf74 rfl ⟨_, .t1⟩ rfl rfl)<|z6<|zOn 5 rfl<|zq (cs := [.int .i64 0, .int .i64 0]) zeroValue74 rfl rfl<|fun i9 => z6<|zOn 6 rfl<|zm sizeOf74 rfl rfl rfl rfl rfl rfl .t1 rfl<|z6<|zOn 7 rfl<|zm sizeOf74 rfl rfl rfl rfl rfl rfl .head rfl<|zd (zg (zi .head))<|zd (zg (zi .t1))<|z6<|zDn ?_
      exact ⟨(i8, i9), zR3, zR2, zLe, trivial⟩
     ·refine zq (cs := [.int .i64 0, .int .i64 0]) zeroValue74 rfl rfl<|fun i9 => z6<|zOn 1 rfl<|z2 (yp (l := [_, _]) isAgg74 sizeOf74 rfl ⟨_, .t2⟩ rfl rfl)<|z6<|zOn 6 rfl<|zm sizeOf74 rfl rfl rfl rfl rfl rfl .t1 rfl<|z6<|zOn 7 rfl<|zm sizeOf74 rfl rfl rfl rfl rfl rfl .head rfl<|zd (zg (zi .head))<|zd (zg (zi .t1))<|z6<|zDn ?_
      exact ⟨(i8, i9), zR3, zR2, zLe, trivial⟩
    ·refine zq (cs := [.int .i64 0, .int .i64 0]) zeroValue74 rfl rfl<|fun i9 => z6<|yk (i := 1) (j := 4) rfl rfl (by kernel_rfl) ?_ ?_
     ·refine z2 (yp (l := [_, _]) isAgg74 sizeOf74 rfl ⟨_, .t1⟩ rfl rfl)<|z6<|zOn 4 rfl<|zq (cs := [.int .i64 0, .int .i64 0]) zeroValue74 rfl rfl<|fun i8 => z6<|zOn 6 rfl<|zm sizeOf74 rfl rfl rfl rfl rfl rfl .head rfl<|z6<|zOn 7 rfl<|zm sizeOf74 rfl rfl rfl rfl rfl rfl .t1 rfl<|z6<|zDn ?_
      exact ⟨(i8, i9), zR3, zR2, zLe, trivial⟩
     ·refine zq (cs := [.int .i64 0, .int .i64 0]) zeroValue74 rfl rfl<|fun i8 => z6<|zOn 1 rfl<|z2 (yp (l := [_, _]) isAgg74 sizeOf74 rfl ⟨_, .t2⟩ rfl rfl)<|z6<|zOn 6 rfl<|zm sizeOf74 rfl rfl rfl rfl rfl rfl .head rfl<|z6<|zOn 7 rfl<|zm sizeOf74 rfl rfl rfl rfl rfl rfl .t1 rfl<|z6<|zDn ?_
      exact ⟨(i8, i9), zR3, zR2, zLe, trivial⟩
   ·refine zq (cs := [.int .i64 0, .int .i64 0]) zeroValue74 rfl rfl<|fun i8 => z6<|AAny.three (i := 1) (j := 3) (m := 5) rfl rfl rfl (by kernel_rfl) ?_ ?_ ?_
    ·refine z2 (yp (l := [_, _]) isAgg74 sizeOf74 rfl ⟨_, .t1⟩ rfl rfl)<|z6<|yk (i := 3) (j := 5) rfl rfl (by kernel_rfl) ?_ ?_
     ·refine z2 (yp (l := [_, _]) isAgg74 sizeOf74 rfl ⟨_, .t1⟩ rfl rfl)<|z6<|zOn 5 rfl<|zq (cs := [.int .i64 0, .int .i64 0]) zeroValue74 rfl rfl<|fun i9 => z6<|zOn 6 rfl<|zm sizeOf74 rfl rfl rfl rfl rfl rfl .t1 rfl<|z6<|zOn 7 rfl<|zm sizeOf74 rfl rfl rfl rfl rfl rfl .head rfl<|zd (zg (zi .head))<|zd (zg (zi .t1))<|z6<|zDn ?_
      exact ⟨(i8, i9), zR3, zR2, zLe, trivial⟩
     ·refine zq (cs := [.int .i64 0, .int .i64 0]) zeroValue74 rfl rfl<|fun i9 => z6<|yk (i := 3) (j := 6) rfl rfl (by kernel_rfl) ?_ ?_
      ·refine z2 (yp (l := [_, _]) isAgg74 sizeOf74 rfl ⟨_, .t2⟩ rfl rfl)<|z6<|zOn 6 rfl<|zm sizeOf74 rfl rfl rfl rfl rfl rfl .t1 rfl<|z6<|zOn 7 rfl<|zm sizeOf74 rfl rfl rfl rfl rfl rfl .head rfl<|zd (zg (zi .head))<|zd (zg (zi .t1))<|z6<|zDn ?_
       exact ⟨(i8, i9), zR3, zR2, zLe, trivial⟩
      ·refine zm sizeOf74 rfl rfl rfl rfl rfl rfl .t1 rfl<|z6<|zOn 3 rfl<|z2 (yp (l := [_, _]) isAgg74 sizeOf74 rfl ⟨_, .t2⟩ rfl rfl)<|z6<|zOn 7 rfl<|zm sizeOf74 rfl rfl rfl rfl rfl rfl .head rfl<|zd (zg (zi .head))<|zd (zg (zi .t1))<|z6<|zDn ?_
       exact ⟨(i8, i9), zR3, zR2, zLe, trivial⟩
    ·refine z2 (yp (l := [_, _]) isAgg74 sizeOf74 rfl ⟨_, .t1⟩ rfl rfl)<|z6<|yk (i := 1) (j := 5) rfl rfl (by kernel_rfl) ?_ ?_
     ·refine z2 (yp (l := [_, _]) isAgg74 sizeOf74 rfl ⟨_, .t1⟩ rfl rfl)<|z6<|zOn 5 rfl<|zq (cs := [.int .i64 0, .int .i64 0]) zeroValue74 rfl rfl<|fun i9 => z6<|zOn 6 rfl<|zm sizeOf74 rfl rfl rfl rfl rfl rfl .t1 rfl<|z6<|zOn 7 rfl<|zm sizeOf74 rfl rfl rfl rfl rfl rfl .head rfl<|zd (zg (zi .head))<|zd (zg (zi .t1))<|z6<|zDn ?_
      exact ⟨(i8, i9), zR3, zR2, zLe, trivial⟩
     ·refine zq (cs := [.int .i64 0, .int .i64 0]) zeroValue74 rfl rfl<|fun i9 => z6<|zOn 1 rfl<|z2 (yp (l := [_, _]) isAgg74 sizeOf74 rfl ⟨_, .t2⟩ rfl rfl)<|z6<|zOn 6 rfl<|zm sizeOf74 rfl rfl rfl rfl rfl rfl .t1 rfl<|z6<|zOn 7 rfl<|zm sizeOf74 rfl rfl rfl rfl rfl rfl .head rfl<|zd (zg (zi .head))<|zd (zg (zi .t1))<|z6<|zDn ?_
      exact ⟨(i8, i9), zR3, zR2, zLe, trivial⟩
    ·refine zq (cs := [.int .i64 0, .int .i64 0]) zeroValue74 rfl rfl<|fun i9 => z6<|yk (i := 1) (j := 3) rfl rfl (by kernel_rfl) ?_ ?_
     ·refine z2 (yp (l := [_, _]) isAgg74 sizeOf74 rfl ⟨_, .t2⟩ rfl rfl)<|z6<|yk (i := 3) (j := 6) rfl rfl (by kernel_rfl) ?_ ?_
      ·refine z2 (yp (l := [_, _]) isAgg74 sizeOf74 rfl ⟨_, .t2⟩ rfl rfl)<|z6<|zOn 6 rfl<|zm sizeOf74 rfl rfl rfl rfl rfl rfl .t1 rfl<|z6<|zOn 7 rfl<|zm sizeOf74 rfl rfl rfl rfl rfl rfl .head rfl<|zd (zg (zi .head))<|zd (zg (zi .t1))<|z6<|zDn ?_
       exact ⟨(i8, i9), zR3, zR2, zLe, trivial⟩
      ·refine zm sizeOf74 rfl rfl rfl rfl rfl rfl .t1 rfl<|z6<|zOn 3 rfl<|z2 (yp (l := [_, _]) isAgg74 sizeOf74 rfl ⟨_, .t2⟩ rfl rfl)<|z6<|zOn 7 rfl<|zm sizeOf74 rfl rfl rfl rfl rfl rfl .head rfl<|zd (zg (zi .head))<|zd (zg (zi .t1))<|z6<|zDn ?_
       exact ⟨(i8, i9), zR3, zR2, zLe, trivial⟩
     ·refine z2 (yp (l := [_, _]) isAgg74 sizeOf74 rfl ⟨_, .t2⟩ rfl rfl)<|z6<|zOn 1 rfl<|z2 (yp (l := [_, _]) isAgg74 sizeOf74 rfl ⟨_, .t2⟩ rfl rfl)<|z6<|zOn 6 rfl<|zm sizeOf74 rfl rfl rfl rfl rfl rfl .t1 rfl<|z6<|zOn 7 rfl<|zm sizeOf74 rfl rfl rfl rfl rfl rfl .head rfl<|zd (zg (zi .head))<|zd (zg (zi .t1))<|z6<|zDn ?_
      exact ⟨(i8, i9), zR3, zR2, zLe, trivial⟩
   ·refine zq (cs := [.int .i64 0, .int .i64 0]) zeroValue74 rfl rfl<|fun i9 => z6<|AAny.three (i := 1) (j := 3) (m := 4) rfl rfl rfl (by kernel_rfl) ?_ ?_ ?_
    ·refine z2 (yp (l := [_, _]) isAgg74 sizeOf74 rfl ⟨_, .t1⟩ rfl rfl)<|z6<|yk (i := 3) (j := 4) rfl rfl (by kernel_rfl) ?_ ?_
     ·refine z2 (yp (l := [_, _]) isAgg74 sizeOf74 rfl ⟨_, .t1⟩ rfl rfl)<|z6<|zOn 4 rfl<|zq (cs := [.int .i64 0, .int .i64 0]) zeroValue74 rfl rfl<|fun i8 => z6<|zOn 6 rfl<|zm sizeOf74 rfl rfl rfl rfl rfl rfl .head rfl<|z6<|zOn 7 rfl<|zm sizeOf74 rfl rfl rfl rfl rfl rfl .t1 rfl<|z6<|zDn ?_
      exact ⟨(i8, i9), zR3, zR2, zLe, trivial⟩
     ·refine zq (cs := [.int .i64 0, .int .i64 0]) zeroValue74 rfl rfl<|fun i8 => z6<|yk (i := 3) (j := 6) rfl rfl (by kernel_rfl) ?_ ?_
      ·refine z2 (yp (l := [_, _]) isAgg74 sizeOf74 rfl ⟨_, .t2⟩ rfl rfl)<|z6<|zOn 6 rfl<|zm sizeOf74 rfl rfl rfl rfl rfl rfl .head rfl<|z6<|zOn 7 rfl<|zm sizeOf74 rfl rfl rfl rfl rfl rfl .t1 rfl<|z6<|zDn ?_
       exact ⟨(i8, i9), zR3, zR2, zLe, trivial⟩
      ·refine zm sizeOf74 rfl rfl rfl rfl rfl rfl .head rfl<|z6<|zOn 3 rfl<|z2 (yp (l := [_, _]) isAgg74 sizeOf74 rfl ⟨_, .t2⟩ rfl rfl)<|z6<|zOn 7 rfl<|zm sizeOf74 rfl rfl rfl rfl rfl rfl .t1 rfl<|z6<|zDn ?_
       exact ⟨(i8, i9), zR3, zR2, zLe, trivial⟩
    ·refine z2 (yp (l := [_, _]) isAgg74 sizeOf74 rfl ⟨_, .t1⟩ rfl rfl)<|z6<|yk (i := 1) (j := 4) rfl rfl (by kernel_rfl) ?_ ?_
     ·refine z2 (yp (l := [_, _]) isAgg74 sizeOf74 rfl ⟨_, .t1⟩ rfl rfl)<|z6<|zOn 4 rfl<|zq (cs := [.int .i64 0, .int .i64 0]) zeroValue74 rfl rfl<|fun i8 => z6<|zOn 6 rfl<|zm sizeOf74 rfl rfl rfl rfl rfl rfl .head rfl<|z6<|zOn 7 rfl<|zm sizeOf74 rfl rfl rfl rfl rfl rfl .t1 rfl<|z6<|zDn ?_
      exact ⟨(i8, i9), zR3, zR2, zLe, trivial⟩
     ·refine zq (cs := [.int .i64 0, .int .i64 0]) zeroValue74 rfl rfl<|fun i8 => z6<|zOn 1 rfl<|z2 (yp (l := [_, _]) isAgg74 sizeOf74 rfl ⟨_, .t2⟩ rfl rfl)<|z6<|zOn 6 rfl<|zm sizeOf74 rfl rfl rfl rfl rfl rfl .head rfl<|z6<|zOn 7 rfl<|zm sizeOf74 rfl rfl rfl rfl rfl rfl .t1 rfl<|z6<|zDn ?_
      exact ⟨(i8, i9), zR3, zR2, zLe, trivial⟩
    ·refine zq (cs := [.int .i64 0, .int .i64 0]) zeroValue74 rfl rfl<|fun i8 => z6<|yk (i := 1) (j := 3) rfl rfl (by kernel_rfl) ?_ ?_
     ·refine z2 (yp (l := [_, _]) isAgg74 sizeOf74 rfl ⟨_, .t2⟩ rfl rfl)<|z6<|yk (i := 3) (j := 6) rfl rfl (by kernel_rfl) ?_ ?_
      ·refine z2 (yp (l := [_, _]) isAgg74 sizeOf74 rfl ⟨_, .t2⟩ rfl rfl)<|z6<|zOn 6 rfl<|zm sizeOf74 rfl rfl rfl rfl rfl rfl .head rfl<|z6<|zOn 7 rfl<|zm sizeOf74 rfl rfl rfl rfl rfl rfl .t1 rfl<|z6<|zDn ?_
       exact ⟨(i8, i9), zR3, zR2, zLe, trivial⟩
      ·refine zm sizeOf74 rfl rfl rfl rfl rfl rfl .head rfl<|z6<|zOn 3 rfl<|z2 (yp (l := [_, _]) isAgg74 sizeOf74 rfl ⟨_, .t2⟩ rfl rfl)<|z6<|zOn 7 rfl<|zm sizeOf74 rfl rfl rfl rfl rfl rfl .t1 rfl<|z6<|zDn ?_
       exact ⟨(i8, i9), zR3, zR2, zLe, trivial⟩
     ·refine z2 (yp (l := [_, _]) isAgg74 sizeOf74 rfl ⟨_, .t2⟩ rfl rfl)<|z6<|zOn 1 rfl<|z2 (yp (l := [_, _]) isAgg74 sizeOf74 rfl ⟨_, .t2⟩ rfl rfl)<|z6<|zOn 6 rfl<|zm sizeOf74 rfl rfl rfl rfl rfl rfl .head rfl<|z6<|zOn 7 rfl<|zm sizeOf74 rfl rfl rfl rfl rfl rfl .t1 rfl<|z6<|zDn ?_
      exact ⟨(i8, i9), zR3, zR2, zLe, trivial⟩
  ·rintro ⟨i8, i9⟩ _
   refine yf (y9 (t := 8) rfl .head)<|yf (y9 (t := 9) rfl .head)<|yf (GStep.drop .head)<|za<|zSr<|z2 (zFF underlying33 rfl sizeOf31 rfl rfl)<|z2 (zLi isAgg31 rfl)<|z6<|zh<|zSr<|z2 (y3 rfl rfl)<|z2 (zAb rfl)<|z6<|zp rfl (fun c0=>?_) (fun c0=>?_)
   ·refine zSr<|z2 (zFF underlying33 rfl sizeOf2 rfl rfl)<|z2 (zLi isAgg2 rfl)<|ze (iOf _) rfl<|zm sizeOf74 rfl rfl rfl rfl rfl rfl .head rfl<|z6<|zf<|q0 rfl ⟨_, .head⟩ isAgg74 sizeOf74 rfl ?_
    exact ⟨rfl, .d1⟩
   ·exact absurd hx c0
theorem vruleK_spec (f : PFunc) (chk : List Bool) (Lv : AV) {i : Nat} {HL : AObj} (v : Nat) (hv : v < f.vars.length) {bi k : Nat} {b : PBlock} {x : PInst} (hget : f.blocks[bi]? = some b) (hxk : b.insts[k]? = some x) (hmk : makerT f v = ((bi : Int), (k : Int))) (hx : x.op = 0) (ha : x.args = []) :
  ACall prog E 76 [viewV f chk Lv, .int .i64 v] [(i, HL)] (sameO i HL (.agg (encZ (x.num, x.num)))) := by
 have hmk0 := makersT_get (f := f) hv
 rw [hmk] at hmk0
 refine ACall.same<|zo func76 rfl (by decide) rfl<|zSr<|y7 (cs := [_]) rfl rfl rfl<|zq (cs := [.int .i64 0, .int .i64 0]) zeroValue74 rfl rfl<|fun i4 => z6<|za<|y1 (fun j => false) (by kernel_rfl) rfl (zn (.rest _))<|zTk 0 rfl (zMg rfl)<|zTk 1 rfl (yq rfl)<|zTk 2 rfl (zFF underlying125 rfl sizeOf102 rfl rfl)<|zTk 3 rfl (zLf isAgg102 rfl)<|zTk 4 rfl (zLi isAgg3 rfl)<|zTk 5 rfl (zIM v underlying102 sizeOf109 rfl rfl rfl hmk0)<|zTk 6 rfl (zk isAgg109 sizeOf109 rfl rfl)<|zOn 7 rfl<|zq (cs := [.int .i64 0, .int .i64 0]) zeroValue109 rfl rfl<|fun i5 => z6<|zOn 8 rfl<|zm sizeOf109 rfl rfl rfl rfl rfl rfl .head rfl<|z6<|zDn<|yf (y9 (t := 5) rfl .head)<|za<|y1 (fun j => false) (by kernel_rfl) rfl (zn (.rest _))<|zTk 0 rfl (zMg rfl)<|zTk 1 rfl (yq rfl)<|zTk 2 rfl (zFF underlying125 rfl sizeOf26 rfl rfl)<|zTk 3 rfl (zFF underlying26 rfl sizeOf24 rfl rfl)<|zTk 4 rfl (zLf isAgg24 rfl)<|zTk 5 rfl (zFF underlying109 rfl sizeOf3 rfl rfl)<|zTk 6 rfl (zLi isAgg3 rfl)<|zTk 7 rfl (zIM bi underlying24 sizeOf66 rfl rfl rfl hget)<|zTk 8 rfl (zk isAgg66 sizeOf66 rfl rfl)<|zOn 9 rfl<|zq (cs := [.str ⟨#[]⟩, .raw (.slice none 0 0), .raw (.slice none 0 0), .int .i64 0, .int .i64 0, .int .i64 0, .int .i64 0]) zeroValue66 rfl rfl<|fun i6 => z6<|zOn 10 rfl ?_
 refine zm sizeOf66 rfl rfl rfl rfl rfl rfl .head rfl<|z6<|zDn<|yf (y9 (t := 6) rfl .head)<|za<|zSr<|z2 (zFF underlying109 rfl sizeOf3 rfl rfl)<|z2 (zLi isAgg3 rfl)<|z2 (q9 rfl rfl)<|z6<|yr rfl (qu (by show (0 : Int) ≤ (k : Int); omega))<|zSr<|z2 (zMg rfl)<|z2 (zFF underlying66 rfl sizeOf60 rfl rfl)<|z2 (zLf isAgg60 rfl)<|z2 (zFF underlying109 rfl sizeOf3 rfl rfl)<|z2 (zLi isAgg3 rfl)<|z2 (zIM k underlying60 sizeOf33 rfl rfl rfl hxk)<|z2 (zk isAgg33 sizeOf33 rfl rfl)<|zt rfl (zn (.r (.l (.rest _)))) (vinstK_spec _ x hx ha) ?_
 rintro r34 O34 ⟨rfl, rfl⟩
 refine zm sizeOf74 rfl rfl rfl rfl rfl rfl .t1 rfl<|z6<|yf (zg (zi .t1))<|zf<|q0 rfl ⟨_, .head⟩ isAgg74 sizeOf74 rfl ?_
 exact ⟨rfl, .d1⟩
set_option maxHeartbeats 4000000 in
theorem vRuleK_ok (f : PFunc) (hf : small f) (hL : Letters E) (hs : (typedB f && singB f) = true) (hno : NoChk f) (l : List Rng) (hll : l.length = f.vars.length) (v : Nat) (hv : v < f.vars.length) {bi k : Nat} {b : PBlock} {x : PInst} (hget : f.blocks[bi]? = some b) (hxk : b.insts[k]? = some x) (hmk : makerT f v = ((bi : Int), (k : Int))) (hx : x.op = 0) (ha : x.args = []) :
  AFun prog E 40 [.agg (encF f), .fro 2 (l.map encZ), .int .i64 v] (.tup [.agg (encZ (x.num, x.num)), .bool true]) := by
 have hvn := hf.1
 have hlk := lookN_ok (E := E) f hf hL hs hno
 have hmk0 := makersT_get (f := f) hv
 refine zo func40 rfl (by decide) rfl<|zSr<|y7 (cs := _) rfl rfl rfl<|zq (cs := [.int .i64 0, .int .i64 0]) zeroValue74 rfl rfl<|fun i6 => z2 (zAb rfl)<|z6<|zSr<|z2 (zk isAgg26 sizeOf26 rfl rfl)<|zt rfl (zn (.r (.rest _))) (hlk) ?_
 rintro r12 O12 ⟨iv, rfl, rfl⟩
 refine z2 (zMu rfl)<|z2 (yy (v := .po _ _) rfl rfl)<|z2 (zXi rfl rfl)<|z2 (zAp rfl)<|z2 (zAi rfl)<|z6<|za<|za<|yc (γ := Bool) [1, 2, 6, 8] (fun u => [(46, .bool u)]) (fun u => [(iv, .cells 125 (viewL f (List.replicate f.vars.length false) (.raw (.slice none 0 0)))), (i6, .cells 74 [.int .i64 0, .int .i64 0])]) (fun u => u = false) ?_ (fun _ _ h => h) ?_
 ·refine zRg<|z2 (zMi rfl)<|z2 (yi rfl rfl)<|z2 (zMb rfl)<|zl (s := 17) rfl (fun c1=>?_) (fun c1=>?_)
  ·exfalso; simp at c1
  ·refine z8 rfl rfl c1<|z2 (zMf rfl)<|z8 rfl rfl c1<|z2 (zz underlying41 rfl)<|z8 rfl rfl c1<|z2 (zFF underlying26 rfl sizeOf22 rfl rfl)<|z8 rfl rfl c1<|z2 (zLf isAgg22 rfl)<|z8 rfl rfl c1<|z2 (zz underlying22 rfl)<|z8 rfl rfl c1<|z2 (yi rfl rfl)<|z2 (zPf rfl c1 rfl)<|z2 (zMb rfl)<|zl (s := 25) rfl (fun c2=>?_) (fun c2=>?_)
   ·exfalso; rw [hll] at c2; simp at c2
   ·refine z8 rfl rfl c2<|z2 (zMi rfl)<|z8 rfl rfl c2<|z2 (y8 rfl rfl)<|z2 (zPf rfl c2 rfl)<|z2 (zMb rfl)<|zl (s := 29) rfl (fun c3=>?_) (fun c3=>?_)
    ·exfalso; simp at c3; omega
    ·refine z8 rfl rfl c3<|z2 (zMi rfl)<|z8 rfl rfl c3<|z2 (zFF underlying26 rfl sizeOf22 rfl rfl)<|z8 rfl rfl c3<|z2 (zLf isAgg22 rfl)<|z8 rfl rfl c3<|z2 (zz underlying22 rfl)<|z8 rfl rfl c3<|z2 (q9 rfl rfl)<|z2 (zPf rfl c3 rfl)<|z2 (zMb rfl)<|zl (s := 36) rfl (fun c4=>?_) (fun c4=>?_)
     ·exfalso; simp at c4; omega
     ·refine z8 rfl rfl c4<|z2 (zMp rfl)<|z8 rfl rfl c4<|z2 (ya rfl)<|z8 rfl rfl c4<|z2 (zu underlying125 rfl sizeOf102 (by decide) rfl rfl)<|z8 rfl rfl c4<|z2 (zy (c := .fro _ _) isAgg102 rfl ⟨_, .head⟩ rfl)<|z8 rfl rfl c4<|z2 (zMi rfl)<|z8 rfl rfl c4<|z2 (zIM v underlying102 sizeOf109 rfl rfl rfl hmk0)<|z8 rfl rfl c4<|z2 (zFF underlying109 rfl sizeOf3 rfl rfl)<|z8 rfl rfl c4<|z2 (zLi isAgg3 rfl)<|z8 rfl rfl c4<|z2 (y8 rfl rfl)<|z2 (zPf rfl c4 rfl)<|z6 ?_
      exact ⟨_, zR4, zR1, zLe, by rw [hmk]; exact qv (by dsimp only; omega)⟩
 ·rintro u hu
  refine yh rfl hu<|zc<|zSr<|z2 (zMp rfl)<|z2 (zMf rfl)<|z2 (ya rfl)<|z2 (zu underlying125 rfl sizeOf41 (by decide) rfl rfl)<|qg (l := [_]) (new := [_, _, _, _, _, _]) sizeOf41 rfl rfl rfl rfl rfl rfl .head rfl rfl<|z6<|yf (y9 (t := 8) rfl .head)<|zSr<|z2 (zMg rfl)<|z2 (zMi rfl)<|zt rfl (zn (.l (.rest _))) (vruleK_spec f (List.replicate f.vars.length false) (.fro 2 (l.map encZ)) (i := i6) (HL := .cells 74 [.int .i64 0, .int .i64 0]) v hv hget hxk hmk hx ha) ?_
  rintro r54 O54 ⟨rfl, rfl⟩
  refine zm sizeOf74 rfl rfl rfl rfl rfl rfl .head rfl<|z2 (zAb rfl)<|z6<|zf<|afin.c1t (y := .bool _) rfl rfl ⟨_, .head⟩ isAgg74 sizeOf74 rfl ?_
  rfl
theorem small27K : small lives27K := by unfold small lives27K; simp [smallBlk]; decide
theorem sing27K : (typedB lives27K && singB lives27K) = true := by decide +kernel
theorem maker27 : makerT lives27K 0 = (0, 0) := by decide +kernel
theorem noChk27 : NoChk lives27K := by
 intro b hb x hx
 simp [lives27K] at hb
 subst hb
 simp at hx
 subst hx
 unfold isChk
 decide
theorem tRangesK_spec (hL : Letters E) (r : Rng) : AFun prog E 30 [.agg (encF lives27K), .fro 2 ([r].map encZ)] (.bool (withinB (5, 5) r)) := by
 have hru := vRuleK_ok (E := E) lives27K small27K hL sing27K noChk27 [r] rfl 0 (by decide) (bi := 0) (k := 0) rfl rfl maker27 rfl rfl
 have htr := tRight_spec (E := E) lives27K small27K hL [r] (by simp)
 rw [sing27K] at htr
 refine zo func30 rfl (by decide) rfl<|zSr<|y7 (cs := _) rfl rfl rfl<|z2 (zAb rfl)<|z6<|za<|zSr<|z2 (zk isAgg26 sizeOf26 rfl rfl)<|z2 (zMf rfl)<|ze (htr) rfl<|z2 (yd rfl)<|z6<|zr rfl (fun c0=>?_) (fun c0=>?_)
 ·exfalso; simp [lives27K] at c0
 ·refine zc<|za<|zSr<|z2 (zFF underlying26 rfl sizeOf22 rfl rfl)<|z2 (zLf isAgg22 rfl)<|z2 (zz underlying22 rfl)<|z2 (zMi rfl)<|z6<|zh<|y6 (γ := Nat) [1, 2, 14] (fun k => [(15, .int .i64 k)]) (fun k => []) (fun k => k ≤ 1 ∧ (k = 1 → withinB (5, 5) r = true)) (fun k => 1 - k) 0 zR1 zLe (⟨by omega, fun h => by omega⟩) ?_
  rintro k ⟨hk, hall⟩
  refine zSr<|z2 (y8 rfl rfl)<|z6<|za<|zp rfl (fun ck=>?_) (fun ck=>?_)
  ·obtain rfl : k = 0 := by simp [lives27K] at ck; omega
   refine zc<|za<|zh<|zSr<|z2 (zMi rfl)<|z2 (zAi rfl)<|z6<|zSr<|z2 (zk isAgg26 sizeOf26 rfl rfl)<|z2 (zMf rfl)<|z2 (zMi rfl)<|ze (hru) rfl<|z2 (zMu rfl)<|z2 (yy (v := .agg _) rfl rfl)<|z2 (zXb rfl rfl)<|zq (cs := [.int .i64 0, .int .i64 0]) zeroValue74 rfl rfl<|fun i6 => zm sizeOf74 rfl rfl rfl rfl rfl rfl .head rfl<|z2 (zAb rfl)<|z6<|za<|zSr<|z2 (zMb rfl)<|z2 (yd rfl)<|z6<|yc (γ := Unit) [1, 2, 5, 6, 14, 15] (fun q => []) (fun q => [(i6, .cells 74 (encZ (5, 5)))]) (fun q => True) ?_ (fun _ _ h => h) ?_
   ·refine zr rfl (fun cm=>?_) (fun cm=>?_)
    ·exfalso; cases cm
    ·refine zc ?_
     exact ⟨(), zR6, trivial, zLe, trivial⟩
   ·rintro _ _
    refine za<|y1 (fun j => false) (by kernel_rfl) rfl (zn (.r (.rest _)))<|zTk 0 rfl (Gv.loadWC isAgg74 sizeOf74 rfl ⟨_, .head⟩ rfl)<|zTk 1 rfl (zMf rfl)<|zTk 2 rfl (zMi rfl)<|zTk 3 rfl (zIM 0 underlying41 sizeOf74 rfl rfl rfl rfl)<|zTk 4 rfl (zk isAgg74 sizeOf74 rfl rfl)<|zOn 5 rfl<|ze (iWithin (5, 5) r) rfl<|z6<|zTk 6 rfl (yd rfl)<|zDn<|zr rfl (fun cw=>?_) (fun cw=>?_)
    ·have hw : withinB (5, 5) r = false := by rwa [Bool.not_eq_true'] at cw
     refine zSr<|z2 (zAb rfl)<|z6<|zf<|zj (x := .bool _) rfl ?_
     exact jb hw.symm
    ·refine zc<|zRg<|z2 (zAd rfl rfl)<|z2 (zMi rfl)<|z6 ?_
     exact ⟨1, zR3, zR1, ⟨_, (.drop (.refl _)), rfl⟩, ⟨Nat.le_refl _, fun _ => by rwa [Bool.not_eq_false'] at cw⟩, by omega⟩
  ·have hk1 : k = 1 := by simp [lives27K] at ck; omega
   refine y4<|zSr<|z2 (zAb rfl)<|z6<|zf<|zj (x := .bool _) rfl ?_
   exact jb (hall hk1).symm
theorem lives27K_spec (hL : Letters E) : AFun prog E 29 [] (.bool true) := by
 have ha := tRangesK_spec (E := E) hL (5, 5)
 have hb := tRangesK_spec (E := E) hL (0, 9)
 have hc := tRangesK_spec (E := E) hL (6, 6)
 rw [show withinB (5, 5) (5, 5) = true by decide] at ha
 rw [show withinB (5, 5) (0, 9) = true by decide] at hb
 rw [show withinB (5, 5) (6, 6) = false by decide] at hc
 refine zo func29 rfl (by decide) rfl<|zSr<|z2 (zAb rfl)<|z6<|zSr<|z2 (y5 (cps := [(0, [_])]) (rs := [_, .int .i64 0]) pl56 rfl rfl rfl)<|zw (rows := [[_, _]]) ps22_1 rfl rfl rfl rfl rfl<|z2 (y5 (cps := [(0, [_]), (1, [_]), (3, [_])]) (rs := [_, _, .raw (.slice none 0 0), _]) pl33 rfl rfl rfl)<|zd (qa (t := 4) rfl (Imp.agg (.cons (.refl _) (.cons (.refl _) (.cons (.nil 1) (.cons (.refl _) .nil))))))<|zw (rows := [[_, _, _, _]]) ps60_1 rfl rfl rfl rfl rfl<|z2 (y5 (cps := [(0, [_])]) (rs := [_, .int .i64 0, .int .i64 0, .int .i64 0]) pl64 rfl rfl rfl)<|z2 (y5 (cps := [(0, [_]), (2, [_]), (3, [_, _, _, _])]) (rs := [_, .raw (.slice none 0 0), _, _, _, _, _]) pl66 rfl rfl rfl)<|zd (qa (t := 7) rfl (Imp.agg (.cons (.refl _) (.cons (.nil 3) (.cons (.refl _) (.cons (.refl _) (.cons (.refl _) (.cons (.refl _) (.cons (.refl _) .nil)))))))))<|zw (rows := [[_, _, _, _, _, _, _]]) ps24_1 rfl rfl rfl rfl rfl<|z2 (y5 (cps := [(0, [_]), (2, [_])]) (rs := [_, .raw (.slice none 0 0), _]) pl26 rfl rfl rfl)<|zd (qa (t := 9) rfl (Imp.agg (.cons (.refl _) (.cons (.nil 1) (.cons (.refl _) .nil)))))<|zq (cs := [.raw (.slice none 0 0), .raw (.slice none 0 0), .raw (.slice none 0 0)]) zeroValue26 rfl rfl<|fun i1 => zm sizeOf26 rfl rfl rfl rfl rfl rfl .head rfl<|zd (y9 (t := 1) rfl .head)<|z6<|zSr<|z2 (zk isAgg26 sizeOf26 rfl rfl)<|z2 (y5 (cps := [(0, [_]), (1, [_])]) (rs := [_, _]) pl74 rfl rfl rfl)<|zw (rows := [[_, _]]) ps41_1 rfl rfl rfl rfl rfl<|ze (ha) rfl<|z2 (zMb rfl)<|z8 rfl rfl rfl<|z2 (zk isAgg26 sizeOf26 rfl rfl)<|z8 rfl rfl rfl<|z2 (y5 (cps := [(0, [_]), (1, [_])]) (rs := [_, _]) pl74 rfl rfl rfl)<|z8 rfl rfl rfl<|zw (rows := [[_, _]]) ps41_1 rfl rfl rfl rfl rfl<|z8 rfl rfl rfl<|ze (hb) rfl<|z2 (zPt rfl rfl rfl)<|z2 (zMb rfl)<|z8 rfl rfl rfl<|z2 (zk isAgg26 sizeOf26 rfl rfl)<|z8 rfl rfl rfl<|z2 (y5 (cps := [(0, [_]), (1, [_])]) (rs := [_, _]) pl74 rfl rfl rfl) ?_
 refine z8 rfl rfl rfl<|zw (rows := [[_, _]]) ps41_1 rfl rfl rfl rfl rfl<|z8 rfl rfl rfl<|ze (hc) rfl<|z8 rfl rfl rfl<|z2 (yd rfl)<|z2 (zPt rfl rfl rfl)<|z2 (zAb rfl)<|z6<|zf<|zj (x := .bool _) rfl ?_
 rfl
end Go.Proofs.YtjnpcfpecilejaaGreatDoor
namespace Go.Proofs.YtjnpcfpecilejaaGreatDoor
open Go.Proofs.Tryz
open Go.Proofs Go.Lib Go.Shelf Go.RowKit
variable {E : World}
set_option maxRecDepth 20000
theorem upB_eq {f : PFunc} {l : List Rng} {s : Int} {d : List Bnd} : upB f l s d = (decide (upC f l s d) && refB f l true s d) := rfl
theorem loB_eq {f : PFunc} {l : List Rng} {d : List Bnd} : loB f l d = (decide (loC f l d) && refB f l false f.vars.length d) := by
 have h1 : shutU f (f.vars.length : Int) = fun _ => false := funext fun v => by unfold shutU; rw [qv (by omega)]; rfl
 have h2 : lowU f l (f.vars.length : Int) = (false, 0) := if_neg (by omega)
 unfold loB refB
 rw [h1, h2]
set_option maxHeartbeats 4000000 in
theorem tableBounds_law (f : PFunc) (hw : wFunc f) (hN : ∀ b ∈ f.blocks, ∀ x ∈ b.insts, is64 x.num) (hL : Letters E) (l : List Rng) (ho : ∀ r ∈ l, ok64 r) (hl : l.length ≤ 9223372036854775807) (s : Int) (d : List Bnd) (hd : ∀ b ∈ d, is64 b.2) (hdl : d.length ≤ 9223372036854775807) :
  AFun prog E 10 [.agg (encF f), .fro 2 (l.map encZ), .int .i64 s, .fro 2 (d.map encBd)] (.bool true) := by
 have hlv := lives27K_spec (E := E) hL
 refine zo func10 rfl (by decide) rfl<|zSr<|y7 (cs := _) rfl rfl rfl<|z2 (zAb rfl)<|z6<|za<|zSr<|ze (hlv) rfl<|z2 (yd rfl)<|z2 (zMb rfl)<|z8 rfl rfl rfl<|z2 (zk isAgg26 sizeOf26 rfl rfl)<|z8 rfl rfl rfl<|ze (fewT_spec f hw) rfl<|z8 rfl rfl rfl<|z2 (yd rfl)<|z2 (zPf rfl rfl rfl)<|z2 (zMb rfl)<|zl (s := 19) rfl (fun cf=>?_) (fun cf=>?_)
 ·refine z7 rfl rfl cf<|z7 rfl rfl cf<|z7 rfl rfl cf<|z2 (zPt rfl cf rfl)<|z2 (zMb rfl)<|z7 rfl rfl rfl<|z7 rfl rfl rfl<|z7 rfl rfl rfl<|z2 (zPt rfl rfl rfl)<|z6<|yr rfl rfl<|zSr<|ze (hlv) rfl<|z2 (zAb rfl)<|z6<|zf<|zj (x := .bool _) rfl ?_
  rfl
 ·have hfew : fewB f = true := by cases h : fewB f; rw [h] at cf; simp at cf; rfl
  have hsm := ((fewB_iff f).1 hfew).small
  have hvn := hsm.1
  refine z8 rfl rfl cf<|z2 (zMf rfl)<|z8 rfl rfl cf<|z2 (zz underlying41 rfl)<|z8 rfl rfl cf<|z2 (yv rfl rfl)<|z2 (zPf rfl cf rfl)<|z2 (zMb rfl)<|zl (s := 24) rfl (fun cl=>?_) (fun cl=>?_)
  ·refine z7 rfl rfl cl<|z7 rfl rfl cl<|z7 rfl rfl cl<|z2 (zPt rfl cl rfl)<|z6<|yr rfl rfl<|zSr<|ze (hlv) rfl<|z2 (zAb rfl)<|z6<|zf<|zj (x := .bool _) rfl ?_
   rfl
  ·have hl2 : l.length ≤ 120 := by have h : ¬ (120 : Int) < l.length := (by simpa using cl); omega
   refine z8 rfl rfl cl<|z2 (zMf rfl)<|z8 rfl rfl cl<|z2 (zz underlying85 rfl)<|z8 rfl rfl cl<|z2 (yv rfl rfl)<|z2 (zPf rfl cl rfl)<|z6<|zr rfl (fun cd=>?_) (fun cd=>?_)
   ·refine zSr<|ze (hlv) rfl<|z2 (zAb rfl)<|z6<|zf<|zj (x := .bool _) rfl ?_
    rfl
   ·have hd2 : d.length ≤ 120 := by have h : ¬ (120 : Int) < d.length := (by simpa using cd); omega
    refine zc<|za<|y1 (fun j => false) (by kernel_rfl) rfl (zn (.rest _))<|zTk 0 rfl (zk isAgg26 sizeOf26 rfl rfl)<|zTk 1 rfl (zMf rfl)<|zTk 2 rfl (zMi rfl)<|zTk 3 rfl (zMf rfl)<|zTk 5 rfl (zk isAgg26 sizeOf26 rfl rfl)<|zTk 6 rfl (zMf rfl)<|zTk 7 rfl (zMf rfl)<|zOn 4 rfl<|ze (tUpper_spec f hsm hL hN l ho hl s d hd hdl) rfl<|z6<|zOn 8 rfl<|ze (tLower_spec f hsm hL hN l ho hl d hd hdl) rfl<|z6<|zTk 9 rfl (zAb rfl)<|zTk 10 rfl (zAb rfl)<|zDn<|zSr<|z2 (zFF underlying26 rfl sizeOf22 rfl rfl)<|z2 (zLf isAgg22 rfl)<|z2 (zz underlying22 rfl)<|z2 (zAi rfl)<|z6 ?_
    obtain ⟨ub, hub⟩ : ∃ x, upB f l s d = x := ⟨_, rfl⟩
    obtain ⟨lb, hlb⟩ : ∃ x, loB f l d = x := ⟨_, rfl⟩
    have hu := upB_eq (f := f) (l := l) (s := s) (d := d)
    have hlo := loB_eq (f := f) (l := l) (d := d)
    rw [hub] at hu
    rw [hlb] at hlo
    rw [hub, hlb]
    refine za<|za<|yc (γ := Bool) [1, 2, 3, 4, 9, 10, 11] (fun u => [(57, .bool u)]) (fun u => []) (fun u => u = !decide (loC f l d)) ?_ (fun _ _ h => h) ?_
    ·refine zRg<|z2 (zk isAgg26 sizeOf26 rfl rfl)<|ze (lawSingle_spec f hw hL) rfl<|z2 (yd rfl)<|z2 (zMb rfl)<|zl (s := 45) rfl (fun cs=>?_) (fun cs=>?_)
     ·have hs : (typedB f && singB f) = false := by have h : lawSing f = false := (by cases h : lawSing f; rfl; rw [h] at cs; simp at cs); unfold lawSing at h; rw [hfew] at h; exact h
      refine z7 rfl rfl cs<|z7 rfl rfl cs<|z7 rfl rfl cs<|z7 rfl rfl cs<|z2 (zPt rfl cs rfl)<|z2 (zMb rfl)<|z7 rfl rfl rfl<|z7 rfl rfl rfl<|z7 rfl rfl rfl<|z7 rfl rfl rfl<|z7 rfl rfl rfl<|z2 (zPt rfl rfl rfl)<|z6 ?_
      exact ⟨_, zR7, zR1, zLe, by rw [qv (fun h => by have h1 := h.1; rw [hs] at h1; cases h1)]; rfl⟩
     ·have hs : (typedB f && singB f) = true := by have h : lawSing f = true := (by cases h : lawSing f; rw [h] at cs; simp at cs; rfl); unfold lawSing at h; rw [hfew] at h; exact h
      refine z8 rfl rfl cs<|z2 (zMf rfl)<|z8 rfl rfl cs<|z2 (zz underlying41 rfl)<|z8 rfl rfl cs<|z2 (zMi rfl)<|z8 rfl rfl cs<|z2 (yi rfl rfl)<|z2 (zPf rfl cs rfl)<|z2 (zMb rfl)<|zl (s := 51) rfl (fun cn=>?_) (fun cn=>?_)
      ·have hne : ¬ l.length = f.vars.length := by intro e; rw [e] at cn; simp at cn
       refine z7 rfl rfl cn<|z7 rfl rfl cn<|z7 rfl rfl cn<|z7 rfl rfl cn<|z7 rfl rfl cn<|z2 (zPt rfl cn rfl)<|z6 ?_
       exact ⟨_, zR7, zR1, zLe, by rw [qv (fun h => hne h.2.1)]; rfl⟩
      ·have hll : l.length = f.vars.length := by have h : (!decide ((l.length : Int) = (f.vars.length : Int))) = false := cn; simp at h; omega
       refine z8 rfl rfl cn<|z2 (zMf rfl)<|z8 rfl rfl cn<|z2 (zz underlying85 rfl)<|z8 rfl rfl cn<|z2 (zMi rfl)<|z8 rfl rfl cn<|z2 (zAd rfl rfl)<|z8 rfl rfl cn<|z2 (yi rfl rfl)<|z2 (zPf rfl cn rfl)<|z6 ?_
       exact ⟨_, zR7, zR1, zLe, by congr 1; exact decide_eq_decide.2 ⟨fun h => ⟨hs, hll, by omega⟩, fun h => by have := h.2.2; omega⟩⟩
    ·rintro u hu2
     subst hu2
     refine zr rfl (fun c=>?_) (fun c=>?_)
     ·have hc := notdecT c
      have hu0 : ub = false := by rw [hu, qv (fun h => hc ⟨h.1, h.2.1, h.2.2.1⟩)]; rfl
      have hl0 : lb = false := by rw [hlo, qv hc]; rfl
      rw [hu0, hl0]
      refine zSr<|z2 (zMb rfl)<|z2 (yd rfl)<|z2 (zMb rfl)<|z8 rfl rfl rfl<|z2 (zMb rfl)<|z8 rfl rfl rfl<|z2 (yd rfl)<|z2 (zPt rfl rfl rfl)<|z2 (zAb rfl)<|z6<|zf<|zj (x := .bool _) rfl ?_
      rfl
     ·have hc := notdecF c
      obtain ⟨hs, hll, hdl2⟩ := id hc
      have hF := ruleF_of hsm hs
      have hl1 : lb = refB f l false f.vars.length d := by rw [hlo, qu hc]; rfl
      have hrl := refBounds_spec (E := E) f hF hs hN l ho hll false f.vars.length ⟨by omega, by omega⟩ d hd hdl2
      rw [show sgn false = -1 from rfl, ← hl1] at hrl
      refine zc<|za<|za<|y1 (fun j => false) (by kernel_rfl) rfl (zn (.rest _))<|zTk 0 rfl (zMb rfl)<|zTk 1 rfl (zk isAgg26 sizeOf26 rfl rfl)<|zTk 2 rfl (zMf rfl)<|zTk 4 rfl (zMi rfl)<|zTk 5 rfl (zMf rfl)<|zOn 3 rfl<|ze (refs_spec l (by omega)) rfl<|z6<|zOn 6 rfl<|ze (marks_spec d (by omega)) rfl<|z6<|zOn 7 rfl<|ze (hrl) rfl<|z6<|zTk 8 rfl (Gv.neqB underlying4 rfl rfl)<|zDn<|yh rfl (by simp)<|zc<|za<|za<|yc (γ := Bool) [1, 2, 3, 4, 9] (fun u => [(93, .bool u)]) (fun u => []) (fun u => u = !decide (upC f l s d)) ?_ (fun _ _ h => h) ?_
      ·refine zRg<|z2 (zMi rfl)<|z2 (y8 rfl rfl)<|z2 (zMb rfl)<|zl (s := 75) rfl (fun c1=>?_) (fun c1=>?_)
       ·have h1 : s < 0 := qz c1
        refine z7 rfl rfl c1<|z7 rfl rfl c1<|z7 rfl rfl c1<|z2 (zPt rfl c1 rfl)<|z2 (zMb rfl)<|z7 rfl rfl rfl<|z7 rfl rfl rfl<|z7 rfl rfl rfl<|z7 rfl rfl rfl<|zb rfl rfl<|zb rfl rfl<|zb rfl rfl<|zb rfl rfl<|zb rfl rfl<|zb rfl rfl<|zb rfl rfl<|z7 rfl rfl rfl<|z2 (zPt rfl rfl rfl)<|z6 ?_
        exact ⟨_, zR5, zR1, zLe, by rw [qv (fun h => by have := h.2.2.2.1; omega)]; rfl⟩
       ·have h1 : ¬ s < 0 := w3 c1
        refine z8 rfl rfl c1<|z2 (zMi rfl)<|z8 rfl rfl c1<|z2 (zMi rfl)<|z8 rfl rfl c1<|z2 (yv rfl rfl)<|z2 (zPf rfl c1 rfl)<|z2 (zMb rfl)<|zl (s := 80) rfl (fun c2=>?_) (fun c2=>?_)
        ·have h2 : (f.vars.length : Int) < s := qz c2
         refine z7 rfl rfl c2<|z7 rfl rfl c2<|z7 rfl rfl c2<|z7 rfl rfl c2<|zb rfl rfl<|zb rfl rfl<|zb rfl rfl<|zb rfl rfl<|zb rfl rfl<|zb rfl rfl<|zb rfl rfl<|z7 rfl rfl c2<|z2 (zPt rfl c2 rfl)<|z6 ?_
         exact ⟨_, zR5, zR1, zLe, by rw [qv (fun h => by have := h.2.2.2.2.1; omega)]; rfl⟩
        ·have h2 : ¬ (f.vars.length : Int) < s := w3 c2
         refine z8 rfl rfl c2<|z2 (zMi rfl)<|z8 rfl rfl c2<|z2 (zMi rfl)<|z8 rfl rfl c2<|z2 (y8 rfl rfl)<|z8 rfl rfl c2<|z2 (zMb rfl)<|zl (s := 84) rfl (fun c3=>?_) (fun c3=>?_)
         ·have h5 : s < f.vars.length := qz c3
          have hty : tyV f s = f.vars[s.toNat].ty := by have := tyV_get (f := f) (v := s.toNat) (by omega); rwa [qy (by omega)] at this
          refine z8 rfl rfl c3<|z2 (zFF underlying26 rfl sizeOf22 rfl rfl)<|z8 rfl rfl c3<|z2 (zLf isAgg22 rfl)<|z8 rfl rfl c3<|z2 (zMi rfl)<|z8 rfl rfl c3<|z2 (zIM s.toNat underlying22 sizeOf56 rfl rfl (by omega) (qj (by omega)))<|z8 rfl rfl c3<|z2 (zFF underlying56 rfl sizeOf54 rfl rfl)<|z8 rfl rfl c3<|z2 (zLi isAgg54 rfl)<|z8 rfl rfl c3<|z2 (yi rfl rfl)<|z8 rfl rfl c2<|z2 (zPt rfl c3 rfl)<|z2 (zPf rfl c2 rfl)<|z6 ?_
          exact ⟨_, zR5, zR1, zLe, by rw [← hty]; congr 1; exact decide_eq_decide.2 ⟨fun h => ⟨hs, hll, hdl2, by omega, by omega, fun _ => h⟩, fun h => h.2.2.2.2.2 h5⟩⟩
         ·have h5 : ¬ s < f.vars.length := w3 c3
          refine z7 rfl rfl c3<|z7 rfl rfl c3<|z7 rfl rfl c3<|z7 rfl rfl c3<|z7 rfl rfl c3<|z7 rfl rfl c3<|z7 rfl rfl c3<|z8 rfl rfl c2<|z2 (zPf rfl c3 rfl)<|z2 (zPf rfl c2 rfl)<|z6 ?_
          exact ⟨_, zR5, zR1, zLe, by rw [qu (show upC f l s d from ⟨hs, hll, hdl2, by omega, by omega, fun h => absurd h h5⟩)]; rfl⟩
      ·rintro u hu2
       subst hu2
       refine zr rfl (fun c4=>?_) (fun c4=>?_)
       ·have hu0 : ub = false := by rw [hu, qv (notdecT c4)]; rfl
        rw [hu0]
        refine zSr<|z2 (zMb rfl)<|z2 (yd rfl)<|z2 (zAb rfl)<|z6<|zf<|zj (x := .bool _) rfl ?_
        rfl
       ·have hcu := notdecF c4
        have hu1 : ub = refB f l true s d := by rw [hu, qu hcu]; rfl
        have hru := refBounds_spec (E := E) f hF hs hN l ho hll true s ⟨hcu.2.2.2.1, hcu.2.2.2.2.1⟩ d hd hdl2
        rw [show sgn true = 1 from rfl, ← hu1] at hru
        refine zc<|za<|y1 (fun j => false) (by kernel_rfl) rfl (zn (.rest _))<|zTk 0 rfl (zMb rfl)<|zTk 1 rfl (zk isAgg26 sizeOf26 rfl rfl)<|zTk 2 rfl (zMf rfl)<|zTk 4 rfl (zMi rfl)<|zTk 5 rfl (zMf rfl)<|zOn 3 rfl<|ze (refs_spec l (by omega)) rfl<|z6<|zOn 6 rfl<|ze (marks_spec d (by omega)) rfl<|z6<|zOn 7 rfl<|ze (hru) rfl<|z6<|zTk 8 rfl (Gv.eqlB underlying4 rfl rfl)<|zTk 9 rfl (zAb rfl)<|zDn<|zf<|zj (x := .bool _) rfl ?_
        exact jb (by simp)
end Go.Proofs.YtjnpcfpecilejaaGreatDoor
namespace Go.Proofs.YtjnpcfpecilejaaGreatDoor
open Go.Proofs.Tryz
open Go.Proofs Go.Lib Go.Shelf Go.RowKit Go.WideShapes
set_option maxRecDepth 20000
variable {W : World}
theorem decI : Dec prog W 3 encI (fun x => (Lit.int .i64 x).wf = true) := Dec.int underlying3
theorem decIs : Dec prog W 23 (fun l : List Int => [.fro 1 (l.map encI)]) wL := fun en held fuel cs x h => by
 obtain ⟨l, hl, r⟩ := Dec.slice (k := 1) underlying23 decI (by kernel_rfl) (by decide) en held fuel cs x h
 exact ⟨l, hl.2, r⟩
theorem decVar : Dec prog W 56 encVar (fun _ => True) := fun en held fuel cs x h => by
 obtain ⟨xs, n, _, _, hl, hxl, hf⟩ := DataW.trod_struct underlying56 h
 have hl : cs.length = 2 := hl.trans (by kernel_rfl)
 have hxl : xs.length = 2 := hxl
 obtain ⟨a, _, ra⟩ := qh (o := 0) (k := 1) (hf 0 _ rfl) (Dec.str underlying9) (by omega) rfl (by kernel_rfl)
 obtain ⟨b, _, rb⟩ := qh (o := 1) (k := 1) (hf 1 _ rfl) (Dec.int underlying54) (by omega) rfl (by kernel_rfl)
 exact ⟨⟨a, b⟩, trivial, q5 (o := 0) ra (q5 rb (RepL.fin hl))⟩
theorem decPhi : Dec prog W 95 encPhi wPhi := fun en held fuel cs x h => by
 obtain ⟨xs, n, _, _, hl, hxl, hf⟩ := DataW.trod_struct underlying95 h
 have hl : cs.length = 3 := hl.trans (by kernel_rfl)
 have hxl : xs.length = 3 := hxl
 obtain ⟨a, _, ra⟩ := qh (o := 0) (k := 1) (hf 0 _ rfl) decI (by omega) rfl (by kernel_rfl)
 obtain ⟨b, hb, rb⟩ := qh (o := 1) (k := 1) (hf 1 _ rfl) decIs (by omega) rfl (by kernel_rfl)
 obtain ⟨c, hc, rc⟩ := qh (o := 2) (k := 1) (hf 2 _ rfl) decIs (by omega) rfl (by kernel_rfl)
 exact ⟨⟨a, b, c⟩, ⟨hb, hc⟩, q5 (o := 0) ra (q5 rb (q5 rc (RepL.fin hl)))⟩
def wInst (x : PInst) : Prop := wL x.args ∧ (Lit.int .i64 x.num).wf = true
theorem decInst : Dec prog W 33 encInst wInst := fun en held fuel cs x h => by
 obtain ⟨xs, n, _, _, hl, hxl, hf⟩ := DataW.trod_struct underlying33 h
 have hl : cs.length = 4 := hl.trans (by kernel_rfl)
 have hxl : xs.length = 4 := hxl
 obtain ⟨a, _, ra⟩ := qh (o := 0) (k := 1) (hf 0 _ rfl) (Dec.int underlying31) (by omega) rfl (by kernel_rfl)
 obtain ⟨b, _, rb⟩ := qh (o := 1) (k := 1) (hf 1 _ rfl) decI (by omega) rfl (by kernel_rfl)
 obtain ⟨c, hc, rc⟩ := qh (o := 2) (k := 1) (hf 2 _ rfl) decIs (by omega) rfl (by kernel_rfl)
 obtain ⟨d, hd, rd⟩ := qh (o := 3) (k := 1) (hf 3 _ rfl) (Dec.int underlying2) (by omega) rfl (by kernel_rfl)
 exact ⟨⟨a, b, c, d⟩, ⟨hc, hd⟩, q5 (o := 0) ra (q5 rb (q5 rc (q5 rd (RepL.fin hl))))⟩
theorem decTerm : Dec prog W 64 encTerm (fun _ => True) := fun en held fuel cs x h => by
 obtain ⟨xs, n, _, _, hl, hxl, hf⟩ := DataW.trod_struct underlying64 h
 have hl : cs.length = 4 := hl.trans (by kernel_rfl)
 have hxl : xs.length = 3 := hxl
 obtain ⟨a, _, ra⟩ := qh (o := 0) (k := 1) (hf 0 _ rfl) (Dec.int underlying61) (by omega) rfl (by kernel_rfl)
 obtain ⟨b, _, rb⟩ := qh (o := 1) (k := 1) (hf 1 _ rfl) decI (by omega) rfl (by kernel_rfl)
 obtain ⟨c, _, rc⟩ := qh (o := 2) (k := 2) (hf 2 _ rfl) (Dec.pair (k := 1) underlying62 decI (by kernel_rfl) (by kernel_rfl)) (by omega) rfl (by kernel_rfl)
 exact ⟨⟨a, b, c.1, c.2⟩, trivial, q5 (o := 0) ra (q5 rb (q5 rc (RepL.fin hl)))⟩
def NumsI (f : PFunc) : Prop := ∀ b ∈ f.blocks, ∀ x ∈ b.insts, is64 x.num
def wBlkN (b : PBlock) : Prop := wBlk b ∧ ∀ x ∈ b.insts, -9223372036854775808 ≤ x.num ∧ x.num ≤ 9223372036854775807
theorem decBlkN : Dec prog W 66 encBlk wBlkN := fun en held fuel cs x h => by
 obtain ⟨xs, n, _, _, hl, hxl, hf⟩ := DataW.trod_struct underlying66 h
 have hl : cs.length = 7 := hl.trans (by kernel_rfl)
 have hxl : xs.length = 4 := hxl
 obtain ⟨a, _, ra⟩ := qh (o := 0) (k := 1) (hf 0 _ rfl) (Dec.str underlying9) (by omega) rfl (by kernel_rfl)
 obtain ⟨b, hb, rb⟩ := qh (o := 1) (k := 1) (hf 1 _ rfl) (Dec.slice (k := 3) underlying59 decPhi (by kernel_rfl) (by decide)) (by omega) rfl (by kernel_rfl)
 obtain ⟨c, hc, rc⟩ := qh (o := 2) (k := 1) (hf 2 _ rfl) (Dec.slice (k := 4) underlying60 decInst (by kernel_rfl) (by decide)) (by omega) rfl (by kernel_rfl)
 obtain ⟨d, _, rd⟩ := qh (o := 3) (k := 4) (hf 3 _ rfl) decTerm (by omega) rfl (by kernel_rfl)
 exact ⟨⟨a, b, c, d⟩, ⟨⟨hb.2, hc.2, hb.1, fun x hx => (hc.1 x hx).1⟩, fun x hx => by simpa [Lit.wf, IntKind.min, IntKind.max, IntKind.signed, IntKind.bits] using (hc.1 x hx).2⟩, q5 (o := 0) ra (q5 rb (q5 rc (q5 rd (RepL.fin hl))))⟩
theorem decFN : Dec prog W 26 encF (fun f => wFunc f ∧ NumsI f) := fun en held fuel cs x h => by
 obtain ⟨xs, n, _, _, hl, hxl, hf⟩ := DataW.trod_struct underlying26 h
 have hl : cs.length = 3 := hl.trans (by kernel_rfl)
 have hxl : xs.length = 3 := hxl
 obtain ⟨a, ha, ra⟩ := qh (o := 0) (k := 1) (hf 0 _ rfl) (Dec.slice (k := 2) underlying22 decVar (by kernel_rfl) (by decide)) (by omega) rfl (by kernel_rfl)
 obtain ⟨b, hb, rb⟩ := qh (o := 1) (k := 1) (hf 1 _ rfl) decIs (by omega) rfl (by kernel_rfl)
 obtain ⟨c, hc, rc⟩ := qh (o := 2) (k := 1) (hf 2 _ rfl) (Dec.slice (k := 7) underlying24 decBlkN (by kernel_rfl) (by decide)) (by omega) rfl (by kernel_rfl)
 exact ⟨⟨a, b, c⟩, ⟨⟨ha.2, hb, hc.2, fun x hx => (hc.1 x hx).1⟩, fun x hx => (hc.1 x hx).2⟩, q5 (o := 0) ra (q5 rb (q5 rc (RepL.fin hl)))⟩
theorem decRng : Dec prog W 74 encZ ok64 := fun en held fuel cs x h => by
 obtain ⟨xs, n, _, _, hl, hxl, hf⟩ := DataW.trod_struct underlying74 h
 have hl : cs.length = 2 := hl.trans (by kernel_rfl)
 have hxl : xs.length = 2 := hxl
 obtain ⟨a, ha, ra⟩ := qh (o := 0) (k := 1) (hf 0 _ rfl) (Dec.int underlying2) (by omega) rfl (by kernel_rfl)
 obtain ⟨b, hb, rb⟩ := qh (o := 1) (k := 1) (hf 1 _ rfl) (Dec.int underlying2) (by omega) rfl (by kernel_rfl)
 exact ⟨(a, b), ⟨by simpa [is64, Lit.wf, IntKind.min, IntKind.max, IntKind.signed, IntKind.bits] using ha, by simpa [is64, Lit.wf, IntKind.min, IntKind.max, IntKind.signed, IntKind.bits] using hb⟩, q5 (o := 0) ra (q5 rb (RepL.fin hl))⟩
theorem decRngs : Dec prog W 41 (fun l : List Rng => [.fro 2 (l.map encZ)]) (fun l => (∀ r ∈ l, ok64 r) ∧ l.length ≤ 9223372036854775807) := fun en held fuel cs x h =>
 Dec.slice (k := 2) underlying41 decRng (by kernel_rfl) (by decide) en held fuel cs x h
theorem of_slice {H : Type} {enc : TypeId × Value → H} {held : Bool} {α : Type} {T e : TypeId} {k : Nat} {g : α → List (List AV)} {ok : α → Prop} {base : Nat} {v : Value} {d : DataW H} {p : List MemPlace} (hd : Dec prog W T (fun a => [.fro k (g a)]) ok) (ht : prog.underlying T = some (.slice e))
  (hv : Value.okWide prog W .any base T v) (h : DataW.Trod enc prog W 0 (fun _ => true) held T v d p) : ∃ a, ok a ∧ RepV (I0 W) (.fro k (g a)) v := by
 obtain ⟨a, len, cap, rfl⟩ := okWide_slice ht hv
 obtain ⟨fuel, h⟩ := h
 obtain ⟨a, h1, v, _, e, h2, h3⟩ := hd enc held fuel _ _ h
 cases e
 exact ⟨a, h1, h2⟩
theorem of_num {H : Type} {enc : TypeId × Value → H} {held : Bool} {T : TypeId} {base : Nat} {v : Value} {d : DataW H} {p : List MemPlace} (ht : prog.underlying T = some (.int .i64))
  (hv : Value.okWide prog W .any base T v) (h : DataW.Trod enc prog W 0 (fun _ => true) held T v d p) : ∃ n : Int, is64 n ∧ v = .int .i64 n := by
 obtain ⟨n, rfl⟩ := okWide_int ht hv
 obtain ⟨fuel, h⟩ := h
 obtain ⟨m, h1, h2⟩ := Dec.int ht enc held fuel _ _ h
 obtain ⟨v, _, e, h2, h3⟩ := h2
 cases e
 cases h2
 exact ⟨n, by simpa [is64, Lit.wf, IntKind.min, IntKind.max, IntKind.signed, IntKind.bits] using h1, rfl⟩
theorem of_struct {H : Type} {enc : TypeId × Value → H} {held : Bool} {α : Type} {T : TypeId} {e : α → List AV} {ok : α → Prop} {fs : Array Field} {base : Nat} {v : Value} {d : DataW H} {p : List MemPlace} (hd : Dec prog W T e ok) (ht : prog.underlying T = some (.struct fs))
  (hv : Value.okWide prog W .any base T v) (h : DataW.Trod enc prog W 0 (fun _ => true) held T v d p) : ∃ a, ok a ∧ RepV (I0 W) (.agg (e a)) v := by
 obtain ⟨cs, rfl, _⟩ := okWide_struct ht hv
 obtain ⟨fuel, h⟩ := h
 obtain ⟨a, h1, h2⟩ := hd enc held fuel _ _ h
 exact ⟨a, h1, cs.toList, by simp, h2⟩
theorem xTab : RExtra prog Tryz.lays200_ren := ⟨by kernel_rfl, by kernel_rfl, by kernel_rfl, by kernel_rfl, by kernel_rfl, by kernel_rfl, by kernel_rfl, by kernel_rfl⟩
theorem letters_of (h : Lib.VarReads prog W "unicode.properties" (Lib.tabData .u8 Lib.propertiesTab)) (h2 : Lib.VarReads prog W "unicode.Letter" (Lib.rtabData letterT)) : Letters W :=
 ⟨tabIs_of_reads (g := 0) (by kernel_rfl) (by kernel_rfl) underlying296 underlying5 (by kernel_rfl) (by kernel_rfl) h,
  rvar_of_reads { Tryz.lays200 with } xTab (name := "unicode.Letter") (g := 1) (by kernel_rfl) (by kernel_rfl) h2⟩
end Go.Proofs.YtjnpcfpecilejaaGreatDoor
namespace Go.Proofs.YtjnpcfpecilejaaGreatDoor
open Go.Proofs.Tryz
open Go.Proofs
theorem fMay : prog.mayEnter = true := by kernel_rfl
theorem fLift : (Rows.tableBoundsRow.lifted == prog.liftsFinal) = true := by kernel_rfl
theorem fMake : (prog.make == some Rows.tableBoundsRow.make) = true := by kernel_rfl
theorem fLaid : laidOutB prog = true := by kernel_rfl
theorem fRow : mapsRowed prog = true := by kernel_rfl
theorem fStop : (prog.stops == []) = true := by kernel_rfl
theorem fKnob : (prog.stopKnobs == []) = true := by kernel_rfl
theorem fKeys : (Rows.tableBoundsRow.plainKeys == prog.plainKeys) = true := by kernel_rfl
theorem fHeard : prog.stopsHeard = true := by kernel_rfl
theorem gIn : (Rows.tableBoundsRow.inPlace == prog.inPlace 10) = true := by kernel_rfl
theorem gUn : (Rows.tableBoundsRow.unfollowed == prog.unfollowed 10) = true := by kernel_rfl
theorem gRec : (Rows.tableBoundsRow.recurses == prog.recurses 10) = true := by kernel_rfl
theorem gNam : (Rows.tableBoundsRow.named == prog.varsNamed 10) = true := by kernel_rfl
theorem closed : joinedFacts prog 10 Tryz.f10 Rows.tableBoundsSpec Rows.tableBoundsRow = true := by
 unfold joinedFacts
 rw [fLaid, fRow, fStop, fKnob, gIn, gUn, gRec, gNam, fKeys, fHeard, fMay, fLift, fMake]
 kernel_rfl
end Go.Proofs.YtjnpcfpecilejaaGreatDoor
namespace Go.Proofs.YtjnpcfpecilejaaGreatDoor
open Go.Proofs.Tryz
open Go.Proofs Go.Lib Go.Shelf Go.RowKit Go.WideShapes
set_option maxRecDepth 20000
variable {W : World}
theorem decBnd : Dec prog W 142 encBd (fun b => is64 b.2) := fun en held fuel cs x h => by
 obtain ⟨xs, n, _, _, hl, hxl, hf⟩ := DataW.trod_struct underlying142 h
 have hl : cs.length = 2 := hl.trans (by kernel_rfl)
 have hxl : xs.length = 2 := hxl
 obtain ⟨a, ha, ra⟩ := qh (o := 0) (k := 1) (hf 0 _ rfl) (Dec.bool underlying4) (by omega) rfl (by kernel_rfl)
 obtain ⟨b, hb, rb⟩ := qh (o := 1) (k := 1) (hf 1 _ rfl) (Dec.int underlying2) (by omega) rfl (by kernel_rfl)
 exact ⟨(a, b), by simpa [is64, Lit.wf, IntKind.min, IntKind.max, IntKind.signed, IntKind.bits] using hb, q5 (o := 0) ra (q5 rb (RepL.fin hl))⟩
theorem decBnds : Dec prog W 85 (fun l : List Bnd => [.fro 2 (l.map encBd)]) (fun l => (∀ b ∈ l, is64 b.2) ∧ l.length ≤ 9223372036854775807) := fun en held fuel cs x h =>
 Dec.slice (k := 2) underlying85 decBnd (by kernel_rfl) (by decide) en held fuel cs x h
end Go.Proofs.YtjnpcfpecilejaaGreatDoor
