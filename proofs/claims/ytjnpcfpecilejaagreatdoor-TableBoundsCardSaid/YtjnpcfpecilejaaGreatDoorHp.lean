/- A table of edges, read. Of programs that are little. -/
import Derived.Test.YtjnpcfpecilejaaGreatDoorHo
import Derived.Test.YtjnpcfpecilejaaGreatDoorHk
import Derived.Test.YtjnpcfpecilejaaGreatDoorHn
import Derived.Test.YtjnpcfpecilejaaGreatDoorHe
set_option linter.unusedVariables false
set_option linter.unusedSimpArgs false
set_option linter.unusedSectionVars false
namespace Go.Proofs.YtjnpcfpecilejaaGreatDoor
open Go.Proofs.Tryz
open Go.Proofs Go.Lib Go.Shelf Go.RowKit
theorem pl146 : Places prog 146 #[(0, 1), (1, 1), (2, 1), (3, 1), (4, 1), (5, 2), (7, 1)] [.bool false, .int .i64 0, .raw (.slice none 0 0), .raw (.map none), .raw (.map none), .bool false, .int .i64 0, .raw (.slice none 0 0)] := ⟨_, _, underlying146, zeroValue146, fun w => by kernel_rfl, rfl⟩
theorem ps42_1 : PlacesS prog 42 53 1 3 [.int .i64 0, .int .i64 0, .int .i64 0] := ⟨_, underlying42, sizeOf53, zeroValue53, by decide, by decide, by kernel_rfl⟩
variable {E : World}
set_option maxRecDepth 20000
def begO (up : Bool) (s : Int) (rows : List (List Ejk)) (d : List Bnd) (low : Bnd) (P S : List (Int × AV)) (g : Nat × Nat × Nat) : OL :=
 [(g.1, .cells 146 (sideC up s (intoA rows) g.2.1 g.2.2 low (.fro 2 (d.map encBd)))), (0, mapAO g.2.1 P), (0, mapAO g.2.2 S)]
theorem tBegin_spec (f : PFunc) (hf : small f) (es : List Ejk) (hel : es.length ≤ 80000000) (hto : ∀ e ∈ es, 0 ≤ e.2.1 ∧ e.2.1 ≤ f.vars.length) (s : Int) (up : Bool) (d : List Bnd) :
  ACall prog E 79 [.agg (encF f), .fro 3 (es.map encE), .int .i64 s, .bool up, .fro 2 (d.map encBd)] [] fun y O => ∃ g : Nat × Nat × Nat, y = .po g.1 0 ∧ O = begO up s (rowsE es (f.vars.length + 1)) d (false, 0) (phMapL (phsTo f f.blocks.length)) [] g ∧ True := by
 have hvn := hf.1
 have hn := hf.2.2.1
 refine ACall.exact (γ := Nat × Nat × Nat) (x := fun g => .po g.1 0) (M := fun g => begO up s (rowsE es (f.vars.length + 1)) d (false, 0) (phMapL (phsTo f f.blocks.length)) [] g) (p := fun _ => True)<|zo func79 rfl (by decide) rfl<|zSr<|y7 (cs := _) rfl rfl rfl<|z2 (zAr rfl)<|z6<|zSr<|z2 (zMb rfl)<|z2 (zMi rfl)<|z2 (zFF underlying26 rfl sizeOf22 rfl rfl)<|z2 (zLf isAgg22 rfl)<|z2 (zz underlying22 rfl)<|z2 (zAd rfl rfl)<|yb (m := f.vars.length + 1) underlying51 type42 rfl rfl rfl rfl rfl (by simp) (by simp) (by show (24 : Int) * _ ≤ _; omega) (by omega) eE 53<|fun b24 => AOps.makeMapA<|fun b25 => AOps.makeMapA<|fun b26 => z2 (zMf rfl)<|z2 (y5 (cps := [(0, [_]), (1, [_]), (2, [_]), (3, [_]), (4, [_]), (6, [_])]) (rs := [_, _, _, _, _, .bool false, .int .i64 0, _]) pl146 rfl rfl rfl)<|yn (cs := _) rfl rfl rfl rfl<|fun i29 => z2 (zAp rfl)<|z6<|yf (zg (zi .t2))<|yf (zg (zi .t1))<|za<|zSr<|z2 (zMf rfl)<|z2 (zz underlying42 rfl)<|z2 (zMi rfl)<|z6<|zh<|y6 (γ := Nat) [5, 11, 30, 31] (fun k => [(32, .int .i64 k)]) (fun k => [(i29, .cells 146 (sideC up s (nref b24 (f.vars.length + 1)) b25 b26 (false, 0) (.fro 2 (d.map encBd)))), (0, mapAO b25 ([])), (0, mapAO b26 []), (0, nestO eE 42 53 b24 (rowsE (es.take k) (f.vars.length + 1)))]) (fun k => k ≤ es.length) (fun k => es.length - k) 0 zR1 ⟨_, (.refl _), by rw [List.take_zero, ← rowsE_nil]; rfl⟩ (qm _) ?_
 rintro k hk
 refine zSr<|z2 (y8 rfl rfl)<|z6<|za<|zp rfl (fun ck=>?_) (fun ck=>?_)
 ·have hk2 : k < es.length := by simp at ck; omega
  obtain ⟨e, he⟩ : ∃ e, es[k] = e := ⟨_, rfl⟩
  have hge : es[k]? = some e := by rw [qj hk2, he]
  have het := hto e (he ▸ qn hk2)
  have hev : e.2.1 = ((e.2.1.toNat : Nat) : Int) := (qy het.1).symm
  obtain ⟨es1, hes1⟩ : ∃ es1, es.take k = es1 := ⟨_, rfl⟩
  have hes2 : es.take (k + 1) = es1 ++ [e] := by rw [qk hk2, he, hes1]
  have hl1 : es1.length ≤ 80000000 := by rw [← hes1, List.length_take]; omega
  have hrl := rowsE_len es1 (f.vars.length + 1)
  have hrg := rowsE_get (es := es1) (m := f.vars.length + 1) (v := e.2.1.toNat) (by omega)
  have hil := intoE_len es1 ((e.2.1.toNat : Nat) : Int)
  have hpu := rowsE_push (es := es1) (m := f.vars.length + 1) hev
  rw [hes1]
  refine zc<|za<|zh<|zSr<|z2 (zIM k underlying42 sizeOf53 rfl rfl rfl hge)<|z2 (zk isAgg53 sizeOf53 rfl rfl)<|zq (cs := [.int .i64 0, .int .i64 0, .int .i64 0]) zeroValue53 rfl rfl<|fun i13 => zm sizeOf53 rfl rfl rfl rfl rfl rfl .head rfl<|zd (y9 (t := 13) rfl .head)<|z6<|yc (γ := Unit) [5, 11, 30, 31, 32] (fun w => []) (fun w => [(i29, .cells 146 (sideC up s (nref b24 (f.vars.length + 1)) b25 b26 (false, 0) (.fro 2 (d.map encBd)))), (0, mapAO b25 ([])), (0, mapAO b26 []), (0, nestO eE 42 53 b24 (rowsE (es1 ++ [e]) (f.vars.length + 1)))]) (fun w => True) ?_ (fun _ _ h => h) ?_
  ·refine y1 (fun j => Nat.beq j 18) (by kernel_rfl) rfl (zn (.r (.rest _)))<|zTk 0 rfl (zMp rfl)<|zTk 1 rfl (ya rfl)<|zTk 2 rfl (zu underlying146 rfl sizeOf51 (by decide) rfl rfl)<|zTk 3 rfl (zy (c := nref _ _) isAgg51 rfl ⟨_, .head⟩ rfl)<|zTk 4 rfl (zFF underlying53 rfl sizeOf3 rfl rfl)<|zTk 5 rfl (zLi isAgg3 rfl)<|zTk 6 rfl (zMp rfl)<|zTk 7 rfl (ya rfl)<|zTk 8 rfl (zu underlying146 rfl sizeOf51 (by decide) rfl rfl)<|zTk 9 rfl (zy (c := nref _ _) isAgg51 rfl ⟨_, .head⟩ rfl)<|zTk 10 rfl (zFF underlying53 rfl sizeOf3 rfl rfl)<|zTk 11 rfl (zLi isAgg3 rfl)<|zTk 12 rfl (qf (j := e.2.1.toNat) underlying51 sizeOf42 rfl rfl (by omega) (by omega))<|zTk 14 rfl (zk isAgg53 sizeOf53 rfl rfl)<|yk (i := 13) (j := 15) rfl rfl (by kernel_rfl) ?_ ?_
   ·refine q6 (j := e.2.1.toNat) (r := intoE es1 ((e.2.1.toNat : Nat) : Int)) isAgg42 rfl hrg (fun _ => .t2)<|fun i49 => z6<|zOn 15 rfl<|zw (rows := [[_, _, _]]) ps42_1 rfl rfl rfl rfl rfl<|z6<|zOn 16 rfl<|yl (k := 3) underlying42 type53 rfl rfl rfl rfl rfl (fun _ => .head) (by rw [eE.av_len]; rfl) (by decide) rfl (by show (_ + 1) * 24 ≤ _; omega) (by show _ + 1 ≤ _; omega)<|fun i52 => z6<|zTk 17 rfl (qf (j := e.2.1.toNat) underlying51 sizeOf42 rfl rfl (by omega) (by omega))<|yw<|q4 (i := 18) rfl (by kernel_rfl) (by kernel_rfl)<|qc (j := e.2.1.toNat) (r := intoE es1 ((e.2.1.toNat : Nat) : Int) ++ [e]) sizeOf42 rfl rfl (by omega) .t1 .t3 rfl (eE.av_push _ _) (by simp)<|z6<|yz (by kernel_rfl) ?_
    exact ⟨(), zR5, trivial, ⟨_, (.refl _), (by rw [← hpu])⟩, trivial⟩
   ·refine zw (rows := [[_, _, _]]) ps42_1 rfl rfl rfl rfl rfl<|z6<|zOn 13 rfl<|q6 (j := e.2.1.toNat) (r := intoE es1 ((e.2.1.toNat : Nat) : Int)) isAgg42 rfl hrg (fun _ => .t2)<|fun i49 => z6<|zOn 16 rfl<|yl (k := 3) underlying42 type53 rfl rfl rfl rfl rfl (fun _ => .head) (by rw [eE.av_len]; rfl) (by decide) rfl (by show (_ + 1) * 24 ≤ _; omega) (by show _ + 1 ≤ _; omega)<|fun i52 => z6<|zTk 17 rfl (qf (j := e.2.1.toNat) underlying51 sizeOf42 rfl rfl (by omega) (by omega))<|yw<|q4 (i := 18) rfl (by kernel_rfl) (by kernel_rfl)<|qc (j := e.2.1.toNat) (r := intoE es1 ((e.2.1.toNat : Nat) : Int) ++ [e]) sizeOf42 rfl rfl (by omega) .t1 .t3 rfl (eE.av_push _ _) (by simp)<|z6<|yz (by kernel_rfl) ?_
    exact ⟨(), zR5, trivial, ⟨_, (.refl _), (by rw [← hpu])⟩, trivial⟩
  ·rintro _ _
   refine zRg<|z2 (zAd rfl rfl)<|z2 (zMi rfl)<|z6 ?_
   exact ⟨k + 1, zR4, zR1, ⟨_, (.refl _), by rw [hes2]⟩, hk2, by omega⟩
 ·have hkn : k = es.length := by simp at ck; omega
  subst hkn
  rw [qo]
  refine y4<|za<|zSr<|z2 (zFF underlying26 rfl sizeOf24 rfl rfl)<|z2 (zLf isAgg24 rfl)<|z2 (zz underlying24 rfl)<|z2 (zMi rfl)<|z6<|zh<|y6 (γ := Nat) [11, 56, 57] (fun k => [(58, .int .i64 k)]) (fun k => [(i29, .cells 146 (sideC up s (nref b24 (f.vars.length + 1)) b25 b26 (false, 0) (.fro 2 (d.map encBd)))), (0, mapAO b25 (phMapL (phsTo f k))), (0, mapAO b26 []), (0, nestO eE 42 53 b24 (rowsE (es) (f.vars.length + 1)))]) (fun k => k ≤ f.blocks.length) (fun k => f.blocks.length - k) 0 zR1 zLe (qm _) ?_
  rintro k hk
  refine zSr<|z2 (y8 rfl rfl)<|z6<|za<|zp rfl (fun ck=>?_) (fun ck=>?_)
  ·have hk2 : k < f.blocks.length := by simp at ck; omega
   obtain ⟨b, hbk⟩ : ∃ b, f.blocks[k] = b := ⟨_, rfl⟩
   have hget : f.blocks[k]? = some b := by rw [qj hk2, hbk]
   have hmem : b ∈ f.blocks := hbk ▸ qn hk2
   obtain ⟨hb0, hb1, hb2, hb3, hb4⟩ := hf.2.2.2.2 b hmem
   refine zc<|za<|zh<|zSr<|z2 (zIM k underlying24 sizeOf66 rfl rfl rfl hget)<|z2 (zk isAgg66 sizeOf66 rfl rfl)<|zq (cs := [.str ⟨#[]⟩, .raw (.slice none 0 0), .raw (.slice none 0 0), .int .i64 0, .int .i64 0, .int .i64 0, .int .i64 0]) zeroValue66 rfl rfl<|fun i15 => zm sizeOf66 rfl rfl rfl rfl rfl rfl .head rfl<|zd (y9 (t := 15) rfl .head)<|z6<|zSr<|z2 (zFF underlying66 rfl sizeOf59 rfl rfl)<|z2 (zLf isAgg59 rfl)<|z2 (zz underlying59 rfl)<|z2 (zMi rfl)<|z6<|zh<|y6 (γ := Nat) [11, 56, 57, 58, 63, 64] (fun j => [(65, .int .i64 j)]) (fun j => [(i29, .cells 146 (sideC up s (nref b24 (f.vars.length + 1)) b25 b26 (false, 0) (.fro 2 (d.map encBd)))), (0, mapAO b25 (phMapL (phsTo f k ++ phsIn k (b.phis.take j)))), (0, mapAO b26 []), (0, nestO eE 42 53 b24 (rowsE (es) (f.vars.length + 1)))]) (fun j => j ≤ b.phis.length) (fun j => b.phis.length - j) 0 zR1 ⟨_, (.refl _), by rw [show phsIn k (b.phis.take 0) = [] from rfl, qt]⟩ (qm _) ?_
   rintro j hj
   refine zSr<|z2 (y8 rfl rfl)<|z6<|za<|zp rfl (fun cj=>?_) (fun cj=>?_)
   ·have hj2 : j < b.phis.length := by simp at cj; omega
    obtain ⟨p, hp⟩ : ∃ p, b.phis[j] = p := ⟨_, rfl⟩
    have hsn := phsIn_succ (i := k) hj2
    rw [hp] at hsn
    refine zc<|za<|zh<|zSr<|z2 (zIM j underlying59 sizeOf95 rfl rfl rfl (by rw [qj hj2, hp]))<|z2 (zk isAgg95 sizeOf95 rfl rfl)<|zq (cs := [.int .i64 0, .raw (.slice none 0 0), .raw (.slice none 0 0)]) zeroValue95 rfl rfl<|fun i17 => zm sizeOf95 rfl rfl rfl rfl rfl rfl .head rfl<|zd (y9 (t := 17) rfl .head)<|z6<|y1 (fun j => false) (by kernel_rfl) rfl (zn (.r (.rest _)))<|zTk 0 rfl (zMp rfl)<|zTk 1 rfl (ya rfl)<|zTk 2 rfl (zu underlying146 rfl sizeOf143 (by decide) rfl rfl)<|zTk 3 rfl (zy (c := mref _) isAgg143 rfl ⟨_, .head⟩ rfl)<|zTk 4 rfl (zFF underlying95 rfl sizeOf3 rfl rfl)<|zTk 5 rfl (zLi isAgg3 rfl)<|zTk 6 rfl (zk isAgg95 sizeOf95 rfl rfl)<|zOn 7 rfl<|AOps.mapSetA (v := .agg _) underlying143 underlying3 rfl rfl rfl .head<|z6<|zDn<|zRg<|z2 (zAd rfl rfl)<|z2 (zMi rfl)<|z6 ?_
    exact ⟨j + 1, zR6, zR1, ⟨_, (.refl _), (by rw [hsn, ← ql, phMapL_snoc] <;> rfl)⟩, hj2, by omega⟩
   ·have hjn : j = b.phis.length := by simp at cj; omega
    subst hjn
    refine y4<|zRg<|z2 (zAd rfl rfl)<|z2 (zMi rfl)<|z6 ?_
    exact ⟨k + 1, zR3, zR1, ⟨_, (.refl _), by rw [qo, phsTo_succ hk2, hbk]; rfl⟩, hk2, by omega⟩
  ·have hkn : k = f.blocks.length := by simp at ck; omega
   subst hkn
   refine y4<|zSr<|z2 (zMp rfl)<|z2 (zAp rfl)<|z6<|yf (GStep.nestKnowC (off := 2) .t3 .head rfl (rowsE_len _ _))<|zf<|zj (x := .po _ _) rfl ?_
   exact ⟨(i29, b25, b26), rfl, ⟨_, .refl _, rfl⟩, trivial⟩
theorem tClose_spec (f : PFunc) (hf : small f) (hL : Letters E) (ht : typedB f = true) (s : Nat) (hs : s < f.vars.length) (up : Bool) (I D : AV) (bp bs : Nat) (low : Bnd) (i : Nat) :
  ACall prog E 80 [.po i 0, .agg (encF f)] [(i, .cells 146 (sideC up s I bp bs low D)), (0, mapAO bs [])] fun y O => y = .tup [] ∧ O = [(i, .cells 146 (sideC up s I bp bs low D)), (0, mapAO bs (if 0 ≤ (makerT f s).1 then shMap f (makerT f s).1 (phsTo f f.blocks.length) else []))] := by
 have hn := hf.2.2.1
 have hE := typedB_ends ht
 refine ACall.now2<|zo func80 rfl (by decide) rfl<|zSr<|y7 (cs := _) rfl rfl rfl<|z6<|zSr<|z2 (zk isAgg26 sizeOf26 rfl rfl)<|ze (New_spec f hf hL ht) rfl<|z2 (zMu rfl)<|z2 (yy (v := .pf _) rfl rfl)<|z2 (zXi rfl rfl)<|z2 (ye (v := .pf _) rfl)<|z2 (zAi rfl)<|z6<|za<|yc (γ := Nat) [0, 3, 4, 5] (fun z => [(6, .po z 0)]) (fun z => [(i, .cells 146 (sideC up s I bp bs low D)), (z, .cells 109 (eP.row (makerT f s))), (0, mapAO bs [])]) (fun z => True) ?_ (fun _ _ h => h) ?_
 ·refine y1 (fun j => false) (by kernel_rfl) rfl (zn (.r (.rest _)))<|zTk 0 rfl (zk isAgg26 sizeOf26 rfl rfl)<|zTk 2 rfl (zMp rfl)<|zTk 3 rfl (ya rfl)<|zTk 4 rfl (zu underlying146 rfl sizeOf3 (by decide) rfl rfl)<|zTk 5 rfl (zy (c := .int _ _) isAgg3 rfl ⟨_, .head⟩ rfl)<|yk (i := 1) (j := 8) rfl rfl (by kernel_rfl) ?_ ?_
  ·refine ze (Makers_spec f hf hL ht) rfl<|z6<|zTk 6 rfl (zIM s underlying102 sizeOf109 rfl rfl rfl (makersT_get hs))<|zTk 7 rfl (zk isAgg109 sizeOf109 rfl rfl)<|zOn 8 rfl<|zq (cs := [.int .i64 0, .int .i64 0]) zeroValue109 rfl rfl<|fun i6 => z6<|zOn 9 rfl<|zm sizeOf109 rfl rfl rfl rfl rfl rfl .head rfl<|z6<|zDn ?_
   exact ⟨i6, zR4, zR1, zLe, trivial⟩
  ·refine zq (cs := [.int .i64 0, .int .i64 0]) zeroValue109 rfl rfl<|fun i6 => z6<|zOn 1 rfl<|ze (Makers_spec f hf hL ht) rfl<|z6<|zTk 6 rfl (zIM s underlying102 sizeOf109 rfl rfl rfl (makersT_get hs))<|zTk 7 rfl (zk isAgg109 sizeOf109 rfl rfl)<|zOn 9 rfl<|zm sizeOf109 rfl rfl rfl rfl rfl rfl .head rfl<|z6<|zDn ?_
   exact ⟨i6, zR4, zR1, zLe, trivial⟩
 ·rintro z _
  refine yf (y9 (t := 6) rfl .t1) ?_
  obtain ⟨a, ha⟩ : ∃ a, (makerT f s).1 = a := ⟨_, rfl⟩
  refine za<|zSr<|z2 (zMi rfl)<|z2 (yi rfl rfl)<|z2 (zMb rfl)<|z8 rfl rfl rfl<|z2 (zFF underlying109 rfl sizeOf3 rfl rfl)<|z8 rfl rfl rfl<|z2 (zLi isAgg3 rfl)<|z8 rfl rfl rfl<|z2 (y8 rfl rfl)<|z2 (zPf rfl rfl rfl)<|z6<|zp rfl (fun cm=>?_) (fun cm=>?_)
  ·have hm : ¬ 0 ≤ (makerT f s).1 := by omega
   refine zf<|ym ?_
   exact ⟨rfl, by rw [if_neg hm]; exact .d0⟩
  ·have hm : 0 ≤ (makerT f s).1 := by omega
   rw [if_pos hm]
   refine zc<|zSr<|z2 (zFF underlying26 rfl sizeOf24 rfl rfl)<|z2 (zLf isAgg24 rfl)<|z2 (zz underlying24 rfl)<|z2 (zMi rfl)<|z6<|zh<|y6 (γ := Nat) [0, 4, 6, 32, 33] (fun k => [(34, .int .i64 k)]) (fun k => [(i, .cells 146 (sideC up s I bp bs low D)), (0, mapAO bs (shMap f (makerT f s).1 (phsTo f k)))]) (fun k => k ≤ f.blocks.length) (fun k => f.blocks.length - k) 0 zR1 zLe (qm _) ?_
   rintro k hk
   refine zSr<|z2 (y8 rfl rfl)<|z6<|za<|zp rfl (fun ck=>?_) (fun ck=>?_)
   ·have hk2 : k < f.blocks.length := by simp at ck; omega
    obtain ⟨b, hbk⟩ : ∃ b, f.blocks[k] = b := ⟨_, rfl⟩
    have hget : f.blocks[k]? = some b := by rw [qj hk2, hbk]
    have hmem : b ∈ f.blocks := hbk ▸ qn hk2
    obtain ⟨hb0, hb1, hb2, hb3, hb4⟩ := hf.2.2.2.2 b hmem
    refine zc<|za<|zh<|zSr<|z2 (zMi rfl)<|z2 (zIM k underlying24 sizeOf66 rfl rfl rfl hget)<|z2 (zk isAgg66 sizeOf66 rfl rfl)<|zq (cs := [.str ⟨#[]⟩, .raw (.slice none 0 0), .raw (.slice none 0 0), .int .i64 0, .int .i64 0, .int .i64 0, .int .i64 0]) zeroValue66 rfl rfl<|fun i8 => z2 (zAi rfl)<|zm sizeOf66 rfl rfl rfl rfl rfl rfl .head rfl<|zd (y9 (t := 8) rfl .head)<|z6<|zSr<|z2 (zFF underlying66 rfl sizeOf59 rfl rfl)<|z2 (zLf isAgg59 rfl)<|z2 (zz underlying59 rfl)<|z2 (zMi rfl)<|z6<|zh<|y6 (γ := Nat) [0, 4, 6, 7, 32, 33, 34, 40, 41] (fun j => [(42, .int .i64 j)]) (fun j => [(i, .cells 146 (sideC up s I bp bs low D)), (0, mapAO bs (shMap f (makerT f s).1 (phsTo f k ++ phsIn k (b.phis.take j))))]) (fun j => j ≤ b.phis.length) (fun j => b.phis.length - j) 0 zR1 ⟨_, (.refl _), by rw [show phsIn k (b.phis.take 0) = [] from rfl, qt]⟩ (qm _) ?_
    rintro j hj
    refine zSr<|z2 (y8 rfl rfl)<|z6<|za<|zp rfl (fun cj=>?_) (fun cj=>?_)
    ·have hj2 : j < b.phis.length := by simp at cj; omega
     obtain ⟨p, hp⟩ : ∃ p, b.phis[j] = p := ⟨_, rfl⟩
     have hsn := phsIn_succ (i := k) hj2
     rw [hp] at hsn
     have hsm := shMap_snoc f (makerT f s).1 (phsTo f k ++ phsIn k (b.phis.take j)) ((k : Int), p)
     refine zc<|za<|zh<|zSr<|z2 (zIM j underlying59 sizeOf95 rfl rfl rfl (by rw [qj hj2, hp]))<|z2 (zk isAgg95 sizeOf95 rfl rfl)<|zq (cs := [.int .i64 0, .raw (.slice none 0 0), .raw (.slice none 0 0)]) zeroValue95 rfl rfl<|fun i10 => zm sizeOf95 rfl rfl rfl rfl rfl rfl .head rfl<|zd (y9 (t := 10) rfl .head)<|z6<|za<|yc (γ := Bool) [0, 4, 6, 7, 10, 32, 33, 34, 40, 41, 42] (fun u => [(57, .bool u)]) (fun u => [(i, .cells 146 (sideC up s I bp bs low D)), (0, mapAO bs (shMap f (makerT f s).1 (phsTo f k ++ phsIn k (b.phis.take j))))]) (fun u => u = shutQ f (makerT f s).1 ((k : Int), p)) ?_ (fun _ _ h => h) ?_
     ·refine zRg<|z2 (zFF underlying109 rfl sizeOf3 rfl rfl)<|z2 (zLi isAgg3 rfl)<|z2 (zMi rfl)<|z2 (y3 rfl rfl)<|z2 (zMb rfl)<|zl (s := 50) rfl (fun c1=>?_) (fun c1=>?_)
      ·refine z7 rfl rfl c1<|z7 rfl rfl c1<|z7 rfl rfl c1<|z7 rfl rfl c1<|z7 rfl rfl c1<|z7 rfl rfl c1<|z2 (zPt rfl c1 rfl)<|z6 ?_
       exact ⟨_, zR11, zR1, zLe, by unfold shutQ; simp_all⟩
      ·refine z8 rfl rfl c1<|z2 (zMg rfl)<|z8 rfl rfl c1<|z2 (zFF underlying109 rfl sizeOf3 rfl rfl)<|z8 rfl rfl c1<|z2 (zLi isAgg3 rfl)<|z8 rfl rfl c1<|z2 (zMi rfl)<|z8 rfl rfl c1<|ze (Over_spec f hE hn (makerT f s).1 k _ _) rfl<|z8 rfl rfl c1<|z2 (yd rfl)<|z2 (zPf rfl c1 rfl)<|z6 ?_
       exact ⟨_, zR11, zR1, zLe, by unfold shutQ; simp_all⟩
     ·rintro u hu
      rw [← hu] at hsm
      refine zr rfl (fun cu=>?_) (fun cu=>?_)
      ·rw [show u = true from cu, if_pos rfl] at hsm
       refine y1 (fun j => false) (by kernel_rfl) rfl (zn (.r (.rest _)))<|zTk 0 rfl (zMp rfl)<|zTk 1 rfl (ya rfl)<|zTk 2 rfl (zu underlying146 rfl sizeOf144 (by decide) rfl rfl)<|zTk 3 rfl (zy (c := mref _) isAgg144 rfl ⟨_, .head⟩ rfl)<|zTk 4 rfl (zFF underlying95 rfl sizeOf3 rfl rfl)<|zTk 5 rfl (zLi isAgg3 rfl)<|zOn 6 rfl<|AOps.mapSetA (v := .int _ _) underlying144 underlying3 rfl rfl rfl .head<|z6<|zDn<|zRg<|z2 (zAd rfl rfl)<|z2 (zMi rfl)<|z6 ?_
       exact ⟨j + 1, zR9, zR1, ⟨_, (.refl _), (by rw [hsn, ← ql, hsm] <;> rfl)⟩, hj2, by omega⟩
      ·rw [show u = false from cu, if_neg (by decide)] at hsm
       refine zc<|zRg<|z2 (zAd rfl rfl)<|z2 (zMi rfl)<|z6 ?_
       exact ⟨j + 1, zR9, zR1, ⟨_, (.refl _), (by rw [hsn, ← ql, hsm] <;> rfl)⟩, hj2, by omega⟩
    ·have hjn : j = b.phis.length := by simp at cj; omega
     subst hjn
     refine y4<|zRg<|z2 (zAd rfl rfl)<|z2 (zMi rfl)<|z6 ?_
     exact ⟨k + 1, zR5, zR1, ⟨_, (.refl _), by rw [qo, phsTo_succ hk2, hbk]; rfl⟩, hk2, by omega⟩
   ·have hkn : k = f.blocks.length := by simp at ck; omega
    subst hkn
    refine y4<|ym ?_
    exact ⟨rfl, .d0⟩
end Go.Proofs.YtjnpcfpecilejaaGreatDoor
namespace Go.Proofs.YtjnpcfpecilejaaGreatDoor
open Go.Proofs.Tryz
open Go.Proofs Go.Lib Go.Shelf Go.RowKit
variable {E : World}
set_option maxRecDepth 20000
structure SideOk (f : PFunc) (es : List Ejk) (shut : Int → Bool) (d : List Bnd) (P S : List (Int × AV)) : Prop where
 small : small f
 shaped : ShapedP f
 len : d.length = f.vars.length + 1
 num : ∀ b ∈ d, is64 b.2
 edge : ∀ e ∈ es, 0 ≤ e.1 ∧ e.1 ≤ f.vars.length ∧ is64 e.2.2
 elen : es.length ≤ 80000000
 phi : ∀ v : Nat, v ≤ f.vars.length → ag v P = (phiF f v).map fun p => .agg (encPhi p)
 shut : ∀ (v : Nat) p, phiF f v = some p → (ag v S).getD (.int .i64 0) = .int .i64 (if shut v = true then 1 else 0)
def mapsO (bp bs : Nat) (P S : List (Int × AV)) : OL := [(0, mapAO bp P), (0, mapAO bs S)]
theorem bd_num {d : List Bnd} (h : ∀ b ∈ d, is64 b.2) (v : Int) : is64 (bd d v).2 := by
 unfold bd
 cases h2 : d[v.toNat]? with
 | none => exact ⟨by decide, by decide⟩
 | some b => exact h b (List.mem_of_getElem? h2)
set_option maxHeartbeats 4000000 in
theorem tNode_spec (f : PFunc) (up : Bool) (s : Int) (es : List Ejk) (shut : Int → Bool) (low : Bnd) (d : List Bnd) (bp bs : Nat) (P S : List (Int × AV)) (hO : SideOk f es shut d P S) (v : Nat) (hv : v ≤ f.vars.length) :
  ACall prog E 132 [.pf (sideC up s (intoA (rowsE es (f.vars.length + 1))) bp bs low (.fro 2 (d.map encBd))), .int .i64 v] (mapsO bp bs P S) fun y O => y = .bool (nodeB up s f.vars.length es (phiF f) shut low d v) ∧ O = mapsO bp bs P S := by
 have hf := hO.small
 have hvn := hf.1
 have hdl := hO.len
 have hP := hO.phi v hv
 have hgv := bd_get (d := d) (v := (v : Int)) (by omega) (by omega)
 have hcov := fun a b => tCov_spec (E := E) up s (intoA (rowsE es (f.vars.length + 1))) bp bs low (.fro 2 (d.map encBd)) a b
 have hsum := fun a n => tSum_spec (E := E) up s (intoA (rowsE es (f.vars.length + 1))) bp bs low (.fro 2 (d.map encBd)) a n
 have hphi := fun p hp hpl sh hS => tPhi_spec (E := E) up s (intoA (rowsE es (f.vars.length + 1))) bp bs low d v ⟨by omega, by omega⟩ p hp hpl S sh hS
 refine ACall.now2 ?_
 unfold mapsO
 unfold sideC at hcov hsum hphi ⊢
 refine zo func132 rfl (by decide) rfl<|zSr<|z2 (zAb rfl)<|z6<|za<|yc (γ := List AV) [0, 1] (fun w => [(5, .pf w), (6, .bool (phiF f v).isSome)]) (fun w => [(0, mapAO bp P), (0, mapAO bs S)]) (fun w => ∀ p, phiF f v = some p → w = encPhi p) ?_ (fun _ _ h => h) ?_
 ·rcases hph : phiF f v with _ | p
  ·rw [hph] at hP
   refine zRg<|z2 (zMg rfl)<|z2 (yq rfl)<|z2 (zFF underlying146 rfl sizeOf143 rfl rfl)<|z2 (yu (c := .raw _) isAgg143 rfl)<|z2 (zMi rfl)<|z2 (Gv.lookupA (zx := .agg [.int .i64 0, .raw (.slice none 0 0), .raw (.slice none 0 0)]) hP underlying143 underlying3 zeroValue95 (fun I => ⟨_, rfl, lit_reps I [.int .i64 0, .slice none 0 0, .slice none 0 0]⟩) rfl rfl ⟨_, .head⟩)<|z2 (zMu rfl)<|z2 (yy (v := .agg _) rfl rfl)<|z2 (zXb rfl rfl)<|zq (cs := [.int .i64 0, .raw (.slice none 0 0), .raw (.slice none 0 0)]) zeroValue95 rfl rfl<|fun i5 => zm sizeOf95 rfl rfl rfl rfl rfl rfl .head rfl<|zd (y9 (t := 5) rfl .head)<|z2 (zAb rfl)<|z6 ?_
   exact ⟨_, zR2, zR2, zLe, fun p h => by cases h⟩
  ·rw [hph] at hP
   refine zRg<|z2 (zMg rfl)<|z2 (yq rfl)<|z2 (zFF underlying146 rfl sizeOf143 rfl rfl)<|z2 (yu (c := .raw _) isAgg143 rfl)<|z2 (zMi rfl)<|z2 (Gv.lookupA (zx := .agg [.int .i64 0, .raw (.slice none 0 0), .raw (.slice none 0 0)]) hP underlying143 underlying3 zeroValue95 (fun I => ⟨_, rfl, lit_reps I [.int .i64 0, .slice none 0 0, .slice none 0 0]⟩) rfl rfl ⟨_, .head⟩)<|z2 (zMu rfl)<|z2 (yy (v := .agg _) rfl rfl)<|z2 (zXb rfl rfl)<|zq (cs := [.int .i64 0, .raw (.slice none 0 0), .raw (.slice none 0 0)]) zeroValue95 rfl rfl<|fun i5 => zm sizeOf95 rfl rfl rfl rfl rfl rfl .head rfl<|zd (y9 (t := 5) rfl .head)<|z2 (zAb rfl)<|z6 ?_
   exact ⟨_, zR2, zR2, zLe, fun p h => by cases h; rfl⟩
 ·rintro w hw
  refine za<|zh<|zSr<|z2 (zMi rfl)<|z2 (zMg rfl)<|z2 (yq rfl)<|z2 (zFF underlying146 rfl sizeOf3 rfl rfl)<|z2 (zLi isAgg3 rfl)<|z2 (y3 rfl rfl)<|z2 (zAb rfl)<|z6<|zp rfl (fun c0=>?_) (fun c0=>?_)
  ·refine zSr<|z2 (zMg rfl)<|z2 (yq rfl)<|z2 (zFF underlying146 rfl sizeOf85 rfl rfl)<|z2 (zLf isAgg85 rfl)<|z2 (zMi rfl)<|z2 (zIM v underlying85 sizeOf142 rfl rfl rfl hgv)<|z2 (zFF underlying142 rfl sizeOf4 rfl rfl)<|z2 (yu (c := .bool _) isAgg4 rfl)<|z2 (zMb rfl)<|zl (s := 33) rfl (fun cb=>?_) (fun cb=>?_)
   ·refine z8 rfl rfl cb<|z2 (zMg rfl)<|z8 rfl rfl cb<|z2 (zMg rfl)<|z8 rfl rfl cb<|z2 (yq rfl)<|z8 rfl rfl cb<|z2 (zFF underlying146 rfl sizeOf85 rfl rfl)<|z8 rfl rfl cb<|z2 (zLf isAgg85 rfl)<|z8 rfl rfl cb<|z2 (zMi rfl)<|z8 rfl rfl cb<|z2 (zIM v underlying85 sizeOf142 rfl rfl rfl hgv)<|z8 rfl rfl cb<|z2 (zk isAgg142 sizeOf142 rfl rfl)<|z8 rfl rfl cb<|z2 (y5 (cps := [(0, [_])]) (rs := [_, .int .i64 0]) pl142 rfl rfl rfl)<|z8 rfl rfl cb<|ze (hcov (bd d v) (true, 0)) rfl<|z2 (zPt rfl cb rfl)<|z2 (zAb rfl)<|z6<|zf<|zj (x := .bool _) rfl ?_
    exact ⟨jb (by unfold nodeB; rw [if_pos c0, show (bd d v).1 = true from cb]; rfl), .d0⟩
   ·refine z7 rfl rfl cb<|z7 rfl rfl cb<|z7 rfl rfl cb<|z7 rfl rfl cb<|z7 rfl rfl cb<|z7 rfl rfl cb<|z7 rfl rfl cb<|z7 rfl rfl cb<|z7 rfl rfl cb<|z7 rfl rfl cb<|z2 (zPf rfl cb rfl)<|z2 (zAb rfl)<|z6<|zf<|zj (x := .bool _) rfl ?_
    exact ⟨jb (by unfold nodeB; rw [if_pos c0, show (bd d v).1 = false from cb]; rfl), .d0⟩
  ·refine zSr<|z2 (zMg rfl)<|z2 (yq rfl)<|z2 (zFF underlying146 rfl sizeOf85 rfl rfl)<|z2 (zLf isAgg85 rfl)<|z2 (zMi rfl)<|z2 (zIM v underlying85 sizeOf142 rfl rfl rfl hgv)<|z2 (zFF underlying142 rfl sizeOf4 rfl rfl)<|z2 (yu (c := .bool _) isAgg4 rfl)<|z2 (yd rfl)<|z2 (zAb rfl)<|z6<|zr rfl (fun c1=>?_) (fun c1=>?_)
   ·refine zSr<|z2 (zAb rfl)<|z6<|zf<|zj (x := .bool _) rfl ?_
    exact ⟨jb (by unfold nodeB; rw [if_neg c0, if_pos (by simpa using c1)]), .d0⟩
   ·have c1f : ¬ (bd d v).1 = false := by simpa using c1
    refine zSr<|z2 (zMi rfl)<|z2 (zMg rfl)<|z2 (yq rfl)<|z2 (zFF underlying146 rfl sizeOf85 rfl rfl)<|z2 (zLf isAgg85 rfl)<|z2 (zz underlying85 rfl)<|z2 (Gv.sub rfl rfl (by unfold I64; omega))<|z2 (y3 rfl rfl)<|z2 (zAb rfl)<|z6<|zp rfl (fun c2=>?_) (fun c2=>?_)
    ·have hvn2 : (v : Int) = f.vars.length := by omega
     refine za<|y1 (fun j => false) (by kernel_rfl) rfl (zn (.rest _))<|zTk 0 rfl (zMg rfl)<|zTk 1 rfl (zMg rfl)<|zTk 2 rfl (yq rfl)<|zTk 3 rfl (zFF underlying146 rfl sizeOf85 rfl rfl)<|zTk 4 rfl (zLf isAgg85 rfl)<|zTk 5 rfl (zMi rfl)<|zTk 6 rfl (zIM v underlying85 sizeOf142 rfl rfl rfl hgv)<|zTk 7 rfl (zk isAgg142 sizeOf142 rfl rfl)<|zTk 8 rfl (zMg rfl)<|zTk 9 rfl (yq rfl)<|zTk 10 rfl (zFF underlying146 rfl sizeOf142 rfl rfl)<|zTk 11 rfl (Gv.loadAF (l := [_, _]) isAgg142 sizeOf142 rfl rfl rfl)<|zOn 12 rfl<|ze (hcov (bd d v) low) rfl<|z6<|zTk 13 rfl (zAb rfl)<|zDn<|zf<|zj (x := .bool _) rfl ?_
     exact ⟨jb (by unfold nodeB; rw [if_neg c0, if_neg c1f, if_pos hvn2]), .d0⟩
    ·have hvn2 : ¬ (v : Int) = f.vars.length := by omega
     refine zSr<|z2 (zMb rfl)<|z2 (zAb rfl)<|z6<|zr rfl (fun c3=>?_) (fun c3=>?_)
     ·obtain ⟨p, hp⟩ := Option.isSome_iff_exists.1 (show (phiF f v).isSome = true from c3)
      obtain ⟨i, b, hb, hpm, _, _, _⟩ := phi_got hp
      have hmem := List.mem_of_getElem? hb
      obtain ⟨hb0, hb1, hb2, hb3, hb4⟩ := hf.2.2.2.2 b hmem
      have hargs : ∀ a ∈ p.args, 0 ≤ a ∧ a < (d.length : Int) := fun a ha => by
       have := hasV_rng (List.all_eq_true.1 ((hO.shaped.2.2.2.2.2 b hmem).1 p hpm).2.2.2.1 a ha)
       omega
      rw [hw p hp]
      refine zSr<|z2 (zMg rfl)<|z2 (zMi rfl)<|z2 (zk isAgg95 sizeOf95 rfl rfl)<|zt rfl (zn (.r (.l (.rest _)))) (hphi p hargs (hb3 p hpm).1 (shut v) (hO.shut v p hp)) ?_
      rintro r82 O82 ⟨rfl, rfl⟩
      refine z2 (zAb rfl)<|z6<|yf (zg (zi .t1))<|zf<|zj (x := .bool _) rfl ?_
      exact ⟨jb (by unfold nodeB; rw [if_neg c0, if_neg c1f, if_neg hvn2, hp]), .d0⟩
     ·have hno : phiF f v = none := by cases h : phiF f v; rfl; (rw [h] at c3; cases c3)
      have hil := intoE_len es (v : Int)
      have hel := hO.elen
      refine zc<|za<|zSr<|z2 (zMg rfl)<|z2 (yq rfl)<|z2 (zFF underlying146 rfl sizeOf51 rfl rfl)<|z2 (zLf isAgg51 rfl)<|z2 (zMi rfl)<|z2 (zIM v underlying51 sizeOf42 rfl rfl rfl (rowsE_get (by omega)))<|z2 (zLf isAgg42 rfl)<|z2 (zz underlying42 rfl)<|z2 (zMi rfl)<|z6<|zh<|y6 (γ := Nat) [0, 1, 89, 90] (fun k => [(91, .int .i64 k)]) (fun k => [(0, mapAO bp P), (0, mapAO bs S)]) (fun k => k ≤ (intoE es v).length ∧ ((intoE es v).take k).any (covE up d v) = false) (fun k => (intoE es v).length - k) 0 zR1 zLe (⟨qm _, rfl⟩) ?_
      rintro k ⟨hk, hall⟩
      refine zSr<|z2 (y8 rfl rfl)<|z6<|za<|zp rfl (fun ck=>?_) (fun ck=>?_)
      ·have hk2 : k < (intoE es v).length := by simp at ck; omega
       obtain ⟨e, he⟩ : ∃ e, (intoE es v)[k] = e := ⟨_, rfl⟩
       have hem : e ∈ es := (List.mem_filter.1 (he ▸ qn hk2 : e ∈ intoE es v)).1
       have hee := hO.edge e hem
       refine zc<|za<|zh<|zSr<|z2 (zIM k underlying42 sizeOf53 rfl rfl rfl (by rw [qj hk2, he]))<|z2 (zk isAgg53 sizeOf53 rfl rfl)<|zq (cs := [.int .i64 0, .int .i64 0, .int .i64 0]) zeroValue53 rfl rfl<|fun i8 => zm sizeOf53 rfl rfl rfl rfl rfl rfl .head rfl<|zd (y9 (t := 8) rfl .head)<|z6<|za<|y1 (fun j => false) (by kernel_rfl) rfl (zn (.rest _))<|zTk 0 rfl (zMg rfl)<|zTk 1 rfl (zMg rfl)<|zTk 2 rfl (yq rfl)<|zTk 3 rfl (zFF underlying146 rfl sizeOf85 rfl rfl)<|zTk 4 rfl (zLf isAgg85 rfl)<|zTk 5 rfl (zMi rfl)<|zTk 6 rfl (zIM v underlying85 sizeOf142 rfl rfl rfl hgv)<|zTk 7 rfl (zk isAgg142 sizeOf142 rfl rfl)<|zTk 8 rfl (zMg rfl)<|zTk 9 rfl (zMg rfl)<|zTk 10 rfl (yq rfl)<|zTk 11 rfl (zFF underlying146 rfl sizeOf85 rfl rfl)<|zTk 12 rfl (zLf isAgg85 rfl)<|zTk 13 rfl (zFF underlying53 rfl sizeOf3 rfl rfl)<|zTk 14 rfl (zLi isAgg3 rfl)<|zTk 15 rfl (zIM e.1.toNat underlying85 sizeOf142 rfl rfl (by omega) (bd_get hee.1 (by omega)))<|zTk 16 rfl (zk isAgg142 sizeOf142 rfl rfl)<|zTk 17 rfl (zFF underlying53 rfl sizeOf2 rfl rfl)<|zTk 18 rfl (zLi isAgg2 rfl)<|zOn 19 rfl<|ze (hsum (bd d e.1) e.2.2 (bd_num hO.num e.1) hee.2.2) rfl<|z6<|zOn 20 rfl<|ze (hcov (bd d v) (sumBd up (bd d e.1) e.2.2)) rfl<|z6<|zDn<|zr rfl (fun cc=>?_) (fun cc=>?_)
       ·refine zSr<|z2 (zAb rfl)<|z6<|zf<|zj (x := .bool _) rfl ?_
        exact ⟨jb (by unfold nodeB; rw [if_neg c0, if_neg c1f, if_neg hvn2, hno]; exact (any_hit hk2 (by rw [he]; exact cc)).symm), .d0⟩
       ·refine zc<|zRg<|z2 (zAd rfl rfl)<|z2 (zMi rfl)<|z6 ?_
        exact ⟨k + 1, zR4, zR1, zLe, ⟨hk2, any_take hk2 hall (by rw [he]; exact cc)⟩, by omega⟩
      ·have hkn : k = (intoE es v).length := by simp at ck; omega
       rw [hkn, qo] at hall
       refine y4<|zSr<|z2 (zAb rfl)<|z6<|zf<|zj (x := .bool _) rfl ?_
       exact ⟨jb (by unfold nodeB; rw [if_neg c0, if_neg c1f, if_neg hvn2, hno, hall]), .d0⟩
end Go.Proofs.YtjnpcfpecilejaaGreatDoor
namespace Go.Proofs.YtjnpcfpecilejaaGreatDoor
open Go.Proofs.Tryz
open Go.Proofs
theorem encZ_any {I J : G} {r : Rng} {v : Value} (h : RepV J (.agg (encZ r)) v) : RepV I (.agg (encZ r)) v := by
 obtain ⟨vs, rfl, a, _, rfl, h1, b, _, rfl, h2, h3⟩ := h
 exact ⟨_, rfl, a, _, rfl, h1, b, _, rfl, h2, h3⟩
end Go.Proofs.YtjnpcfpecilejaaGreatDoor
namespace Go.Proofs.YtjnpcfpecilejaaGreatDoor
open Go.Proofs.Tryz
open Go.Proofs
theorem knowLP {I : G} {F : List (Nat × Obj)} {E w : World} {i : Nat} {T : TypeId} {cs : List AV} (h : SLA I [(i, .cells T cs)] F E w) :
  ∃ J L, I.le J ∧ RepOs I [(i, .cells T cs)] L ∧ SL I.k (L ++ F) E w ∧ (∀ y ∈ L, J.k y.1 = some y.2) ∧ SLA J [] F E w ∧ ∀ v, RepV I (.po i 0) v → RepV J (.pf cs) v := by
 obtain ⟨ht, L, hL, hS⟩ := h
 have hL0 := hL
 obtain ⟨A, B, hp, ⟨b, c, vs, e1, hvs, hvc, hA⟩, hB⟩ := hL
 have hB : B = [] := hB
 simp only at e1
 rw [hB, qt] at hp
 subst hp
 subst hA
 obtain ⟨hl, hS3⟩ := SL.freeze (by simpa using hS : SL I.k ((b, .cells vs.toArray T (0, 0)) :: F) E w)
 let J : G := ⟨I.k.put b (.cells vs.toArray T (0, 0)), I.h⟩
 have hle : I.le J := ⟨hl, fun _ _ h => h⟩
 have hb : J.k b = some (.cells vs.toArray T (0, 0)) := Ghost.put_same _ _ _
 refine ⟨J, _, hle, hL0, hS, fun y hy => (by rw [List.mem_singleton.1 hy]; exact hb), ⟨ht, [], rfl, by simpa using hS3⟩, ?_⟩
 rintro v ⟨b2, c2, e2, rfl⟩
 rw [e1] at e2
 simp only [Option.some.injEq, Prod.mk.injEq] at e2
 obtain ⟨rfl, rfl⟩ := e2
 exact ⟨b, 0, vs, rfl, RepL.mono hle _ _ hvs, fun j u hj => ⟨_, _, _, hb, by rw [Nat.zero_add, List.getElem?_toArray]; exact hj⟩⟩
theorem ACall.lendP {P : Program} {E : World} {f : FuncId} {rest : List AV} {x : AV} {i : Nat} {T : TypeId} {cs : List AV} (hx : ∀ (I J : G) v, RepV J x v → RepV I x v)
  (h : AFun P E f (.pf cs :: rest) x) : ACall P E f (.po i 0 :: rest) [(i, .cells T cs)] fun y O => y = x ∧ O = [(i, .cells T cs)] := fun I F w vs h1 h2 => by
 obtain ⟨J, L, hle, hL, hS, hf, hJ, hv⟩ := knowLP h2
 obtain ⟨v1, us, rfl, r1, r2⟩ := h1
 refine (h J F w _ ⟨v1, us, rfl, hv v1 r1, RepL.mono hle _ _ r2⟩ hJ).mono fun v w' ⟨J2, y, O', a, b, c, d⟩ => ?_
 have d : y = x := d
 subst d
 obtain ⟨_, L', _, hS'⟩ := c
 refine ⟨I, y, _, .refl _, hx I J2 v b, ⟨h2.1, L, hL, ?_⟩, rfl, rfl⟩
 refine ⟨hS'.os, hS'.output, hS'.tape, fun b o hb => hS'.pers b o (a.k b o (hle.k b o hb)), fun z hz => ?_, hS.nodup, hS.apart, hS.base, hS.flat, hS.oflat⟩
 rcases List.mem_append.1 hz with hz | hz
 ·exact hS'.pers _ _ (a.k _ _ (hf z hz))
 ·exact hS'.own z (List.mem_append_right _ hz)
theorem bool_any {I J : G} {b : Bool} {v : Value} (h : RepV J (.bool b) v) : RepV I (.bool b) v := h
theorem tup2_any {I J : G} {k : IntKind} {n : Int} {b : Bool} {v : Value} (h : RepV J (.tup [.int k n, .bool b]) v) : RepV I (.tup [.int k n, .bool b]) v := by
 obtain ⟨vs, rfl, a, _, rfl, h1, b, _, rfl, h2, h3⟩ := h
 exact ⟨_, rfl, a, _, rfl, h1, b, _, rfl, h2, h3⟩
end Go.Proofs.YtjnpcfpecilejaaGreatDoor
namespace Go.Proofs.YtjnpcfpecilejaaGreatDoor
open Go.Proofs.Tryz
open Go.Proofs Go.Lib Go.Shelf Go.RowKit
variable {E : World}
set_option maxRecDepth 20000
def tblL (f : PFunc) (l : List Rng) (up : Bool) (X : AV) : List AV := encF f ++ [treeT f, .fro 2 (l.map encZ), .int .i64 f.vars.length, .bool up, X]
theorem tof_spec (f : PFunc) (hS : ShapedP f) (l : List Rng) (hll : l.length = f.vars.length) (up : Bool) (X : AV) {a : Int} (ha : hasV f a = true) : AFun prog E 198 [.pf (tblL f l up X), .int .i64 a] (.agg (encZ (ofR f l a))) := by
 obtain ⟨ha0, ha1⟩ := hasV_rng ha
 obtain ⟨y, hy, hyt, hy0, hy2⟩ := ty_get hS ha
 refine zo func198 rfl (by decide) rfl<|zSr<|zq (cs := [.int .i64 0, .int .i64 0]) zeroValue74 rfl rfl<|fun i4 => z6<|za<|y1 (fun j => Nat.beq j 18) (by kernel_rfl) rfl (zn (.rest _))<|zTk 0 rfl (zMg rfl)<|zTk 1 rfl (yq rfl)<|zTk 2 rfl (zFF underlying171 rfl sizeOf41 rfl rfl)<|zTk 3 rfl (zLf isAgg41 rfl)<|zTk 4 rfl (zMi rfl)<|zTk 5 rfl (zIM a.toNat underlying41 sizeOf74 rfl rfl (by omega) (lv_get (by omega)))<|zTk 6 rfl (zk isAgg74 sizeOf74 rfl rfl)<|zTk 7 rfl (zMg rfl)<|zTk 8 rfl (yq rfl)<|zTk 9 rfl (zFF underlying171 rfl sizeOf26 rfl rfl)<|zTk 10 rfl (zFF underlying26 rfl sizeOf22 rfl rfl)<|zTk 11 rfl (zLf isAgg22 rfl)<|zTk 12 rfl (zMi rfl)<|zTk 13 rfl (zIM a.toNat underlying22 sizeOf56 rfl rfl (by omega) hy)<|zTk 14 rfl (zFF underlying56 rfl sizeOf54 rfl rfl)<|zTk 15 rfl (zLi isAgg54 rfl)<|zOn 16 rfl<|ze (iType _) rfl<|z6<|zOn 17 rfl<|ze (iMeet _ _) rfl<|z6<|yw<|q4 (i := 18) rfl (by kernel_rfl) (by kernel_rfl)<|zm sizeOf74 rfl rfl rfl rfl rfl rfl .head rfl<|z6<|yz (by kernel_rfl)<|zf<|q0 rfl ⟨_, .head⟩ isAgg74 sizeOf74 rfl ?_
 unfold ofR; rw [← hyt]; rfl
theorem told_spec (r : Rng) (n : Int) : AFun prog E 199 [.agg (encZ r), .int .i64 n] (.bool (toldB r n)) := by
 refine zo func199 rfl (by decide) rfl<|zSr<|y7 (cs := _) rfl rfl rfl<|z2 (zAb rfl)<|z6<|zSr<|z2 (zk isAgg74 sizeOf74 rfl rfl)<|ze (iEmpty _) rfl<|z2 (yd rfl)<|z2 (zMb rfl)<|zl (s := 8) rfl (fun c1=>?_) (fun c1=>?_)
 ·refine z8 rfl rfl c1<|z2 (zMi rfl)<|z8 rfl rfl c1<|z2 (yi rfl rfl)<|z2 (zPt rfl c1 rfl)<|z2 (zMb rfl)<|zl (s := 12) rfl (fun c2=>?_) (fun c2=>?_)
  ·refine z8 rfl rfl c2<|z2 (zMi rfl)<|z8 rfl rfl c2<|z2 (yi rfl rfl)<|z2 (zPt rfl c2 rfl)<|z2 (zAb rfl)<|z6<|zf<|zj (x := .bool _) rfl ?_
   exact jb (by unfold toldB m64 M64; simp_all)
  ·refine z7 rfl rfl c2<|z7 rfl rfl c2<|z2 (zPf rfl c2 rfl)<|z2 (zAb rfl)<|z6<|zf<|zj (x := .bool _) rfl ?_
   exact jb (by unfold toldB m64 M64; simp_all)
 ·refine z7 rfl rfl c1<|z7 rfl rfl c1<|z2 (zPf rfl c1 rfl)<|z2 (zMb rfl)<|z7 rfl rfl rfl<|z7 rfl rfl rfl<|z2 (zPf rfl rfl rfl)<|z2 (zAb rfl)<|z6<|zf<|zj (x := .bool _) rfl ?_
  exact jb (by unfold toldB m64 M64; simp_all)
theorem tend_spec (f : PFunc) (hS : ShapedP f) (l : List Rng) (hll : l.length = f.vars.length) (up : Bool) (X : AV) {a : Int} (ha : hasV f a = true) (other : Bool) : AFun prog E 154 [.pf (tblL f l up X), .int .i64 a, .bool other] (.tup [.int .i64 (endN f l up a other), .bool (toldB (ofR f l a) (endN f l up a other))]) := by
 obtain ⟨r, hr⟩ : ∃ r, ofR f l a = r := ⟨_, rfl⟩
 have hof := tof_spec (E := E) f hS l hll up X ha
 have hen : endN f l up a other = if up ≠ other then r.2 else r.1 := by unfold endN; rw [hr]
 rw [hr] at hof ⊢
 refine zo func154 rfl (by decide) rfl<|zSr<|z2 (zAi rfl)<|z2 (zAb rfl)<|z6<|zSr<|z2 (zMg rfl)<|z2 (zMi rfl)<|ze (hof) rfl<|zq (cs := [.int .i64 0, .int .i64 0]) zeroValue74 rfl rfl<|fun i8 => zm sizeOf74 rfl rfl rfl rfl rfl rfl .head rfl<|z6<|zSr<|z2 (zu underlying74 rfl sizeOf2 (by decide) rfl rfl)<|z2 (zy (c := .int _ _) isAgg2 rfl ⟨_, .head⟩ rfl)<|z2 (zAi rfl)<|z6<|za<|zSr<|z2 (zMg rfl)<|z2 (yq rfl)<|z2 (zFF underlying171 rfl sizeOf4 rfl rfl)<|z2 (yu (c := .bool _) isAgg4 rfl)<|z2 (zMb rfl)<|z2 (Gv.neqB underlying4 rfl rfl)<|z6<|zr rfl (fun c=>?_) (fun c=>?_)
 ·refine zRg<|z2 (zu underlying74 rfl sizeOf2 (by decide) rfl rfl)<|z2 (zy (c := .int _ _) isAgg2 rfl ⟨_, .head⟩ rfl)<|z2 (zAi rfl)<|z6<|zSr<|z2 (zMi rfl)<|z2 (Gv.loadWC isAgg74 sizeOf74 rfl ⟨_, .head⟩ rfl)<|z2 (zMi rfl)<|ze (told_spec _ _) rfl<|z2 (zAi rfl)<|z2 (zAb rfl)<|z6<|zf<|q7 (x := .int _ _) (y := .bool _) rfl rfl ?_
  rw [hen, if_pos (by simpa using c)]; try rfl
 ·refine zc<|zSr<|z2 (zMi rfl)<|z2 (Gv.loadWC isAgg74 sizeOf74 rfl ⟨_, .head⟩ rfl)<|z2 (zMi rfl)<|ze (told_spec _ _) rfl<|z2 (zAi rfl)<|z2 (zAb rfl)<|z6<|zf<|q7 (x := .int _ _) (y := .bool _) rfl rfl ?_
  rw [hen, if_neg (by simpa using c)]; try rfl
theorem tpos_spec (f : PFunc) (hS : ShapedP f) (l : List Rng) (hll : l.length = f.vars.length) (up : Bool) (X : AV) {a : Int} (ha : hasV f a = true) : AFun prog E 202 [.pf (tblL f l up X), .int .i64 a] (.bool (posB f l a)) := by
 obtain ⟨r, hr⟩ : ∃ r, ofR f l a = r := ⟨_, rfl⟩
 have hof := tof_spec (E := E) f hS l hll up X ha
 have hpo : posB f l a = (toldB r r.1 && decide (0 ≤ r.1)) := by unfold posB; rw [hr]
 rw [hr] at hof
 rw [hpo]
 refine zo func202 rfl (by decide) rfl<|zSr<|z2 (zAb rfl)<|z6<|zSr<|z2 (zMg rfl)<|z2 (zMi rfl)<|ze (hof) rfl<|zq (cs := [.int .i64 0, .int .i64 0]) zeroValue74 rfl rfl<|fun i5 => zm sizeOf74 rfl rfl rfl rfl rfl rfl .head rfl<|z6<|zSr<|z2 (Gv.loadWC isAgg74 sizeOf74 rfl ⟨_, .head⟩ rfl)<|z2 (zu underlying74 rfl sizeOf2 (by decide) rfl rfl)<|z2 (zy (c := .int _ _) isAgg2 rfl ⟨_, .head⟩ rfl)<|ze (told_spec _ _) rfl<|z2 (zMb rfl)<|zl (s := 13) rfl (fun c=>?_) (fun c=>?_)
 ·refine z8 rfl rfl c<|z2 (zu underlying74 rfl sizeOf2 (by decide) rfl rfl)<|z8 rfl rfl c<|z2 (zy (c := .int _ _) isAgg2 rfl ⟨_, .head⟩ rfl)<|z8 rfl rfl c<|z2 (q9 rfl rfl)<|z2 (zPt rfl c rfl)<|z2 (zAb rfl)<|z6<|zf<|zj (x := .bool _) rfl ?_
  exact jb (by rw [show toldB r r.1 = true from c]; rfl)
 ·refine z7 rfl rfl c<|z7 rfl rfl c<|z7 rfl rfl c<|z2 (zPf rfl c rfl)<|z2 (zAb rfl)<|z6<|zf<|zj (x := .bool _) rfl ?_
  exact jb (by rw [show toldB r r.1 = false from c]; rfl)
theorem takes_21 : (takesL 21).length = 2 := by decide
theorem takes_22 : (takesL 22).length = 2 := by decide
theorem chk_two {f : PFunc} (hS : ShapedP f) {op : Int} (ho : op = 2 ∨ op = 3) {b : PBlock} (hb : b ∈ f.blocks) {z : PInst} (hz : z ∈ b.insts) (h : z.op = op + 19) : ∃ c d, z.args = [c, d] := by
 have := (instP_F ((hS.2.2.2.2.2 b hb).2.1 z hz)).len
 have h2 : z.args.length = 2 := by
  rcases ho with rfl | rfl
  ·rw [this, h]; exact takes_21
  ·rw [this, h]; exact takes_22
 match z.args, h2 with
 | [c, d], _ => exact ⟨c, d, rfl⟩
set_option maxHeartbeats 4000000 in
theorem tchk_spec (f : PFunc) (hf : small f) (hS : ShapedP f) (hE : EndsOk f) (l : List Rng) (up : Bool) (X : AV) (x : PInst) (ho : x.op = 2 ∨ x.op = 3) {xa xb : Int} (hxa : x.args = [xa, xb]) (block at_ : Nat) :
  AFun prog E 201 [.pf (tblL f l up X), .agg (encInst x), .int .i64 block, .int .i64 at_] (.bool (chkX f x block at_)) := by
 have hn := hf.2.2.1
 have hs : isSum x.op = true := by unfold isSum; exact qu (by omega)
 rw [chkX, hs, Bool.true_and]
 refine zo func201 rfl (by decide) rfl<|zSr<|y7 (cs := _) rfl rfl rfl<|z2 (zAb rfl)<|z6<|za<|zSr<|z2 (zMg rfl)<|z2 (yq rfl)<|z2 (zFF underlying171 rfl sizeOf26 rfl rfl)<|z2 (zFF underlying26 rfl sizeOf24 rfl rfl)<|z2 (zLf isAgg24 rfl)<|z2 (zz underlying24 rfl)<|z2 (zMi rfl)<|z6<|zh<|y6 (γ := Nat) [0, 2, 3, 5, 17, 18] (fun i => [(19, .int .i64 i)]) (fun i => []) (fun i => i ≤ f.blocks.length ∧ (List.range i).any (chkI f (x.op + 19) x.args block at_) = false) (fun i => f.blocks.length - i) 0 zR1 zLe (⟨qm _, rfl⟩) ?_
 rintro i ⟨hi, hiall⟩
 refine zSr<|z2 (y8 rfl rfl)<|z6<|za<|zp rfl (fun ci=>?_) (fun ci=>?_)
 ·have hi2 : i < f.blocks.length := by simp at ci; omega
  obtain ⟨b, hbi⟩ : ∃ b, f.blocks[i] = b := ⟨_, rfl⟩
  have hget : f.blocks[i]? = some b := by rw [qj hi2, hbi]
  have hmem : b ∈ f.blocks := hbi ▸ qn hi2
  obtain ⟨hb0, hb1, hb2, hb3, hb4⟩ := hf.2.2.2.2 b hmem
  refine zc<|za<|zh<|zSr<|z2 (zMi rfl)<|z2 (zIM i underlying24 sizeOf66 rfl rfl rfl hget)<|z2 (zk isAgg66 sizeOf66 rfl rfl)<|zq (cs := [.str ⟨#[]⟩, .raw (.slice none 0 0), .raw (.slice none 0 0), .int .i64 0, .int .i64 0, .int .i64 0, .int .i64 0]) zeroValue66 rfl rfl<|fun i10 => z2 (zAi rfl)<|zm sizeOf66 rfl rfl rfl rfl rfl rfl .head rfl<|zd (y9 (t := 10) rfl .head)<|z6<|zSr<|z2 (zFF underlying66 rfl sizeOf60 rfl rfl)<|z2 (zLf isAgg60 rfl)<|z2 (zz underlying60 rfl)<|z2 (zMi rfl)<|z6<|zh<|y6 (γ := Nat) [0, 2, 3, 5, 9, 17, 18, 19, 25, 26] (fun k => [(27, .int .i64 k)]) (fun k => []) (fun k => k ≤ b.insts.length ∧ (b.insts.zipIdx.take k).any (chkQ f (x.op + 19) x.args i block at_) = false) (fun k => b.insts.length - k) 0 zR1 zLe (⟨qm _, rfl⟩) ?_
  rintro k ⟨hk, hkall⟩
  refine zSr<|z2 (y8 rfl rfl)<|z6<|za<|zp rfl (fun ck=>?_) (fun ck=>?_)
  ·have hk2 : k < b.insts.length := by simp at ck; omega
   obtain ⟨z, hz⟩ : ∃ z, b.insts[k] = z := ⟨_, rfl⟩
   have hzm : z ∈ b.insts := hz ▸ qn hk2
   have hzi : k < b.insts.zipIdx.length := by simp; exact hk2
   have hze : b.insts.zipIdx[k] = (z, k) := by simp [hz]
   have hq : chkQ f (x.op + 19) x.args i block at_ b.insts.zipIdx[k] = (decide (z.op = x.op + 19) && decide (z.args = x.args) && aheadB f ((i : Int), (k : Int)) block at_) := by rw [hze]; rfl
   refine zc<|za<|zh<|zSr<|z2 (zMi rfl)<|z2 (zIM k underlying60 sizeOf33 rfl rfl rfl (by rw [qj hk2, hz]))<|z2 (zk isAgg33 sizeOf33 rfl rfl)<|zq (cs := [.int .i64 0, .int .i64 0, .raw (.slice none 0 0), .int .i64 0]) zeroValue33 rfl rfl<|fun i12 => z2 (zAi rfl)<|zm sizeOf33 rfl rfl rfl rfl rfl rfl .head rfl<|zd (y9 (t := 12) rfl .head)<|z6 ?_
   by_cases hop : z.op = x.op + 19
   ·obtain ⟨c, d, hzc⟩ := chk_two hS ho hmem hzm hop
    have hq2 : chkQ f (x.op + 19) x.args i block at_ b.insts.zipIdx[k] = (decide (c = xa) && (decide (d = xb) && aheadB f ((i : Int), (k : Int)) block at_)) := by
     rw [hq, qu hop, Bool.true_and, hzc, hxa]
     by_cases e1 : c = xa
     ·by_cases e2 : d = xb
      ·simp [e1, e2]
      ·simp [e1, e2]
     ·simp [e1]
    refine za<|yc (γ := Bool) [0, 2, 3, 5, 9, 17, 18, 19, 25, 26, 27] (fun u => [(72, .bool u)]) (fun u => []) (fun u => u = chkQ f (x.op + 19) x.args i block at_ b.insts.zipIdx[k]) ?_ (fun _ _ h => h) ?_
    ·refine y1 (fun j => false) (by kernel_rfl) rfl (zn (.rest _))<|zTk 0 rfl (zFF underlying33 rfl sizeOf31 rfl rfl)<|zTk 1 rfl (zLi isAgg31 rfl)<|zTk 2 rfl (zFF underlying33 rfl sizeOf31 rfl rfl)<|zTk 3 rfl (zLi isAgg31 rfl)<|zTk 4 rfl (Gv.addW rfl rfl)<|zTk 5 rfl (Gv.subW rfl rfl)<|zTk 6 rfl (y3 rfl rfl)<|zTk 7 rfl (zMb rfl)<|zTt 8 rfl rfl rfl (by rw [w4, wrap_fit (z := 21 + x.op) (by unfold is64; omega), wrap_fit (z := 21 + x.op - 2) (by unfold is64; omega)]; omega) (zFF underlying33 rfl sizeOf23 rfl rfl)<|zTt 9 rfl rfl rfl (by rw [w4, wrap_fit (z := 21 + x.op) (by unfold is64; omega), wrap_fit (z := 21 + x.op - 2) (by unfold is64; omega)]; omega) (zLf isAgg23 rfl)<|zTt 10 rfl rfl rfl (by rw [w4, wrap_fit (z := 21 + x.op) (by unfold is64; omega), wrap_fit (z := 21 + x.op - 2) (by unfold is64; omega)]; omega) (zIM 0 underlying23 sizeOf3 rfl rfl rfl (by rw [hzc]; rfl))<|zTt 11 rfl rfl rfl (by rw [w4, wrap_fit (z := 21 + x.op) (by unfold is64; omega), wrap_fit (z := 21 + x.op - 2) (by unfold is64; omega)]; omega) (zLi isAgg3 rfl)<|zTt 12 rfl rfl rfl (by rw [w4, wrap_fit (z := 21 + x.op) (by unfold is64; omega), wrap_fit (z := 21 + x.op - 2) (by unfold is64; omega)]; omega) (zFF underlying33 rfl sizeOf23 rfl rfl)<|zTt 13 rfl rfl rfl (by rw [w4, wrap_fit (z := 21 + x.op) (by unfold is64; omega), wrap_fit (z := 21 + x.op - 2) (by unfold is64; omega)]; omega) (zLf isAgg23 rfl)<|zTt 14 rfl rfl rfl (by rw [w4, wrap_fit (z := 21 + x.op) (by unfold is64; omega), wrap_fit (z := 21 + x.op - 2) (by unfold is64; omega)]; omega) (zIM 0 underlying23 sizeOf3 rfl rfl rfl (by rw [hxa]; rfl))<|zTt 15 rfl rfl rfl (by rw [w4, wrap_fit (z := 21 + x.op) (by unfold is64; omega), wrap_fit (z := 21 + x.op - 2) (by unfold is64; omega)]; omega) (zLi isAgg3 rfl)<|zTt 16 rfl rfl rfl (by rw [w4, wrap_fit (z := 21 + x.op) (by unfold is64; omega), wrap_fit (z := 21 + x.op - 2) (by unfold is64; omega)]; omega) (y3 rfl rfl)<|zTk 17 rfl (zPt rfl (by rw [w4, wrap_fit (z := 21 + x.op) (by unfold is64; omega), wrap_fit (z := 21 + x.op - 2) (by unfold is64; omega)]; omega) rfl)<|zTk 18 rfl (zMb rfl)<|AAny.case (s := 50) rfl (fun c1=>?_) (fun c1=>?_)
     ·refine zTt 19 rfl rfl rfl c1 (zFF underlying33 rfl sizeOf23 rfl rfl)<|zTt 20 rfl rfl rfl c1 (zLf isAgg23 rfl)<|zTt 21 rfl rfl rfl c1 (zIM 1 underlying23 sizeOf3 rfl rfl rfl (by rw [hzc]; rfl))<|zTt 22 rfl rfl rfl c1 (zLi isAgg3 rfl)<|zTt 23 rfl rfl rfl c1 (zFF underlying33 rfl sizeOf23 rfl rfl)<|zTt 24 rfl rfl rfl c1 (zLf isAgg23 rfl)<|zTt 25 rfl rfl rfl c1 (zIM 1 underlying23 sizeOf3 rfl rfl rfl (by rw [hxa]; rfl))<|zTt 26 rfl rfl rfl c1 (zLi isAgg3 rfl)<|zTt 27 rfl rfl rfl c1 (y3 rfl rfl)<|zTk 28 rfl (zPt rfl c1 rfl)<|zTk 29 rfl (zMb rfl)<|AAny.case (s := 61) rfl (fun c2=>?_) (fun c2=>?_)
      ·refine zTt 30 rfl rfl rfl c2 (zMg rfl)<|zTt 31 rfl rfl rfl c2 (yq rfl)<|zTt 32 rfl rfl rfl c2 (zFF underlying171 rfl sizeOf101 rfl rfl)<|zTt 33 rfl rfl rfl c2 (yu (c := .pf _) isAgg101 rfl)<|zTt 34 rfl rfl rfl c2 (zMi rfl)<|zTt 35 rfl rfl rfl c2 (zMi rfl)<|zTt 36 rfl rfl rfl c2 (y5 (cps := [(0, [_]), (1, [_])]) (rs := [_, _]) pl109 rfl rfl rfl)<|zTt 37 rfl rfl rfl c2 (zMi rfl)<|zTt 38 rfl rfl rfl c2 (zMi rfl)<|zOn 39 rfl<|z8 rfl rfl c2<|ze (ahead_spec f hE hn ((i : Int), (k : Int)) block at_ (froN eI (kidsR f)) .any) rfl<|z6<|zTk 40 rfl (zPt rfl c2 rfl)<|zDn ?_
       exact ⟨_, zR11, zR1, zLe, by rw [hq2, show decide (c = xa) = true from c1, show decide (d = xb) = true from c2]; rfl⟩
      ·refine zTf 30 rfl rfl rfl c2<|zTf 31 rfl rfl rfl c2<|zTf 32 rfl rfl rfl c2<|zTf 33 rfl rfl rfl c2<|zTf 34 rfl rfl rfl c2<|zTf 35 rfl rfl rfl c2<|zTf 36 rfl rfl rfl c2<|zTf 37 rfl rfl rfl c2<|zTf 38 rfl rfl rfl c2<|zTf 39 rfl rfl rfl c2<|zTk 40 rfl (zPf rfl c2 rfl)<|zDn ?_
       exact ⟨_, zR11, zR1, zLe, by rw [hq2, show decide (c = xa) = true from c1, show decide (d = xb) = false from c2]; rfl⟩
     ·refine zTf 19 rfl rfl rfl c1<|zTf 20 rfl rfl rfl c1<|zTf 21 rfl rfl rfl c1<|zTf 22 rfl rfl rfl c1<|zTf 23 rfl rfl rfl c1<|zTf 24 rfl rfl rfl c1<|zTf 25 rfl rfl rfl c1<|zTf 26 rfl rfl rfl c1<|zTf 27 rfl rfl rfl c1<|zTk 28 rfl (zPf rfl c1 rfl)<|zTk 29 rfl (zMb rfl)<|zTf 30 rfl rfl rfl rfl<|zTf 31 rfl rfl rfl rfl<|zTf 32 rfl rfl rfl rfl<|zTf 33 rfl rfl rfl rfl<|zTf 34 rfl rfl rfl rfl<|zTf 35 rfl rfl rfl rfl<|zTf 36 rfl rfl rfl rfl<|zTf 37 rfl rfl rfl rfl<|zTf 38 rfl rfl rfl rfl<|zTf 39 rfl rfl rfl rfl<|zTk 40 rfl (zPf rfl rfl rfl)<|zDn ?_
      exact ⟨_, zR11, zR1, zLe, by rw [hq2, show decide (c = xa) = false from c1]; rfl⟩
    ·rintro u hu
     subst hu
     refine zr rfl (fun cq=>?_) (fun cq=>?_)
     ·refine zSr<|z2 (zAb rfl)<|z6<|zf<|zj (x := .bool _) rfl ?_
      exact jb (range_any_hit hi2 (by rw [chkI_at hget]; exact any_hit hzi cq)).symm
     ·refine zc<|zRg<|z2 (zAd rfl rfl)<|z2 (zMi rfl)<|z6 ?_
      exact ⟨k + 1, zR10, zR1, zLe, ⟨hk2, any_take hzi hkall (by simpa using cq)⟩, by omega⟩
   ·have hq2 : chkQ f (x.op + 19) x.args i block at_ b.insts.zipIdx[k] = false := by rw [hq, qv hop]; rfl
    refine za<|y1 (fun j => false) (by kernel_rfl) rfl (zn (.rest _))<|zTk 0 rfl (zFF underlying33 rfl sizeOf31 rfl rfl)<|zTk 1 rfl (zLi isAgg31 rfl)<|zTk 2 rfl (zFF underlying33 rfl sizeOf31 rfl rfl)<|zTk 3 rfl (zLi isAgg31 rfl)<|zTk 4 rfl (Gv.addW rfl rfl)<|zTk 5 rfl (Gv.subW rfl rfl)<|zTk 6 rfl (y3 rfl rfl)<|zTk 7 rfl (zMb rfl)<|zTf 8 rfl rfl rfl (qv (by rw [wrap_fit (z := 21 + x.op) (by unfold is64; omega), wrap_fit (z := 21 + x.op - 2) (by unfold is64; omega)]; omega))<|zTf 9 rfl rfl rfl (qv (by rw [wrap_fit (z := 21 + x.op) (by unfold is64; omega), wrap_fit (z := 21 + x.op - 2) (by unfold is64; omega)]; omega))<|zTf 10 rfl rfl rfl (qv (by rw [wrap_fit (z := 21 + x.op) (by unfold is64; omega), wrap_fit (z := 21 + x.op - 2) (by unfold is64; omega)]; omega))<|zTf 11 rfl rfl rfl (qv (by rw [wrap_fit (z := 21 + x.op) (by unfold is64; omega), wrap_fit (z := 21 + x.op - 2) (by unfold is64; omega)]; omega))<|zTf 12 rfl rfl rfl (qv (by rw [wrap_fit (z := 21 + x.op) (by unfold is64; omega), wrap_fit (z := 21 + x.op - 2) (by unfold is64; omega)]; omega))<|zTf 13 rfl rfl rfl (qv (by rw [wrap_fit (z := 21 + x.op) (by unfold is64; omega), wrap_fit (z := 21 + x.op - 2) (by unfold is64; omega)]; omega))<|zTf 14 rfl rfl rfl (qv (by rw [wrap_fit (z := 21 + x.op) (by unfold is64; omega), wrap_fit (z := 21 + x.op - 2) (by unfold is64; omega)]; omega))<|zTf 15 rfl rfl rfl (qv (by rw [wrap_fit (z := 21 + x.op) (by unfold is64; omega), wrap_fit (z := 21 + x.op - 2) (by unfold is64; omega)]; omega))<|zTf 16 rfl rfl rfl (qv (by rw [wrap_fit (z := 21 + x.op) (by unfold is64; omega), wrap_fit (z := 21 + x.op - 2) (by unfold is64; omega)]; omega))<|zTk 17 rfl (zPf rfl (qv (by rw [wrap_fit (z := 21 + x.op) (by unfold is64; omega), wrap_fit (z := 21 + x.op - 2) (by unfold is64; omega)]; omega)) rfl)<|zTk 18 rfl (zMb rfl)<|zTf 19 rfl rfl rfl rfl<|zTf 20 rfl rfl rfl rfl<|zTf 21 rfl rfl rfl rfl<|zTf 22 rfl rfl rfl rfl<|zTf 23 rfl rfl rfl rfl<|zTf 24 rfl rfl rfl rfl<|zTf 25 rfl rfl rfl rfl<|zTf 26 rfl rfl rfl rfl<|zTf 27 rfl rfl rfl rfl<|zTk 28 rfl (zPf rfl rfl rfl)<|zTk 29 rfl (zMb rfl)<|zTf 30 rfl rfl rfl rfl<|zTf 31 rfl rfl rfl rfl<|zTf 32 rfl rfl rfl rfl<|zTf 33 rfl rfl rfl rfl<|zTf 34 rfl rfl rfl rfl<|zTf 35 rfl rfl rfl rfl<|zTf 36 rfl rfl rfl rfl<|zTf 37 rfl rfl rfl rfl<|zTf 38 rfl rfl rfl rfl ?_
    refine zTf 39 rfl rfl rfl rfl<|zTk 40 rfl (zPf rfl rfl rfl)<|zDn<|yh rfl rfl<|zc<|zRg<|z2 (zAd rfl rfl)<|z2 (zMi rfl)<|z6 ?_
    exact ⟨k + 1, zR10, zR1, zLe, ⟨hk2, any_take hzi hkall hq2⟩, by omega⟩
  ·have hkn : k = b.insts.length := by simp at ck; omega
   rw [hkn, show b.insts.length = b.insts.zipIdx.length by simp, qo] at hkall
   refine y4<|zRg<|z2 (zAd rfl rfl)<|z2 (zMi rfl)<|z6 ?_
   exact ⟨i + 1, zR6, zR1, zLe, ⟨hi2, range_any_succ hiall (by rw [chkI_at hget]; exact hkall)⟩, by omega⟩
 ·have hin : i = f.blocks.length := by simp at ci; omega
  subst hin
  refine y4<|zSr<|z2 (zAb rfl)<|z6<|zf<|zj (x := .bool _) rfl ?_
  exact jb hiall.symm
end Go.Proofs.YtjnpcfpecilejaaGreatDoor
