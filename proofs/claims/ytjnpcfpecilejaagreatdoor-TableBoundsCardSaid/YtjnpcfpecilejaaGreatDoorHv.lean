/- Tables of bounds, by the document: are all sound? Of programs that are little. -/
import Derived.Test.YtjnpcfpecilejaaGreatDoorHu
set_option linter.unusedVariables false
set_option linter.unusedSimpArgs false
set_option linter.unusedSectionVars false
namespace Go.Proofs.YtjnpcfpecilejaaGreatDoor
open Go.Proofs.Tryz
open Go.Proofs Go.Lib Go.Shelf Go.RowKit
theorem pl148 : Places prog 148 #[(0, 1), (1, 1)] [.int .i64 0, .int .i64 0] := ⟨_, _, underlying148, zeroValue148, fun w => by kernel_rfl, rfl⟩
theorem ps89_1 : PlacesS prog 89 148 1 2 [.int .i64 0, .int .i64 0] := ⟨_, underlying89, sizeOf148, zeroValue148, by decide, by decide, by kernel_rfl⟩
variable {E : World}
set_option maxRecDepth 20000
def sgn (up : Bool) : Int := if up = true then 1 else -1
theorem refBeyT_spec (a b : Int) : AFun prog E 84 [.int .i64 1, .int .i64 a, .int .i64 b] (.bool (decide (b < a))) := by
 refine zo func84 rfl (by decide) rfl<|zSr<|z2 (zAb rfl)<|z6<|zSr<|z2 (zMi rfl)<|z2 (yv rfl rfl)<|z2 (zMb rfl)<|zl (s := 9) rfl (fun c1=>?_) (fun c1=>?_)
 ·refine z8 rfl rfl c1<|z2 (zMi rfl)<|z8 rfl rfl c1<|z2 (zMi rfl)<|z8 rfl rfl c1<|z2 (yv rfl rfl)<|z2 (zPt rfl c1 rfl)<|z2 (zMb rfl)<|zl (s := 14) rfl (fun c2=>?_) (fun c2=>?_)
  ·refine z7 rfl rfl c2<|z7 rfl rfl c2<|z7 rfl rfl c2<|zb rfl rfl<|zb rfl rfl<|zb rfl rfl<|z7 rfl rfl c2<|z2 (zPt rfl c2 rfl)<|z2 (zAb rfl)<|z6<|zf<|zj (x := .bool _) rfl ?_
   exact jb (by simp_all)
  ·refine z8 rfl rfl c2<|z2 (zMi rfl)<|z8 rfl rfl c2<|z2 (y8 rfl rfl)<|z8 rfl rfl c2<|z2 (zMb rfl)<|zl (s := 17) rfl (fun c3=>?_) (fun c3=>?_)
   ·refine z8 rfl rfl c3<|z2 (zMi rfl)<|z8 rfl rfl c3<|z2 (zMi rfl)<|z8 rfl rfl c3<|z2 (y8 rfl rfl)<|z8 rfl rfl c2<|z2 (zPt rfl c3 rfl)<|z2 (zPf rfl c2 rfl)<|z2 (zAb rfl)<|z6<|zf<|zj (x := .bool _) rfl ?_
    exact jb (by simp_all)
   ·refine z7 rfl rfl c3<|z7 rfl rfl c3<|z7 rfl rfl c3<|z8 rfl rfl c2<|z2 (zPf rfl c3 rfl)<|z2 (zPf rfl c2 rfl)<|z2 (zAb rfl)<|z6<|zf<|zj (x := .bool _) rfl ?_
    exact jb (by simp_all)
 ·refine z7 rfl rfl c1<|z7 rfl rfl c1<|z7 rfl rfl c1<|z2 (zPf rfl c1 rfl)<|z2 (zMb rfl)<|z8 rfl rfl rfl<|z2 (zMi rfl)<|z8 rfl rfl rfl<|z2 (y8 rfl rfl)<|z8 rfl rfl rfl<|z2 (zMb rfl)<|zl (s := 17) rfl (fun c4=>?_) (fun c4=>?_)
  ·refine z8 rfl rfl c4<|z2 (zMi rfl)<|z8 rfl rfl c4<|z2 (zMi rfl)<|z8 rfl rfl c4<|z2 (y8 rfl rfl)<|z8 rfl rfl rfl<|z2 (zPt rfl c4 rfl)<|z2 (zPf rfl rfl rfl)<|z2 (zAb rfl)<|z6<|zf<|zj (x := .bool _) rfl ?_
   exact jb (by simp_all)
  ·refine z7 rfl rfl c4<|z7 rfl rfl c4<|z7 rfl rfl c4<|z8 rfl rfl rfl<|z2 (zPf rfl c4 rfl)<|z2 (zPf rfl rfl rfl)<|z2 (zAb rfl)<|z6<|zf<|zj (x := .bool _) rfl ?_
   exact jb (by simp_all)
theorem refBeyF_spec (a b : Int) : AFun prog E 84 [.int .i64 (-1), .int .i64 a, .int .i64 b] (.bool (decide (a < b))) := by
 refine zo func84 rfl (by decide) rfl<|zSr<|z2 (zAb rfl)<|z6<|zSr<|z2 (zMi rfl)<|z2 (yv rfl rfl)<|z2 (zMb rfl)<|zl (s := 9) rfl (fun c5=>?_) (fun c5=>?_)
 ·refine z8 rfl rfl c5<|z2 (zMi rfl)<|z8 rfl rfl c5<|z2 (zMi rfl)<|z8 rfl rfl c5<|z2 (yv rfl rfl)<|z2 (zPt rfl c5 rfl)<|z2 (zMb rfl)<|zl (s := 14) rfl (fun c6=>?_) (fun c6=>?_)
  ·refine z7 rfl rfl c6<|z7 rfl rfl c6<|z7 rfl rfl c6<|zb rfl rfl<|zb rfl rfl<|zb rfl rfl<|z7 rfl rfl c6<|z2 (zPt rfl c6 rfl)<|z2 (zAb rfl)<|z6<|zf<|zj (x := .bool _) rfl ?_
   exact jb (by simp_all)
  ·refine z8 rfl rfl c6<|z2 (zMi rfl)<|z8 rfl rfl c6<|z2 (y8 rfl rfl)<|z8 rfl rfl c6<|z2 (zMb rfl)<|zl (s := 17) rfl (fun c7=>?_) (fun c7=>?_)
   ·refine z8 rfl rfl c7<|z2 (zMi rfl)<|z8 rfl rfl c7<|z2 (zMi rfl)<|z8 rfl rfl c7<|z2 (y8 rfl rfl)<|z8 rfl rfl c6<|z2 (zPt rfl c7 rfl)<|z2 (zPf rfl c6 rfl)<|z2 (zAb rfl)<|z6<|zf<|zj (x := .bool _) rfl ?_
    exact jb (by simp_all)
   ·refine z7 rfl rfl c7<|z7 rfl rfl c7<|z7 rfl rfl c7<|z8 rfl rfl c6<|z2 (zPf rfl c7 rfl)<|z2 (zPf rfl c6 rfl)<|z2 (zAb rfl)<|z6<|zf<|zj (x := .bool _) rfl ?_
    exact jb (by simp_all)
 ·refine z7 rfl rfl c5<|z7 rfl rfl c5<|z7 rfl rfl c5<|z2 (zPf rfl c5 rfl)<|z2 (zMb rfl)<|z8 rfl rfl rfl<|z2 (zMi rfl)<|z8 rfl rfl rfl<|z2 (y8 rfl rfl)<|z8 rfl rfl rfl<|z2 (zMb rfl)<|zl (s := 17) rfl (fun c8=>?_) (fun c8=>?_)
  ·refine z8 rfl rfl c8<|z2 (zMi rfl)<|z8 rfl rfl c8<|z2 (zMi rfl)<|z8 rfl rfl c8<|z2 (y8 rfl rfl)<|z8 rfl rfl rfl<|z2 (zPt rfl c8 rfl)<|z2 (zPf rfl rfl rfl)<|z2 (zAb rfl)<|z6<|zf<|zj (x := .bool _) rfl ?_
   exact jb (by simp_all)
  ·refine z7 rfl rfl c8<|z7 rfl rfl c8<|z7 rfl rfl c8<|z8 rfl rfl rfl<|z2 (zPf rfl c8 rfl)<|z2 (zPf rfl rfl rfl)<|z2 (zAb rfl)<|z6<|zf<|zj (x := .bool _) rfl ?_
   exact jb (by simp_all)
theorem refBey_spec (up : Bool) (a b : Int) : AFun prog E 84 [.int .i64 (sgn up), .int .i64 a, .int .i64 b] (.bool (beyB up a b)) := by
 cases up
 ·exact refBeyF_spec a b
 ·exact refBeyT_spec a b
theorem refSum_spec (up : Bool) (a n : Int) (ha : is64 a) (hn : is64 n) : AFun prog E 86 [.int .i64 (sgn up), .int .i64 a, .int .i64 n] (.tup [.int .i64 (sumR up a n).1, .bool (sumR up a n).2]) := by
 have h1 : 0 < sgn up ↔ up = true := by cases up <;> decide
 have h2 : sgn up < 0 ↔ up = false := by cases up <;> decide
 refine zo func86 rfl (by decide) rfl<|zSr<|z2 (zAi rfl)<|z2 (zAb rfl)<|z6<|za<|zh<|zSr<|z2 (zMi rfl)<|z2 (zMi rfl)<|ze (rFits2 (k := 0) (by decide) ha hn) rfl<|z2 (zAb rfl)<|z6<|zr rfl (fun c=>?_) (fun c=>?_)
 ·have hf : is64 (a + n) := qz c
  refine zSr<|z2 (zMi rfl)<|z2 (zMi rfl)<|z2 (Gv.add rfl rfl (by unfold I64; unfold is64 at hf; omega))<|z2 (zAi rfl)<|z2 (zAb rfl)<|z6<|zf<|q7 (x := .int _ _) (y := .bool _) rfl rfl ?_
  unfold sumR; rw [if_pos (show fit3 0 a n from hf)]
 ·have hf : ¬ fit3 0 a n := w3 c
  refine za<|yc (γ := Bool) [0, 2] (fun u => [(15, .bool u)]) (fun u => []) (fun u => u = decide (up = true ∧ n < 0)) ?_ (fun _ _ h => h) ?_
  ·refine zRg<|z2 (zMi rfl)<|z2 (yv rfl rfl)<|z2 (zMb rfl)<|zl (s := 18) rfl (fun c9=>?_) (fun c9=>?_)
   ·refine z8 rfl rfl c9<|z2 (zMi rfl)<|z8 rfl rfl c9<|z2 (y8 rfl rfl)<|z2 (zPt rfl c9 rfl)<|z2 (zAb rfl)<|z6 ?_
    exact ⟨_, zR2, zR1, zLe, by simp_all⟩
   ·refine z7 rfl rfl c9<|z7 rfl rfl c9<|z2 (zPf rfl c9 rfl)<|z2 (zAb rfl)<|z6 ?_
    exact ⟨_, zR2, zR1, zLe, by simp_all⟩
  ·rintro u hu
   subst hu
   refine zp rfl (fun c1=>?_) (fun c1=>?_)
   ·refine zSr<|z2 (zAi rfl)<|z2 (zAb rfl)<|z6<|zf<|q7 (x := .int _ _) (y := .bool _) rfl rfl ?_
    unfold sumR; rw [if_neg hf, if_pos c1]; rfl
   ·refine za<|yc (γ := Bool) [] (fun u => [(22, .bool u)]) (fun u => []) (fun u => u = decide (up = false ∧ 0 < n)) ?_ (fun _ _ h => h) ?_
    ·refine zRg<|z2 (zMi rfl)<|z2 (y8 rfl rfl)<|z2 (zMb rfl)<|zl (s := 25) rfl (fun c10=>?_) (fun c10=>?_)
     ·refine z8 rfl rfl c10<|z2 (zMi rfl)<|z8 rfl rfl c10<|z2 (yv rfl rfl)<|z2 (zPt rfl c10 rfl)<|z2 (zAb rfl)<|z6 ?_
      exact ⟨_, trivial, zR1, zLe, by simp_all⟩
     ·refine z7 rfl rfl c10<|z7 rfl rfl c10<|z2 (zPf rfl c10 rfl)<|z2 (zAb rfl)<|z6 ?_
      exact ⟨_, trivial, zR1, zLe, by simp_all⟩
    ·rintro u hu
     subst hu
     refine zp rfl (fun c2=>?_) (fun c2=>?_)
     ·refine zSr<|z2 (zAi rfl)<|z2 (zAb rfl)<|z6<|zf<|q7 (x := .int _ _) (y := .bool _) rfl rfl ?_
      unfold sumR; rw [if_neg hf, if_neg c1, if_pos c2]; rfl
     ·refine zc<|zSr<|z2 (zAi rfl)<|z2 (zAb rfl)<|z6<|zf<|q7 (x := .int _ _) (y := .bool _) rfl rfl ?_
      unfold sumR; rw [if_neg hf, if_neg c1, if_neg c2]
theorem mk_one (b : Bnd) : (decide ((if b.1 = true then (1 : Int) else 2) = 1)) = b.1 := by cases h : b.1 <;> simp
theorem mk_n {b : Bnd} (h : b.1 = true) : (if b.1 = true then b.2 else 0) = b.2 := if_pos h
theorem marks_spec (d : List Bnd) (hl : d.length ≤ 100000) : AFun prog E 46 [.fro 2 (d.map encBd)] (.fro 2 (d.map encMk)) := by
 refine zo func46 rfl (by decide) rfl<|zSr<|z2 (zAr rfl)<|z6<|zSr<|z2 (zAr rfl)<|z6<|za<|zSr<|z2 (zMf rfl)<|z2 (zz underlying85 rfl)<|z2 (zMi rfl)<|z6<|adopt_wp (t := 3) (k := 2) (T := 148) rfl<|fun i3 => zh<|y6 (γ := Nat × Nat) [7, 8] (fun g => [(9, .int .i64 g.1), (3, .own g.2 g.1)]) (fun g => [(g.2, .grow 2 148 ((d.take g.1).map encMk).flatten)]) (fun g => g.1 ≤ d.length) (fun g => d.length - g.1) (0, i3) zR2 zLe (qm _) ?_
 rintro ⟨k, io⟩ hk
 try dsimp only at *
 refine zSr<|z2 (y8 rfl rfl)<|z6<|za<|zp rfl (fun ck=>?_) (fun ck=>?_)
 ·have hk2 : k < d.length := by simp at ck; omega
  obtain ⟨b, hb⟩ : ∃ b, d[k] = b := ⟨_, rfl⟩
  have hlen : (((d.take k).map encMk).flatten).length = k * 2 := by
   have key : ∀ l : List Bnd, ((l.map encMk).flatten).length = l.length * 2 := fun l => by
    induction l with
    | nil => rfl
    | cons x l ih => rw [List.map_cons, List.flatten_cons, qp, ih]; simp [encMk]; omega
   rw [key, List.length_take]; congr 1; omega
  refine zc<|za<|zh<|zSr<|z2 (zIM k underlying85 sizeOf142 rfl rfl rfl (by rw [qj hk2, hb]))<|z2 (zk isAgg142 sizeOf142 rfl rfl)<|zq (cs := [.bool false, .int .i64 0]) zeroValue142 rfl rfl<|fun i5 => zm sizeOf142 rfl rfl rfl rfl rfl rfl .head rfl<|zd (y9 (t := 5) rfl .head)<|z6<|zSr<|z2 (y5 (cps := [(0, [_])]) (rs := [_, .int .i64 0]) pl148 rfl rfl rfl)<|zq (cs := [.int .i64 0, .int .i64 0]) zeroValue148 rfl rfl<|fun i6 => zm sizeOf148 rfl rfl rfl rfl rfl rfl .head rfl<|z6<|za<|zSr<|z2 (zFF underlying142 rfl sizeOf4 rfl rfl)<|z2 (yu (c := .bool _) isAgg4 rfl)<|z6<|yc (γ := Unit) [3, 6, 7, 8, 9] (fun w => []) (fun w => [(i6, .cells 148 (encMk b)), (io, .grow 2 148 ((d.take k).map encMk).flatten)]) (fun w => True) ?_ (fun _ _ h => h) ?_
  ·refine zr rfl (fun cb=>?_) (fun cb=>?_)
   ·have cb : b.1 = true := cb
    refine zRg<|z2 (zFF underlying142 rfl sizeOf2 rfl rfl)<|z2 (zLi isAgg2 rfl)<|z2 (y5 (cps := [(0, [_]), (1, [_])]) (rs := [_, _]) pl148 rfl rfl rfl)<|zm sizeOf148 rfl rfl rfl rfl rfl rfl .head rfl<|z6 ?_
    exact ⟨(), zR5, trivial, ⟨_, (.refl _), (by unfold encMk; rw [cb]; rfl)⟩, trivial⟩
   ·have cb : b.1 = false := cb
    refine zc ?_
    exact ⟨(), zR5, trivial, ⟨_, (.refl _), (by unfold encMk; rw [cb]; rfl)⟩, trivial⟩
  ·rintro _ _
   refine zRg<|z2 (zMo rfl)<|z2 (Gv.loadWC isAgg148 sizeOf148 rfl ⟨_, .head⟩ rfl)<|zw (rows := [[_, _]]) ps89_1 rfl rfl rfl rfl rfl<|yl (k := 2) underlying89 type148 rfl rfl rfl rfl rfl (fun _ => .t1) hlen (by decide) rfl (by show (_ + 1) * 16 ≤ _; omega) (by show _ + 1 ≤ _; omega)<|fun i22 => z2 (zAo rfl)<|z6<|yf (GStep.drop .head)<|zRg<|z2 (zAd rfl rfl)<|z2 (zMi rfl)<|z6 ?_
   exact ⟨(k + 1, i22), zR2, zR2, ⟨_, (.refl _), by rw [qk hk2, hb, List.map_append, List.flatten_append]; rfl⟩, hk2, by dsimp only; omega⟩
 ·have hkn : k = d.length := by simp at ck; omega
  subst hkn
  rw [qo]
  refine y4<|zSr<|z2 (zMo rfl)<|z2 (zAo rfl)<|z6<|yf (GStep.know (t := 2) (rows := d.map encMk) rfl .head (by (intro r hr; obtain ⟨x, _, rfl⟩ := List.mem_map.1 hr; rfl)) (by decide) (by (rw [qq])))<|zf<|zj (x := .fro _ _) rfl ?_
  rfl
end Go.Proofs.YtjnpcfpecilejaaGreatDoor
namespace Go.Proofs.YtjnpcfpecilejaaGreatDoor
open Go.Proofs.Tryz
open Go.Proofs Go.Lib Go.Shelf Go.RowKit
variable {E : World}
set_option maxRecDepth 20000
theorem maker_lt2 {f : PFunc} {s : Int} (h1 : 0 ≤ (makerT f s).1) : (makerT f s).1 < f.blocks.length := by
 obtain ⟨k, c, hc, hcase⟩ := maker_cases h1
 have hk := (List.getElem?_eq_some_iff.1 hc).1
 rcases hcase with ⟨_, _, _, e⟩ | ⟨_, _, _, _, e⟩
 ·rw [e]; dsimp only; omega
 ·rw [e]; dsimp only; omega
theorem cov_mk (up : Bool) (a b : Bnd) : covB up a b = (decide ((if b.1 = true then (1 : Int) else 2) = 1) && !beyB up (if b.1 = true then b.2 else 0) a.2) := by
 rw [cov_bey, mk_one]
 cases h : b.1
 ·rfl
 ·rw [if_pos rfl]
set_option maxHeartbeats 4000000 in
theorem refPhi27_spec (f : PFunc) (hF : RuleF f) (hE : EndsOk f) (up : Bool) (s : Int) (hs : 0 ≤ s ∧ s ≤ f.vars.length) (d : List Bnd) (hdl : d.length = f.vars.length + 1) (v : Nat) (hv : v < f.vars.length) (hv1 : (bd d v).1 = true) (p : PPhi) (hp : phiF f v = some p) (i : Nat) (hi : (makerT f v).1 = (i : Int)) :
  AFun prog E 85 [.agg (encF f), froB (tabR f), .int .i64 (sgn up), .int .i64 s, .fro 2 (d.map encMk), .int .i64 v, .int .i64 i] (.bool (!shutU f s v && covPhi up d v p)) := by
 have hf := hF.small
 have hvn := hf.1
 have hn := hf.2.2.1
 obtain ⟨i', b, hb, hpm, hpd, hi', _⟩ := phi_got hp
 obtain rfl : i' = i := by omega
 have hmem := List.mem_of_getElem? hb
 obtain ⟨hil, hbi⟩ := List.getElem?_eq_some_iff.1 hb
 obtain ⟨hb0, hb1, hb2, hb3, hb4⟩ := hf.2.2.2.2 b hmem
 obtain ⟨hPh, hIn, hTm⟩ := hF.shaped.2.2.2.2.2 b hmem
 have hone := phi_one (hF.once v hv).1 hb hpm hpd
 have hgv := bd_get (d := d) (v := (v : Int)) (by omega) (by omega)
 have hmk := Maker_spec (E := E) f hf s.toNat
 rw [qy hs.1] at hmk
 refine zo func85 rfl (by decide) rfl<|zSr<|y7 (cs := _) rfl rfl rfl<|z2 (zAb rfl)<|z6<|za<|zSr<|z2 (zMi rfl)<|z2 (zFF underlying26 rfl sizeOf22 rfl rfl)<|z2 (zLf isAgg22 rfl)<|z2 (zz underlying22 rfl)<|z2 (y8 rfl rfl)<|z6<|yc (γ := Unit) [2, 4, 5, 6, 7] (fun w => []) (fun w => []) (fun w => shutU f s v = false) ?_ (fun _ _ h => h) ?_
 ·refine zp rfl (fun cs=>?_) (fun cs=>?_)
  ·have hsu : shutU f s v = shutF f s v := by unfold shutU; rw [qu cs, Bool.true_and]
   refine zSr<|z2 (zk isAgg26 sizeOf26 rfl rfl)<|z2 (zMi rfl)<|ze (hmk) rfl<|z2 (zMu rfl)<|z2 (zXi rfl rfl)<|z2 (zXi rfl rfl)<|z2 (zAi rfl)<|z2 (zAi rfl)<|z6<|za<|yc (γ := Bool) [2, 4, 5, 6, 7] (fun u => [(48, .bool u)]) (fun u => []) (fun u => u = shutF f s v) ?_ (fun _ _ h => h) ?_
   ·refine zRg<|z2 (zMi rfl)<|z2 (q9 rfl rfl)<|z2 (zMb rfl)<|zl (s := 34) rfl (fun c1=>?_) (fun c1=>?_)
    ·have h1 : 0 ≤ (makerT f s).1 := qz c1
     refine z8 rfl rfl c1<|z2 (zMi rfl)<|z8 rfl rfl c1<|z2 (zMi rfl)<|z8 rfl rfl c1<|z2 (y3 rfl rfl)<|z8 rfl rfl c1<|z2 (zMb rfl)<|zl (s := 38) rfl (fun c2=>?_) (fun c2=>?_)
     ·have h2 : (makerT f s).1 = (i' : Int) := qz c2
      refine z7 rfl rfl c2<|z7 rfl rfl c2<|z7 rfl rfl c2<|z7 rfl rfl c2<|z7 rfl rfl c2<|z7 rfl rfl c2<|z7 rfl rfl c2<|z7 rfl rfl c2<|z8 rfl rfl c1<|z2 (zPt rfl c2 rfl)<|z2 (zPt rfl c1 rfl)<|z6 ?_
      exact ⟨_, zR5, zR1, zLe, by unfold shutF; rw [qu h1, hi, qu h2]; rfl⟩
     ·have h2 : ¬ (makerT f s).1 = (i' : Int) := w3 c2
      have hml : (makerT f s).1 < f.blocks.length := maker_lt2 h1
      refine z8 rfl rfl c2<|z2 (zMf rfl)<|z8 rfl rfl c2<|z2 (zMi rfl)<|z8 rfl rfl c2<|z2 (q8 (j := (makerT f s).1.toNat) underlying82 sizeOf111 rfl rfl (by omega) (tabR_get (by omega)))<|z8 rfl rfl c2<|z2 (zLf isAgg111 rfl)<|z8 rfl rfl c2<|z2 (zMi rfl)<|z8 rfl rfl c2<|z2 (zIM (i') underlying111 sizeOf4 rfl rfl rfl (rowR_get hil))<|z8 rfl rfl c2<|z2 (yu (c := .bool _) isAgg4 rfl)<|z8 rfl rfl c2<|z2 (yd rfl)<|z8 rfl rfl c1<|z2 (zPf rfl c2 rfl)<|z2 (zPt rfl c1 rfl)<|z6 ?_
      exact ⟨_, zR5, zR1, zLe, by unfold shutF; rw [qu h1, hi, qv h2, qy h1]; rfl⟩
    ·have h1 : ¬ 0 ≤ (makerT f s).1 := w3 c1
     refine z7 rfl rfl c1<|z7 rfl rfl c1<|z7 rfl rfl c1<|z7 rfl rfl c1<|zb rfl rfl<|zb rfl rfl<|zb rfl rfl<|zb rfl rfl<|zb rfl rfl<|zb rfl rfl<|zb rfl rfl<|zb rfl rfl<|z7 rfl rfl c1<|z2 (zPf rfl c1 rfl)<|z6 ?_
     exact ⟨_, zR5, zR1, zLe, by unfold shutF; rw [qv h1]; rfl⟩
   ·rintro u hu
    refine zr rfl (fun cu=>?_) (fun cu=>?_)
    ·refine zSr<|z2 (zAb rfl)<|z6<|zf<|zj (x := .bool _) rfl ?_
     exact jb (by rw [hsu, ← hu, show u = true from cu]; rfl)
    ·refine zc ?_
     exact ⟨(), zR5, trivial, zLe, by rw [hsu, ← hu]; exact cu⟩
  ·refine zc ?_
   exact ⟨(), zR5, trivial, zLe, by unfold shutU; rw [qv cs, Bool.false_and]⟩
 ·rintro _ hsh
  rw [hsh, Bool.not_false, Bool.true_and]
  have hall : covPhi up d v p = ((b.phis.filter fun q => decide (q.dst = (v : Int))).all (covPhi up d v)) := by rw [hone]; simp
  rw [hall]
  refine za<|zSr<|z2 (zFF underlying26 rfl sizeOf24 rfl rfl)<|z2 (zLf isAgg24 rfl)<|z2 (zMi rfl)<|z2 (zIM (i') underlying24 sizeOf66 rfl rfl rfl hb)<|z2 (zFF underlying66 rfl sizeOf59 rfl rfl)<|z2 (zLf isAgg59 rfl)<|z2 (zz underlying59 rfl)<|z2 (zMi rfl)<|z6<|zh<|y6 (γ := Nat) [2, 4, 5, 54, 55] (fun j => [(56, .int .i64 j)]) (fun j => []) (fun j => j ≤ b.phis.length ∧ ((b.phis.take j).filter fun q => decide (q.dst = (v : Int))).all (covPhi up d v) = true) (fun j => b.phis.length - j) 0 zR1 zLe (⟨qm _, rfl⟩) ?_
  rintro j ⟨hj, hjall⟩
  refine zSr<|z2 (y8 rfl rfl)<|z6<|za<|zp rfl (fun cj=>?_) (fun cj=>?_)
  ·have hj2 : j < b.phis.length := by simp at cj; omega
   obtain ⟨q, hq⟩ : ∃ q, b.phis[j] = q := ⟨_, rfl⟩
   have hqm : q ∈ b.phis := hq ▸ qn hj2
   have hqa := List.all_eq_true.1 (hPh q hqm).2.2.2.1
   have hql := (hb3 q hqm).1
   have hts : (b.phis.take (j + 1)).filter (fun q => decide (q.dst = (v : Int))) = (b.phis.take j).filter (fun q => decide (q.dst = (v : Int))) ++ if q.dst = (v : Int) then [q] else [] := by
    rw [qk hj2, List.filter_append, hq]
    congr 1
    by_cases c : q.dst = (v : Int)
    ·rw [if_pos c, List.filter_cons_of_pos (by simpa using c), List.filter_nil]
    ·rw [if_neg c, List.filter_cons_of_neg (by simpa using c), List.filter_nil]
   refine zc<|za<|zh<|zSr<|z2 (zIM j underlying59 sizeOf95 rfl rfl rfl (by rw [qj hj2, hq]))<|z2 (zk isAgg95 sizeOf95 rfl rfl)<|zq (cs := [.int .i64 0, .raw (.slice none 0 0), .raw (.slice none 0 0)]) zeroValue95 rfl rfl<|fun i18 => zm sizeOf95 rfl rfl rfl rfl rfl rfl .head rfl<|zd (y9 (t := 18) rfl .head)<|z6<|za<|zSr<|z2 (zFF underlying95 rfl sizeOf3 rfl rfl)<|z2 (zLi isAgg3 rfl)<|z2 (zMi rfl)<|z2 (yi rfl rfl)<|z6<|zr rfl (fun cd=>?_) (fun cd=>?_)
   ·have hne : ¬ q.dst = (v : Int) := notdecT cd
    rw [if_neg hne, qt] at hts
    refine y4<|zRg<|z2 (zAd rfl rfl)<|z2 (zMi rfl)<|z6 ?_
    exact ⟨j + 1, zR5, zR1, zLe, ⟨hj2, by rw [hts]; exact hjall⟩, by omega⟩
   ·have hde : q.dst = (v : Int) := notdecF cd
    rw [if_pos hde] at hts
    refine zc<|zSr<|z2 (zFF underlying95 rfl sizeOf23 rfl rfl)<|z2 (zLf isAgg23 rfl)<|z2 (zz underlying23 rfl)<|z2 (zMi rfl)<|z6<|zh<|y6 (γ := Nat) [2, 4, 5, 54, 55, 56, 65, 66] (fun k => [(67, .int .i64 k)]) (fun k => []) (fun k => k ≤ q.args.length ∧ (q.args.take k).all (fun a => covB up (bd d v) (bd d a)) = true) (fun k => q.args.length - k) 0 zR1 zLe (⟨qm _, rfl⟩) ?_
    rintro k ⟨hk, hkall⟩
    refine zSr<|z2 (y8 rfl rfl)<|z6<|za<|zp rfl (fun ck=>?_) (fun ck=>?_)
    ·have hk2 : k < q.args.length := by simp at ck; omega
     obtain ⟨a, ha⟩ : ∃ a, q.args[k] = a := ⟨_, rfl⟩
     have ham : a ∈ q.args := ha ▸ qn hk2
     have har := hasV_rng (hqa a ham)
     refine zc<|za<|zh<|zSr<|z2 (zIM k underlying23 sizeOf3 rfl rfl rfl (by rw [qj hk2, ha]))<|z2 (zLi isAgg3 rfl)<|z2 (zAi rfl)<|z6<|za<|yc (γ := Bool) [2, 4, 5, 54, 55, 56, 65, 66, 67] (fun u => [(90, .bool u)]) (fun u => []) (fun u => u = !covB up (bd d v) (bd d a)) ?_ (fun _ _ h => h) ?_
     ·refine y1 (fun j => false) (by kernel_rfl) rfl (zn (.rest _))<|zTk 0 rfl (zMf rfl)<|zTk 1 rfl (zMi rfl)<|zTk 2 rfl (zIM a.toNat underlying89 sizeOf148 rfl rfl (by omega) (bd_get har.1 (by omega)))<|zTk 3 rfl (zFF underlying148 rfl sizeOf3 rfl rfl)<|zTk 4 rfl (zLi isAgg3 rfl)<|zTk 5 rfl (yi rfl rfl)<|zTk 6 rfl (zMb rfl)<|AAny.case (s := 77) rfl (fun c1=>?_) (fun c1=>?_)
      ·have h1 : ¬ (if (bd d a).1 = true then (1 : Int) else 2) = 1 := notdecT c1
       refine zTf 7 rfl rfl rfl c1<|zTf 8 rfl rfl rfl c1<|zTf 9 rfl rfl rfl c1<|zTf 10 rfl rfl rfl c1<|zTf 11 rfl rfl rfl c1<|zTf 12 rfl rfl rfl c1<|zTf 13 rfl rfl rfl c1<|zTf 14 rfl rfl rfl c1<|zTf 15 rfl rfl rfl c1<|zTf 16 rfl rfl rfl c1<|zTf 17 rfl rfl rfl c1<|zTf 18 rfl rfl rfl c1<|zTk 19 rfl (zPt rfl c1 rfl)<|zDn ?_
       exact ⟨_, zR9, zR1, zLe, by rw [cov_mk, qv h1]; rfl⟩
      ·have h1 : (if (bd d a).1 = true then (1 : Int) else 2) = 1 := notdecF c1
       refine zTt 7 rfl rfl rfl c1 (zMi rfl)<|zTt 8 rfl rfl rfl c1 (zMf rfl)<|zTt 9 rfl rfl rfl c1 (zMi rfl)<|zTt 10 rfl rfl rfl c1 (zIM a.toNat underlying89 sizeOf148 rfl rfl (by omega) (bd_get har.1 (by omega)))<|zTt 11 rfl rfl rfl c1 (zFF underlying148 rfl sizeOf2 rfl rfl)<|zTt 12 rfl rfl rfl c1 (zLi isAgg2 rfl)<|zTt 13 rfl rfl rfl c1 (zMf rfl)<|zTt 14 rfl rfl rfl c1 (zMi rfl)<|zTt 15 rfl rfl rfl c1 (zIM v underlying89 sizeOf148 rfl rfl rfl hgv)<|zTt 16 rfl rfl rfl c1 (zFF underlying148 rfl sizeOf2 rfl rfl)<|zTt 17 rfl rfl rfl c1 (zLi isAgg2 rfl)<|zOn 18 rfl<|z8 rfl rfl c1<|ze (refBey_spec up _ _) rfl<|z6<|zTk 19 rfl (zPf rfl c1 rfl)<|zDn ?_
       exact ⟨_, zR9, zR1, zLe, by rw [cov_mk, qu h1, Bool.true_and, Bool.not_not, mk_n hv1]⟩
     ·rintro u hu
      subst hu
      refine zr rfl (fun cu=>?_) (fun cu=>?_)
      ·have hcf : covB up (bd d v) (bd d a) = false := by simpa using cu
       refine zSr<|z2 (zAb rfl)<|z6<|zf<|zj (x := .bool _) rfl ?_
       exact jb (List.all_eq_false.2 ⟨q, List.mem_filter.2 ⟨hqm, by simpa using hde⟩, by unfold covPhi; rw [List.all_eq_false.2 ⟨a, ham, by rw [hcf]; decide⟩]; decide⟩).symm
      ·have hct : covB up (bd d v) (bd d a) = true := by simpa using cu
       refine zc<|zRg<|z2 (zAd rfl rfl)<|z2 (zMi rfl)<|z6 ?_
       exact ⟨k + 1, zR8, zR1, zLe, ⟨hk2, by rw [qk hk2, List.all_append, hkall, ha]; simp [hct]⟩, by omega⟩
    ·have hkn : k = q.args.length := by simp at ck; omega
     rw [hkn, qo] at hkall
     refine y4<|zRg<|z2 (zAd rfl rfl)<|z2 (zMi rfl)<|z6 ?_
     exact ⟨j + 1, zR5, zR1, zLe, ⟨hj2, by rw [hts, List.all_append, hjall]; simp; exact hkall⟩, by omega⟩
  ·have hjn : j = b.phis.length := by simp at cj; omega
   rw [hjn, qo] at hjall
   refine y4<|zSr<|z2 (zAb rfl)<|z6<|zf<|zj (x := .bool _) rfl ?_
   exact jb hjall.symm
end Go.Proofs.YtjnpcfpecilejaaGreatDoor
namespace Go.Proofs.YtjnpcfpecilejaaGreatDoor
open Go.Proofs.Tryz
open Go.Proofs Go.Lib Go.Shelf Go.RowKit
variable {E : World}
set_option maxRecDepth 20000
theorem phi_some {f : PFunc} {v : Int} (h0 : 0 ≤ (makerT f v).1) (h1 : (makerT f v).2 < 0) : ∃ p, phiF f v = some p := by
 obtain ⟨i, b, hb, ⟨p, hp, hd, e⟩ | ⟨k, x, _, _, e⟩⟩ := maker_cases h0
 ·have : phiF f v = b.phis.find? fun q => decide (q.dst = v) := by
   unfold phiF
   rw [if_pos ⟨h0, h1⟩, e]
   show (f.blocks[((i : Int)).toNat]?).bind _ = _
   rw [show ((i : Int)).toNat = i from rfl, hb]; rfl
  cases h : b.phis.find? fun q => decide (q.dst = v) with
  | none => exact absurd hd (by simpa using List.find?_eq_none.1 h p hp)
  | some q => exact ⟨q, by rw [this, h]⟩
 ·rw [e] at h1; dsimp only at h1; omega
theorem phi_none {f : PFunc} {v : Int} (h : ¬ (0 ≤ (makerT f v).1 ∧ (makerT f v).2 < 0)) : phiF f v = none := if_neg h
theorem cov_none {up : Bool} {d : List Bnd} {v : Int} {e : Ejk} (h : (bd d e.1).1 = false) : covE up d v e = false := by
 unfold covE covB sumBd
 rw [h]
 split <;> rfl
theorem cov_some {up : Bool} {d : List Bnd} {v : Int} {e : Ejk} (h : (bd d e.1).1 = true) (ha : is64 (bd d e.1).2) (hn : is64 e.2.2) : covE up d v e = ((sumR up (bd d e.1).2 e.2.2).2 && !beyB up (sumR up (bd d e.1).2 e.2.2).1 (bd d v).2) := by
 unfold covE
 rw [← sum_ref ha hn (bd d v), ← h]
def refB (f : PFunc) (l : List Rng) (up : Bool) (s : Int) (d : List Bnd) : Bool := soundB up s f.vars.length (edgesE f l up) (phiF f) (shutU f s) (lowU f l s) d
def refN (f : PFunc) (l : List Rng) (up : Bool) (s : Int) (d : List Bnd) (v : Nat) : Bool := nodeB up s f.vars.length (edgesE f l up) (phiF f) (shutU f s) (lowU f l s) d v
theorem refN_s {f : PFunc} {l : List Rng} {up : Bool} {s : Int} {d : List Bnd} {v : Nat} (h : (v : Int) = s) : refN f l up s d v = ((bd d v).1 && !beyB up 0 (bd d v).2) := by
 unfold refN nodeB
 rw [if_pos h, cov_bey]; rfl
theorem refN_0 {f : PFunc} {l : List Rng} {up : Bool} {s : Int} {d : List Bnd} {v : Nat} (h : ¬ (v : Int) = s) (h1 : (bd d v).1 = false) : refN f l up s d v = true := by
 unfold refN nodeB
 rw [if_neg h, if_pos h1]
theorem refN_n {f : PFunc} {l : List Rng} {up : Bool} {s : Int} {d : List Bnd} (h : ¬ (f.vars.length : Int) = s) (h1 : (bd d f.vars.length).1 = true) : refN f l up s d f.vars.length = covB up (bd d f.vars.length) (lowU f l s) := by
 unfold refN nodeB
 rw [if_neg h, if_neg (by rw [h1]; decide), if_pos rfl]
theorem refN_p {f : PFunc} {l : List Rng} {up : Bool} {s : Int} {d : List Bnd} {v : Nat} (h : ¬ (v : Int) = s) (h1 : (bd d v).1 = true) (h2 : v < f.vars.length) {p : PPhi} (hp : phiF f v = some p) : refN f l up s d v = (!shutU f s v && covPhi up d v p) := by
 unfold refN nodeB
 rw [if_neg h, if_neg (by rw [h1]; decide), if_neg (by omega), hp]
theorem refN_e {f : PFunc} {l : List Rng} {up : Bool} {s : Int} {d : List Bnd} {v : Nat} (h : ¬ (v : Int) = s) (h1 : (bd d v).1 = true) (h2 : v < f.vars.length) (hp : phiF f v = none) : refN f l up s d v = (intoE (edgesE f l up) v).any (covE up d v) := by
 unfold refN nodeB
 rw [if_neg h, if_neg (by rw [h1]; decide), if_neg (by omega), hp]
set_option maxHeartbeats 8000000 in
theorem refBounds_spec (f : PFunc) (hF : RuleF f) (h : (typedB f && singB f) = true) (hN : ∀ b ∈ f.blocks, ∀ x ∈ b.insts, is64 x.num) (l : List Rng) (hol : ∀ r ∈ l, ok64 r) (hll : l.length = f.vars.length) (up : Bool) (s : Int) (hs : 0 ≤ s ∧ s ≤ f.vars.length) (d : List Bnd) (hd : ∀ b ∈ d, is64 b.2) (hdl : d.length = f.vars.length + 1) :
  AFun prog E 45 [.agg (encF f), .fro 2 (l.map encZ), .int .i64 (sgn up), .int .i64 s, .fro 2 (d.map encMk)] (.bool (refB f l up s d)) := by
 have hf := hF.small
 have hvn := hf.1
 have hn := hf.2.2.1
 have hE := typedB_ends (and3 h).1
 have hsn : ((s.toNat : Nat) : Int) = s := qy hs.1
 have hgs := bd_get (d := d) (v := s) hs.1 (by omega)
 have hgn := bd_get (d := d) (v := (f.vars.length : Int)) (by omega) (by omega)
 have hbad : ∀ k : Nat, k ≤ f.vars.length → refN f l up s d k = false → refB f l up s d = false := fun k hk hb => by unfold refB soundB; exact range_all_bad (p := fun v : Nat => refN f l up s d v) (by omega) hb
 have hgood : (List.range f.vars.length).all (refN f l up s d) = true → refN f l up s d f.vars.length = true → refB f l up s d = true := fun h1 h2 => by
  unfold refB soundB
  rw [hdl]
  exact range_all_succ h1 h2
 refine zo func45 rfl (by decide) rfl<|zSr<|y7 (cs := _) rfl rfl rfl<|z2 (zAb rfl)<|z6<|zSr<|z2 (zk isAgg26 sizeOf26 rfl rfl)<|ze (refTable_spec f hE hn) rfl<|z2 (zAf rfl)<|z6<|zSr<|z2 (zk isAgg26 sizeOf26 rfl rfl)<|z2 (zMf rfl)<|ze (refAll_spec f hF hE l hol hll) rfl<|z2 (zMu rfl)<|z2 (yy (v := .fro _ _) rfl rfl)<|z2 (yy (v := .fro _ _) rfl rfl)<|z2 (zAf rfl)<|z2 (zAf rfl)<|z6<|za<|zSr<|z2 (zMi rfl)<|z2 (y8 rfl rfl)<|z6<|yc (γ := List Ejk) [1, 2, 3, 4, 5, 11] (fun g => [(12, .fro 3 (g.map encE))]) (fun g => []) (fun g => g = edgesE f l up) ?_ (fun _ _ h => h) ?_
 ·refine zp rfl (fun cg=>?_) (fun cg=>?_)
  ·refine zRg<|z2 (zMf rfl)<|z2 (zAf rfl)<|z6 ?_
   exact ⟨(edgesE f l false), zR6, zR1, zLe, by cases up; rfl; exact absurd (show (1 : Int) < 0 from cg) (by decide)⟩
  ·refine zc ?_
   exact ⟨(edgesE f l true), zR6, zR1, zLe, by cases up; exact absurd (show (-1 : Int) < 0 by decide) cg; rfl⟩
 ·rintro es hes
  refine zSr<|z2 (zFF underlying26 rfl sizeOf22 rfl rfl)<|z2 (zLf isAgg22 rfl)<|z2 (zz underlying22 rfl)<|z2 (zAi rfl)<|z6<|za<|za<|yc (γ := Bool) [1, 2, 3, 4, 5, 11, 12, 14] (fun u => [(52, .bool u)]) (fun u => []) (fun u => u = !refN f l up s d s.toNat) ?_ (fun _ _ h => h) ?_
  ·refine zRg<|z2 (zMf rfl)<|z2 (zMi rfl)<|z2 (zIM s.toNat underlying89 sizeOf148 rfl rfl (by omega) hgs)<|z2 (zFF underlying148 rfl sizeOf3 rfl rfl)<|z2 (zLi isAgg3 rfl)<|z2 (yi rfl rfl)<|z2 (zMb rfl)<|zl (s := 44) rfl (fun c1=>?_) (fun c1=>?_)
   ·have h1 : (bd d s).1 = false := by have := notdecT c1; cases hh : (bd d s).1; rfl; exact absurd (by rw [hh]; rfl) this
    refine z7 rfl rfl c1<|z7 rfl rfl c1<|z7 rfl rfl c1<|z7 rfl rfl c1<|z7 rfl rfl c1<|z7 rfl rfl c1<|z7 rfl rfl c1<|z2 (zPt rfl c1 rfl)<|z6 ?_
    exact ⟨_, zR8, zR1, zLe, by rw [refN_s hsn, hsn, h1]; rfl⟩
   ·have h1 : (bd d s).1 = true := by have := notdecF c1; cases hh : (bd d s).1; (rw [hh] at this; cases this); rfl
    refine z8 rfl rfl c1<|z2 (zMi rfl)<|z8 rfl rfl c1<|z2 (zMf rfl)<|z8 rfl rfl c1<|z2 (zMi rfl)<|z8 rfl rfl c1<|z2 (zIM s.toNat underlying89 sizeOf148 rfl rfl (by omega) hgs)<|z8 rfl rfl c1<|z2 (zFF underlying148 rfl sizeOf2 rfl rfl)<|z8 rfl rfl c1<|z2 (zLi isAgg2 rfl)<|z8 rfl rfl c1<|ze (refBey_spec up 0 _) rfl<|z2 (zPf rfl c1 rfl)<|z6 ?_
    exact ⟨_, zR8, zR1, zLe, by rw [refN_s hsn, hsn, h1, Bool.true_and, Bool.not_not]; rfl⟩
  ·rintro u hu
   subst hu
   refine zr rfl (fun c=>?_) (fun c=>?_)
   ·refine zSr<|z2 (zAb rfl)<|z6<|zf<|zj (x := .bool _) rfl ?_
    exact jb (hbad s.toNat (by omega) (by simpa using c)).symm
   ·have hS : refN f l up s d s.toNat = true := by simpa using c
    refine zc<|za<|za<|yc (γ := Bool) [1, 2, 3, 4, 5, 11, 12, 14] (fun u => [(63, .bool u)]) (fun u => []) (fun u => u = decide (s ≠ f.vars.length ∧ (bd d f.vars.length).1 = true)) ?_ (fun _ _ h => h) ?_
    ·refine zRg<|z2 (zMi rfl)<|z2 (zMi rfl)<|z2 (yi rfl rfl)<|z2 (zMb rfl)<|zl (s := 56) rfl (fun c1=>?_) (fun c1=>?_)
     ·have h1 : s ≠ f.vars.length := notdecT c1
      refine z8 rfl rfl c1<|z2 (zMf rfl)<|z8 rfl rfl c1<|z2 (zMi rfl)<|z8 rfl rfl c1<|z2 (zIM f.vars.length underlying89 sizeOf148 rfl rfl rfl hgn)<|z8 rfl rfl c1<|z2 (zFF underlying148 rfl sizeOf3 rfl rfl)<|z8 rfl rfl c1<|z2 (zLi isAgg3 rfl)<|z8 rfl rfl c1<|z2 (y3 rfl rfl)<|z2 (zPt rfl c1 rfl)<|z6 ?_
      exact ⟨_, zR8, zR1, zLe, by rw [mk_one]; cases hh : (bd d f.vars.length).1 <;> simp [h1, hh]⟩
     ·have h1 : s = f.vars.length := notdecF c1
      refine z7 rfl rfl c1<|z7 rfl rfl c1<|z7 rfl rfl c1<|z7 rfl rfl c1<|z7 rfl rfl c1<|z7 rfl rfl c1<|z2 (zPf rfl c1 rfl)<|z6 ?_
      exact ⟨_, zR8, zR1, zLe, by rw [qv (fun e => e.1 h1)]⟩
    ·rintro u hu
     subst hu
     refine yc (γ := Unit) [2, 3, 4, 5, 11, 12] (fun w => []) (fun w => []) (fun w => refN f l up s d f.vars.length = true) ?_ (fun _ _ h => h) ?_
     ·refine zp rfl (fun c2=>?_) (fun c2=>?_)
      ·have hne : ¬ (f.vars.length : Int) = s := fun e => c2.1 e.symm
       have hlt : s < f.vars.length := by omega
       have hlow : lowU f l s = lowF l s := if_pos hlt
       have hnn := refN_n (f := f) (l := l) (up := up) (s := s) (d := d) hne c2.2
       obtain ⟨r, hr⟩ : ∃ r, rMeet (lv l s) (rType 2) = r := ⟨_, rfl⟩
       have hms := rMeet_s (E := E) (lv l s) (rType 2)
       have hlf : lowF l s = if r.2 < r.1 then (false, 0) else (true, -r.1) := by unfold lowF; rw [hr]
       have hlr := low_rng l s
       rw [hr] at hms hlr
       refine za<|yc (γ := Nat) [2, 3, 4, 5, 11, 12, 14] (fun z => [(15, .po z 0)]) (fun z => [(z, .cells 75 (encZ r))]) (fun z => True) ?_ (fun _ _ h => h) ?_
       ·refine y1 (fun j => false) (by kernel_rfl) rfl (zn (.rest _))<|zTk 0 rfl (zMf rfl)<|zTk 1 rfl (zMi rfl)<|zTk 2 rfl (zIM s.toNat underlying47 sizeOf75 rfl rfl (by omega) (lv_at2 hll hs.1 hlt))<|zTk 3 rfl (zk isAgg75 sizeOf75 rfl rfl)<|yk (i := 4) (j := 6) rfl rfl (by kernel_rfl) ?_ ?_
        ·refine ze (rType_s (t := 2) ⟨by decide, by decide⟩) rfl<|z6<|yk (i := 5) (j := 6) rfl rfl (by kernel_rfl) ?_ ?_
         ·refine ze (hms) rfl<|z6<|zOn 6 rfl<|zq (cs := [.int .i64 0, .int .i64 0]) zeroValue75 rfl rfl<|fun i15 => z6<|zOn 7 rfl<|zm sizeOf75 rfl rfl rfl rfl rfl rfl .head rfl<|z6<|zDn ?_
          exact ⟨i15, zR7, zR1, zLe, trivial⟩
         ·refine zq (cs := [.int .i64 0, .int .i64 0]) zeroValue75 rfl rfl<|fun i15 => z6<|zOn 5 rfl<|ze (hms) rfl<|z6<|zOn 7 rfl<|zm sizeOf75 rfl rfl rfl rfl rfl rfl .head rfl<|z6<|zDn ?_
          exact ⟨i15, zR7, zR1, zLe, trivial⟩
        ·refine zq (cs := [.int .i64 0, .int .i64 0]) zeroValue75 rfl rfl<|fun i15 => z6<|zOn 4 rfl<|ze (rType_s (t := 2) ⟨by decide, by decide⟩) rfl<|z6<|zOn 5 rfl<|ze (hms) rfl<|z6<|zOn 7 rfl<|zm sizeOf75 rfl rfl rfl rfl rfl rfl .head rfl<|z6<|zDn ?_
         exact ⟨i15, zR7, zR1, zLe, trivial⟩
       ·rintro z _
        refine yf (y9 (t := 15) rfl .head)<|za<|yc (γ := Bool) [2, 3, 4, 5, 11, 12] (fun u => [(86, .bool u)]) (fun u => []) (fun u => u = !refN f l up s d f.vars.length) ?_ (fun _ _ h => h) ?_
        ·refine y1 (fun j => false) (by kernel_rfl) rfl (zn (.rest _))<|zTk 0 rfl (zFF underlying75 rfl sizeOf2 rfl rfl)<|zTk 1 rfl (zLi isAgg2 rfl)<|zTk 2 rfl (zFF underlying75 rfl sizeOf2 rfl rfl)<|zTk 3 rfl (zLi isAgg2 rfl)<|zTk 4 rfl (yv rfl rfl)<|zTk 5 rfl (zMb rfl)<|AAny.case (s := 75) rfl (fun c3=>?_) (fun c3=>?_)
         ·have h3 : r.2 < r.1 := qz c3
          refine zTf 6 rfl rfl rfl c3<|zTf 7 rfl rfl rfl c3<|zTf 8 rfl rfl rfl c3<|zTf 9 rfl rfl rfl c3<|zTf 10 rfl rfl rfl c3<|zTf 11 rfl rfl rfl c3<|zTf 12 rfl rfl rfl c3<|zTf 13 rfl rfl rfl c3<|zTf 14 rfl rfl rfl c3<|zTf 15 rfl rfl rfl c3<|zTk 16 rfl (zPt rfl c3 rfl)<|zDn ?_
          exact ⟨_, zR6, zR1, zLe, by rw [hnn, hlow, hlf, if_pos h3]; rfl⟩
         ·have h3 : ¬ r.2 < r.1 := w3 c3
          have h64 := hlr h3
          refine zTt 6 rfl rfl rfl c3 (zMi rfl)<|zTt 7 rfl rfl rfl c3 (zFF underlying75 rfl sizeOf2 rfl rfl)<|zTt 8 rfl rfl rfl c3 (zLi isAgg2 rfl)<|zTt 9 rfl rfl rfl c3 (Gv.neg rfl)<|zTt 10 rfl rfl rfl c3 (zMf rfl)<|zTt 11 rfl rfl rfl c3 (zMi rfl)<|zTt 12 rfl rfl rfl c3 (zIM f.vars.length underlying89 sizeOf148 rfl rfl rfl hgn)<|zTt 13 rfl rfl rfl c3 (zFF underlying148 rfl sizeOf2 rfl rfl)<|zTt 14 rfl rfl rfl c3 (zLi isAgg2 rfl)<|zOn 15 rfl<|z8 rfl rfl c3<|ze (refBey_spec up _ _) rfl<|z6<|zTk 16 rfl (zPf rfl c3 rfl)<|zDn ?_
          exact ⟨_, zR6, zR1, zLe, by rw [hnn, hlow, hlf, if_neg h3, cov_bey, Bool.true_and, Bool.not_not, wrap_neg h64.1 h64.2, mk_n c2.2]⟩
        ·rintro u hu
         subst hu
         refine zr rfl (fun c4=>?_) (fun c4=>?_)
         ·refine zSr<|z2 (zAb rfl)<|z6<|zf<|zj (x := .bool _) rfl ?_
          exact jb (hbad f.vars.length (Nat.le_refl _) (by simpa using c4)).symm
         ·refine zc ?_
          exact ⟨(), zR6, trivial, zLe, by simpa using c4⟩
      ·have hz : refN f l up s d f.vars.length = true := by
        by_cases e : s = f.vars.length
        ·have : s.toNat = f.vars.length := by omega
         rw [← this]; exact hS
        ·exact refN_0 (fun h => e h.symm) (by cases hh : (bd d f.vars.length).1; rfl; exact absurd ⟨e, hh⟩ c2)
       refine zc ?_
       exact ⟨(), zR6, trivial, zLe, hz⟩
     ·rintro _ hNn
      refine za<|zSr<|z2 (zFF underlying26 rfl sizeOf22 rfl rfl)<|z2 (zLf isAgg22 rfl)<|z2 (zz underlying22 rfl)<|z2 (zMi rfl)<|z6<|zh<|y6 (γ := Nat) [2, 3, 4, 5, 11, 12, 89] (fun k => [(90, .int .i64 k)]) (fun k => []) (fun k => k ≤ f.vars.length ∧ (List.range k).all (refN f l up s d) = true) (fun k => f.vars.length - k) 0 zR1 zLe (⟨qm _, rfl⟩) ?_
      rintro k ⟨hk, hall⟩
      refine zSr<|z2 (y8 rfl rfl)<|z6<|za<|zp rfl (fun ck=>?_) (fun ck=>?_)
      ·have hk2 : k < f.vars.length := by simp at ck; omega
       have hgk := bd_get (d := d) (v := (k : Int)) (by omega) (by omega)
       refine zc<|za<|zh<|zSr<|z2 (zMi rfl)<|z2 (zAi rfl)<|z6<|za<|za<|yc (γ := Bool) [2, 3, 4, 5, 11, 12, 16, 89, 90] (fun u => [(103, .bool u)]) (fun u => []) (fun u => u = decide ((k : Int) = s ∨ (bd d k).1 = false)) ?_ (fun _ _ h => h) ?_
       ·refine zRg<|z2 (zMi rfl)<|z2 (zMi rfl)<|z2 (y3 rfl rfl)<|z2 (zMb rfl)<|zl (s := 96) rfl (fun c1=>?_) (fun c1=>?_)
        ·have h1 : (k : Int) = s := qz c1
         refine z7 rfl rfl c1<|z7 rfl rfl c1<|z7 rfl rfl c1<|z7 rfl rfl c1<|z7 rfl rfl c1<|z7 rfl rfl c1<|z2 (zPt rfl c1 rfl)<|z6 ?_
         exact ⟨_, zR9, zR1, zLe, (qu (.inl h1)).symm⟩
        ·have h1 : ¬ (k : Int) = s := w3 c1
         refine z8 rfl rfl c1<|z2 (zMf rfl)<|z8 rfl rfl c1<|z2 (zMi rfl)<|z8 rfl rfl c1<|z2 (zIM k underlying89 sizeOf148 rfl rfl rfl hgk)<|z8 rfl rfl c1<|z2 (zFF underlying148 rfl sizeOf3 rfl rfl)<|z8 rfl rfl c1<|z2 (zLi isAgg3 rfl)<|z8 rfl rfl c1<|z2 (yi rfl rfl)<|z2 (zPf rfl c1 rfl)<|z6 ?_
         exact ⟨_, zR9, zR1, zLe, by rw [mk_one]; cases hh : (bd d k).1 <;> simp [h1, hh]⟩
       ·rintro u hu
        subst hu
        refine zp rfl (fun c2=>?_) (fun c2=>?_)
        ·have hz : refN f l up s d k = true := by
          by_cases e : (k : Int) = s
          ·have : s.toNat = k := by omega
           rw [← this]; exact hS
          ·exact refN_0 e (c2.resolve_left e)
         refine y4<|zRg<|z2 (zAd rfl rfl)<|z2 (zMi rfl)<|z6 ?_
         exact ⟨k + 1, zR7, zR1, zLe, ⟨hk2, range_all_succ hall hz⟩, by omega⟩
        ·have hks : ¬ (k : Int) = s := fun e => c2 (.inl e)
         have hk1 : (bd d k).1 = true := by cases hh : (bd d k).1; exact absurd (.inr hh) c2; rfl
         refine zc<|zSr<|z2 (zk isAgg26 sizeOf26 rfl rfl)<|z2 (zMi rfl)<|ze (Maker_spec f hf k) rfl<|z2 (zMu rfl)<|z2 (zXi rfl rfl)<|z2 (zXi rfl rfl)<|z2 (zAi rfl)<|z2 (zAi rfl)<|z6<|za<|za<|yc (γ := Bool) [2, 3, 4, 5, 11, 12, 16, 17, 89, 90] (fun u => [(115, .bool u)]) (fun u => []) (fun u => u = decide (0 ≤ (makerT f k).1 ∧ (makerT f k).2 < 0)) ?_ (fun _ _ h => h) ?_
         ·refine zRg<|z2 (zMi rfl)<|z2 (q9 rfl rfl)<|z2 (zMb rfl)<|zl (s := 112) rfl (fun c1=>?_) (fun c1=>?_)
          ·refine z8 rfl rfl c1<|z2 (zMi rfl)<|z8 rfl rfl c1<|z2 (y8 rfl rfl)<|z2 (zPt rfl c1 rfl)<|z6 ?_
           exact ⟨_, zR10, zR1, zLe, by clear hbad hgood; simp_all <;> omega⟩
          ·refine z7 rfl rfl c1<|z7 rfl rfl c1<|z2 (zPf rfl c1 rfl)<|z6 ?_
           exact ⟨_, zR10, zR1, zLe, by clear hbad hgood; simp_all <;> omega⟩
         ·rintro u hu
          subst hu
          refine zp rfl (fun c3=>?_) (fun c3=>?_)
          ·obtain ⟨p, hp⟩ := phi_some c3.1 c3.2
           have hmi : (makerT f k).1 = (((makerT f k).1.toNat : Nat) : Int) := (qy c3.1).symm
           have hrp := refPhi27_spec (E := E) f hF hE up s hs d hdl k hk2 hk1 p hp _ hmi
           rw [← hmi] at hrp
           have hnk := refN_p (f := f) (l := l) (up := up) hks hk1 hk2 hp
           rw [← hnk] at hrp
           refine za<|zSr<|z2 (zk isAgg26 sizeOf26 rfl rfl)<|z2 (zMf rfl)<|z2 (zMi rfl)<|z2 (zMi rfl)<|z2 (zMf rfl)<|z2 (zMi rfl)<|z2 (zMi rfl)<|ze (hrp) rfl<|z2 (yd rfl)<|z6<|zr rfl (fun c4=>?_) (fun c4=>?_)
           ·refine zSr<|z2 (zAb rfl)<|z6<|zf<|zj (x := .bool _) rfl ?_
            exact jb (hbad k (by omega) (by simpa using c4)).symm
           ·refine zc<|y4<|zRg<|z2 (zAd rfl rfl)<|z2 (zMi rfl)<|z6 ?_
            exact ⟨k + 1, zR7, zR1, zLe, ⟨hk2, range_all_succ hall (by simpa using c4)⟩, by omega⟩
          ·have hp := phi_none c3
           have hnk := refN_e (f := f) (l := l) (up := up) hks hk1 hk2 hp
           rw [← hes] at hnk
           have hel := edges_few hf l up
           rw [← hes] at hel
           refine zc<|zSr<|z2 (zAb rfl)<|z6<|za<|zSr<|z2 (zMf rfl)<|z2 (zz underlying44 rfl)<|z2 (zMi rfl)<|z6<|zh<|y6 (γ := Nat × Bool) [2, 3, 4, 5, 11, 12, 16, 89, 90, 125, 126] (fun g => [(127, .int .i64 g.1), (19, .bool g.2)]) (fun g => []) (fun g => g.1 ≤ es.length ∧ g.2 = (intoE (es.take g.1) k).any (covE up d k)) (fun g => es.length - g.1) (0, false) zR2 zLe (⟨qm _, rfl⟩) ?_
           rintro ⟨q, fd⟩ ⟨hq, hfd⟩
           try dsimp only at *
           refine zSr<|z2 (y8 rfl rfl)<|z6<|za<|zp rfl (fun cq=>?_) (fun cq=>?_)
           ·have hq2 : q < es.length := by simp at cq; omega
            obtain ⟨e, he⟩ : ∃ e, es[q] = e := ⟨_, rfl⟩
            have hem : e ∈ edgesE f l up := by rw [← hes]; exact he ▸ qn hq2
            have heo := edge_ok hF h l up e hem
            have hen := edges_num hF.shaped hN hol hem
            have hge := bd_get (d := d) (v := e.1) heo.from0 (by have := heo.from1; omega)
            have hbn := bd_num hd e.1
            have hts : (intoE (es.take (q + 1)) k).any (covE up d k) = (fd || (decide (e.2.1 = (k : Int)) && covE up d k e)) := by
             rw [qk hq2, he]
             unfold intoE
             rw [List.filter_append, List.any_append]
             have : (es.take q).filter (fun e => decide (e.2.1 = (k : Int))) = intoE (es.take q) k := rfl
             rw [this, ← hfd]
             congr 1
             by_cases c : e.2.1 = (k : Int)
             ·rw [List.filter_cons_of_pos (by simpa using c), List.filter_nil, qu c]; simp
             ·rw [List.filter_cons_of_neg (by simpa using c), List.filter_nil, qv c]; rfl
            refine zc<|za<|zh<|zSr<|z2 (zIM q underlying44 sizeOf119 rfl rfl rfl (by rw [qj hq2, he]))<|z2 (zk isAgg119 sizeOf119 rfl rfl)<|zq (cs := [.int .i64 0, .int .i64 0, .int .i64 0]) zeroValue119 rfl rfl<|fun i21 => zm sizeOf119 rfl rfl rfl rfl rfl rfl .head rfl<|zd (y9 (t := 21) rfl .head)<|z6<|za<|za<|yc (γ := Bool) [2, 3, 4, 5, 11, 12, 16, 19, 21, 89, 90, 125, 126, 127] (fun u => [(143, .bool u)]) (fun u => []) (fun u => u = !decide (e.2.1 = (k : Int) ∧ (bd d e.1).1 = true)) ?_ (fun _ _ h => h) ?_
            ·refine zRg<|z2 (zFF underlying119 rfl sizeOf3 rfl rfl)<|z2 (zLi isAgg3 rfl)<|z2 (zMi rfl)<|z2 (yi rfl rfl)<|z2 (zMb rfl)<|zl (s := 135) rfl (fun c4=>?_) (fun c4=>?_)
             ·have h1 : ¬ e.2.1 = (k : Int) := notdecT c4
              refine z7 rfl rfl c4<|z7 rfl rfl c4<|z7 rfl rfl c4<|z7 rfl rfl c4<|z7 rfl rfl c4<|z7 rfl rfl c4<|z7 rfl rfl c4<|z2 (zPt rfl c4 rfl)<|z6 ?_
              exact ⟨_, zR14, zR1, zLe, by rw [qv (fun x => h1 x.1)]; rfl⟩
             ·have h1 : e.2.1 = (k : Int) := notdecF c4
              refine z8 rfl rfl c4<|z2 (zMf rfl)<|z8 rfl rfl c4<|z2 (zFF underlying119 rfl sizeOf3 rfl rfl)<|z8 rfl rfl c4<|z2 (zLi isAgg3 rfl)<|z8 rfl rfl c4<|z2 (zIM e.1.toNat underlying89 sizeOf148 rfl rfl (by have := heo.from0; omega) hge)<|z8 rfl rfl c4<|z2 (zFF underlying148 rfl sizeOf3 rfl rfl)<|z8 rfl rfl c4<|z2 (zLi isAgg3 rfl)<|z8 rfl rfl c4<|z2 (yi rfl rfl)<|z2 (zPf rfl c4 rfl)<|z6 ?_
              exact ⟨_, zR14, zR1, zLe, by rw [mk_one]; cases hh : (bd d e.1).1 <;> simp [h1, hh]⟩
            ·rintro u hu
             subst hu
             refine zr rfl (fun c5=>?_) (fun c5=>?_)
             ·have h5 := notdecT c5
              have hz : fd = (intoE (es.take (q + 1)) k).any (covE up d k) := by
               rw [hts]
               by_cases c : e.2.1 = (k : Int)
               ·have : (bd d e.1).1 = false := by cases hh : (bd d e.1).1; rfl; exact absurd ⟨c, hh⟩ h5
                rw [cov_none this]; simp
               ·rw [qv c]; simp
              refine y4<|zRg<|z2 (zAd rfl rfl)<|z2 (zMi rfl)<|z6 ?_
              exact ⟨(q + 1, fd), zR11, zR2, zLe, ⟨hq2, hz⟩, by dsimp only; omega⟩
             ·have h5 := notdecF c5
              have hcs := cov_some (up := up) (v := (k : Int)) h5.2 hbn hen
              have hrs := refSum_spec (E := E) up (bd d e.1).2 e.2.2 hbn hen
              obtain ⟨z, hz⟩ : ∃ z, sumR up (bd d e.1).2 e.2.2 = z := ⟨_, rfl⟩
              rw [hz] at hcs hrs
              rw [qu h5.1, Bool.true_and, hcs] at hts
              have hrs2 : AFun prog E 86 [.int .i64 (sgn up), .int .i64 (if (bd d e.1).1 = true then (bd d e.1).2 else 0), .int .i64 e.2.2] (.tup [.int .i64 z.1, .bool z.2]) := by rw [mk_n h5.2]; exact hrs
              refine zc<|za<|y1 (fun j => false) (by kernel_rfl) rfl (zn (.rest _))<|zTk 0 rfl (zMi rfl)<|zTk 1 rfl (zMf rfl)<|zTk 2 rfl (zFF underlying119 rfl sizeOf3 rfl rfl)<|zTk 3 rfl (zLi isAgg3 rfl)<|zTk 4 rfl (zIM e.1.toNat underlying89 sizeOf148 rfl rfl (by have := heo.from0; omega) hge)<|zTk 5 rfl (zFF underlying148 rfl sizeOf2 rfl rfl)<|zTk 6 rfl (zLi isAgg2 rfl)<|zTk 7 rfl (zFF underlying119 rfl sizeOf2 rfl rfl)<|zTk 8 rfl (zLi isAgg2 rfl)<|zOn 9 rfl<|ze (hrs2) rfl<|z6<|zTk 10 rfl (zMu rfl)<|zTk 11 rfl (zXi rfl rfl)<|zTk 12 rfl (zXb rfl rfl)<|zTk 13 rfl (zAi rfl)<|zTk 14 rfl (zAb rfl)<|zDn<|yc (γ := Bool) [2, 3, 4, 5, 11, 12, 16, 89, 90, 125, 126, 127] (fun u => [(19, .bool u)]) (fun u => []) (fun u => u = (fd || (z.2 && !beyB up z.1 (bd d k).2))) ?_ (fun _ _ h => h) ?_
              ·refine zRg<|z2 (zMb rfl)<|z2 (zMb rfl)<|zl (s := 158) rfl (fun c6=>?_) (fun c6=>?_)
               ·refine z7 rfl rfl c6<|z7 rfl rfl c6<|zb rfl rfl<|zb rfl rfl<|zb rfl rfl<|zb rfl rfl<|zb rfl rfl<|zb rfl rfl<|zb rfl rfl<|zb rfl rfl<|zb rfl rfl<|z7 rfl rfl c6<|z2 (zPt rfl c6 rfl)<|z2 (zAb rfl)<|z6 ?_
                exact ⟨_, zR12, zR1, zLe, by rw [show fd = true from c6]; rfl⟩
               ·refine z8 rfl rfl c6<|z2 (zMb rfl)<|z8 rfl rfl c6<|z2 (zMb rfl)<|zl (s := 160) rfl (fun c7=>?_) (fun c7=>?_)
                ·refine z8 rfl rfl c7<|z2 (zMi rfl)<|z8 rfl rfl c7<|z2 (zMi rfl)<|z8 rfl rfl c7<|z2 (zMf rfl)<|z8 rfl rfl c7<|z2 (zMi rfl)<|z8 rfl rfl c7<|z2 (zIM k underlying89 sizeOf148 rfl rfl rfl hgk)<|z8 rfl rfl c7<|z2 (zFF underlying148 rfl sizeOf2 rfl rfl)<|z8 rfl rfl c7<|z2 (zLi isAgg2 rfl)<|z8 rfl rfl c7<|ze (refBey_spec up z.1 _) rfl<|z8 rfl rfl c7<|z2 (yd rfl)<|z8 rfl rfl c6<|z2 (zPt rfl c7 rfl)<|z2 (zPf rfl c6 rfl)<|z2 (zAb rfl)<|z6 ?_
                 exact ⟨_, zR12, zR1, zLe, by rw [show fd = false from c6, show z.2 = true from c7, mk_n hk1]; rfl⟩
                ·refine z7 rfl rfl c7<|z7 rfl rfl c7<|z7 rfl rfl c7<|z7 rfl rfl c7<|z7 rfl rfl c7<|z7 rfl rfl c7<|z7 rfl rfl c7<|z7 rfl rfl c7<|z7 rfl rfl c7<|z8 rfl rfl c6<|z2 (zPf rfl c7 rfl)<|z2 (zPf rfl c6 rfl)<|z2 (zAb rfl)<|z6 ?_
                 exact ⟨_, zR12, zR1, zLe, by rw [show fd = false from c6, show z.2 = false from c7]; rfl⟩
              ·rintro u hu
               refine zRg<|z2 (zAd rfl rfl)<|z2 (zMi rfl)<|z6 ?_
               exact ⟨(q + 1, u), zR11, zR2, zLe, ⟨hq2, by rw [hts]; exact hu⟩, by dsimp only; omega⟩
           ·have hqn : q = es.length := by simp at cq; omega
            rw [hqn, qo, ← hnk] at hfd
            refine y4<|zSr<|z2 (zMb rfl)<|z2 (yd rfl)<|z6<|zr rfl (fun c4=>?_) (fun c4=>?_)
            ·refine zSr<|z2 (zAb rfl)<|z6<|zf<|zj (x := .bool _) rfl ?_
             exact jb (hbad k (by omega) (by rw [← hfd]; simpa using c4)).symm
            ·refine zc<|zRg<|z2 (zAd rfl rfl)<|z2 (zMi rfl)<|z6 ?_
             exact ⟨k + 1, zR7, zR1, zLe, ⟨hk2, range_all_succ hall (by rw [← hfd]; simpa using c4)⟩, by omega⟩
      ·have hkn : k = f.vars.length := by simp at ck; omega
       subst hkn
       refine y4<|zSr<|z2 (zAb rfl)<|z6<|zf<|zj (x := .bool _) rfl ?_
       exact jb (hgood hall hNn).symm
end Go.Proofs.YtjnpcfpecilejaaGreatDoor
