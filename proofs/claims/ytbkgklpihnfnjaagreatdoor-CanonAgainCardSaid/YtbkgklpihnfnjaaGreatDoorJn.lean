/- Numbers of digits; names; lists of them. No conditions but bounds. -/
import Derived.Test.YtbkgklpihnfnjaaGreatDoorJm
import Derived.Test.YtbkgklpihnfnjaaGreatDoorJk
import Derived.Test.YtbkgklpihnfnjaaGreatDoorJl
import Derived.Test.YtbkgklpihnfnjaaGreatDoorJh
import Derived.Test.YtbkgklpihnfnjaaGreatDoorJd
import Derived.Test.YtbkgklpihnfnjaaGreatDoorJi
import Derived.Test.YtbkgklpihnfnjaaGreatDoorJj
import Derived.Lib.SplitLaws
import Derived.Lib.ValidU
import Derived.Lib.SmallJoins
import Derived.Lib.ParseIntBTie
set_option linter.unusedVariables false
set_option linter.unusedSimpArgs false
set_option linter.unusedSectionVars false
namespace Go.Proofs.YtbkgklpihnfnjaaGreatDoor
open Go.Proofs.Tryz
open Go.Proofs Go.Lib Go.Shelf Go.RowKit
theorem pl38 : Places prog 38 #[(0, 1), (1, 1)] [.str ⟨#[]⟩, .int .i64 0] := ⟨_, _, Zf, Yz, fun w => by kernel_rfl, rfl⟩
theorem ps22_1 : PlacesS prog 22 38 1 2 [.str ⟨#[]⟩, .int .i64 0] := ⟨_, js, Zd, Yz, by decide, by decide, by kernel_rfl⟩
theorem pl41 : Places prog 41 #[(0, 1), (1, 1), (2, 1), (3, 1)] [.int .i64 0, .int .i64 0, .raw (.slice none 0 0), .int .i64 0] := ⟨_, _, jk, Zt, fun w => by kernel_rfl, rfl⟩
variable {E : World}
set_option maxRecDepth 20000
theorem prune_all {f : PFunc} (hT : typedB f = true) (hJ : JoinP f) : ∀ x : Int, 0 ≤ x → x < (pruneF f).blocks.length → x ∈ ord (pruneF f) := fun x h0 h1 => by
 have h := prune_like (typedE hT) (typedS hT) hJ
 obtain ⟨y, hy, e⟩ := h.onto x h0 h1
 rw [h.orders, ← e]
 exact List.mem_map_of_mem hy
theorem canB_vars {f : PFunc} (hT : typedB f = true) (hJ : JoinP f) : ∀ b ∈ canB f, ∀ v ∈ blkVars b, v ∈ vsL f := fun b hb v hv => by
 unfold vsL
 rw [see_mem]
 exact .inr (List.mem_append_right _ (List.mem_flatMap.2 ⟨b, hb, hv⟩))
theorem vs_rng {f : PFunc} (hT : typedB f = true) (hJ : JoinP f) {v : Int} (h : v ∈ vsL f) : 0 ≤ v ∧ v < f.vars.length := by
 have := vs_has hT hJ v h
 unfold hasV at this
 simp only [qs, qu] at this
 exact this
theorem canB_small {f : PFunc} (hf : small f) (hT : typedB f = true) (hJ : JoinP f) : ∀ b ∈ canB f, smallBlk b := fun b hb => by
 obtain ⟨h1, h2, h3, h4, h5⟩ := can_small hT hJ hf
 obtain ⟨g1, g2, g3, g4, g5⟩ := h5 (mapV (posI (vsL f)) b) (List.mem_map_of_mem hb)
 refine ⟨g1, by simpa [mapV] using g2, by simpa [mapV] using g3, fun p hp => ?_, fun x hx => ?_⟩
 ·have := g4 _ (List.mem_map_of_mem hp)
  simpa [phM] using this
 ·have := g5 _ (List.mem_map_of_mem hx)
  simpa [insM] using this
def valsV (f : PFunc) (k : Nat) : List PVar := ((vsL f).zipIdx.map (canV f)).take k
set_option maxHeartbeats 8000000 in
theorem canon_good (f : PFunc) (hf : small f) (hL : Letters E) (hPw : Pows E) (ht : typedB f = true) (hJ : JoinP f) : AFun prog E 6 [.agg (encF f)] (.tup [.agg (encF (canD f)), .int .i64 0]) := by
 have hjo := joinedX_spec (E := E) f hf hL
 rw [ht, (joinedB_iff _).2 hJ] at hjo
 have hjo : AFun prog E 13 [.agg (encF f)] (.int .i64 0) := hjo
 have hpr := prune_spec f hf hL ht hJ
 have hgs := prune_small hf
 have hgt := prune_typed ht hJ
 have htu := turned_spec (pruneF f) hgs hL hPw hgt.1 hgt.2 (prune_all ht hJ)
 rw [← prune_can ht hJ]
 obtain ⟨g, hg⟩ : ∃ g, pruneF f = g := ⟨_, rfl⟩
 rw [hg] at hpr hgs hgt htu ⊢
 obtain ⟨gt, gJ⟩ := hgt
 have hvr := fun v => vs_rng (f := g) gt gJ (v := v)
 have hpv : ∀ v ∈ g.params, v ∈ vsL g := fun v hv => vs_par hv
 have hbv := canB_vars gt gJ
 have hbs := canB_small hgs gt gJ
 obtain ⟨hg1, hg2, hg3, hg4, hg5⟩ := id hgs
 have hvl := vs_len gt gJ
 have hcl : (canB g).length = g.blocks.length ∨ (canB g).length ≤ 1000 := .inr (by
  have := canB_len (f := g)
  have h2 : (ord g).length ≤ g.blocks.length := order_len (typedE gt).grph
  omega)
 have hcl : (canB g).length ≤ 1000 := by omega
 have hsee := seen_spec (E := E) .any g.params (canB g) g.vars.length hg1 (fun v hv => hvr v (hpv v hv)) (fun b hb v hv => hvr v (hbv b hb v hv)) hg2 hcl hbs (.fro 2 (g.vars.map encVar)) (.fro 7 (g.blocks.map encBlk))
 rw [show seeL [] (g.params ++ (canB g).flatMap blkVars) = vsL g from rfl] at hsee
 refine zk func6 Z (by decide) Z<|zSr<|AOps.boxO (cs := _) Z Z Z Z<|fun i1 => zq (cs := [.raw (.slice none 0 0), .raw (.slice none 0 0), .raw (.slice none 0 0)]) Zh Z Z<|fun i2 => zVzAi Z<|z6<|zb<|zSr<|z8 (yg ju jj Z ⟨_, .t1⟩ Z)<|zd (hjo) Z<|zVzAi Z<|z6<|zSr<|zVzMi Z<|zVGvneqI Z Z<|z6<|yc Z Z<|zf<|zSr<|z8 (yg ju jj Z ⟨_, .t1⟩ Z)<|zd (hpr) Z<|z8 (zMu Z)<|z8 (yk (v := .agg _) Z Z)<|z8 (zXi Z Z)<|zm jj Z Z Z Z Z Z .t1 Z<|y1 (yj (t := 1) Z .t1)<|zVzAi Z<|z6<|zb<|zSr<|zVzMi Z<|zVGvneqI Z Z<|z6<|yc Z Z<|zf<|zSr<|zVGvloadWF ju jj Z Z<|zd (htu) Z<|z8 (zAf Z) ?_
 refine z6<|zSr<|zVGvloadWF ju jj Z Z<|zVzMf Z<|ye Z (zu (.r (.rest _))) (hsee) ?_
 rintro r38 O38 ⟨⟨o, bm, io, es⟩, rfl, rfl, hM⟩
 refine z8 (zAp Z)<|z6<|zSr<|zVzFF jc Z jn Z Z<|zVzLf jz Z<|zd (cloneI_spec g.params hg2) Z<|z8 (y4 (cps := [(1, [_])]) (rs := [.raw (.slice none 0 0), _, .raw (.slice none 0 0)]) pl26 Z Z Z)<|zq (cs := [.raw (.slice none 0 0), .raw (.slice none 0 0), .raw (.slice none 0 0)]) Zh Z Z<|fun i8 => zm jj Z Z Z Z Z Z .head Z<|z6<|zb<|zSr<|zVzMp Z<|zVGvnilCheckO Z<|z8 (zc Y4 Z jn (by decide) Z Z)<|z8 (zj (c := .own _ _) jz Z ⟨_, .t1⟩ Z)<|z8 (q7 j9 Z)<|zVzMi Z<|z6<|adoptC_wp (off := 0) (k := 2) (T := 38) (fun _ => .head) Z<|fun iv => zt (zn (zp .t1))<|zg<|y3 (γ := Nat × Nat) [1, 2, 6, 7, 8, 46, 47] (fun q => [(48, .int .i64 q.1)]) (fun q => [(i8, .cells 26 [.own q.2 q.1, .fro 1 (g.params.map encI), .raw (.slice none 0 0)]), (q.2, .grow 2 38 ((valsV g q.1).map encVar).flatten), (o, .cells 57 [.own io (vsL g).length, mref bm]), (io, .grow 1 3 (cI (vsL g))), (0, mapAO bm es), (i2, .cells 26 [.raw (.slice none 0 0), .raw (.slice none 0 0), .raw (.slice none 0 0)])]) (fun q => q.1 ≤ (vsL g).length) (fun q => (vsL g).length - q.1) (0, iv) zR1 zLe (qg _) ?_
 rintro ⟨k, iv⟩ hk
 try dsimp only at *
 refine zSr<|zVGvlss Z Z<|z6<|zb<|zr Z (fun ck=>?_) (fun ck=>?_)
 ·have hk2 : k < (vsL g).length := by omega
  obtain ⟨v, hv⟩ : ∃ v, (vsL g)[k] = v := ⟨_, rfl⟩
  have hgv : (vsL g)[k]? = some v := by rw [qd hk2, hv]
  have hvv := hvr v (hv ▸ qh hk2)
  obtain ⟨x, hx⟩ : ∃ x, g.vars[v.toNat]'(by omega) = x := ⟨_, rfl⟩
  have hgx : g.vars[v.toNat]? = some x := by rw [qd (by omega), hx]
  have hkv : kindV g v = x.ty := by unfold kindV; rw [hgx]; rfl
  have hvn : valsV g (k + 1) = valsV g k ++ [⟨nameK 118 k, x.ty⟩] := by
   unfold valsV
   rw [List.take_add_one, ql, List.getElem?_zipIdx, hgv, ← hkv]
   simp [canV]
  have hsz : (⟨#[118]⟩ : ByteArray).size + (⟨(Lib.itoa (k : Int)).toArray⟩ : ByteArray).size ≤ 100 := by
   have := Lib.itoa_length_le (k : Int) (by omega) (by omega)
   show 1 + (List.toArray _).size ≤ _
   rw [List.size_toArray]; omega
  refine zf<|zb<|zg<|zSr<|zVzMi Z<|z8 (Gv.idxI (j := k) j9 jd Z Z Z ⟨_, .t3⟩ (cI_len _) hk2)<|z8 (Gv.loadI (j := k) jr Z ⟨_, .t3⟩ hgv)<|zVzAi Z<|zVzAi Z<|z6<|zw (fun j => Nat.beq j 15) (by kernel_rfl) Z (zu (.r (.rest _)))<|zTk 0 Z (zc jc Z Z9 (by decide) Z Z)<|zTk 1 Z (zj (c := .own _ _) Zn Z ⟨_, .head⟩ Z)<|zTk 2 Z (zMi Z)<|zTk 5 Z (zFF jc Z Z9 Z Z)<|zTk 6 Z (zLf Zn Z)<|zTk 7 Z (zMi Z)<|zTk 8 Z (zIM v.toNat js Zd Z Z (by omega) hgx)<|zTk 9 Z (zFF Zf Z Xh Z Z)<|zTk 10 Z (zLi isAgg36 Z)<|zOn 3 Z<|zd (itoa_spec k ⟨by omega, by omega⟩ hPw) Z<|z6<|zTk 4 Z (Gv.addT Z Z (by omega))<|zTk 11 Z (y4 (cps := [(0, [_]), (1, [_])]) (rs := [_, _]) pl38 Z Z Z)<|zOn 12 Z<|zl (rows := [[_, _]]) ps22_1 Z Z Z Z Z<|z6<|zOn 13 Z<|zy (k := 2) js type38 Z Z Z Z Z (fun _ => .head) (by rw [grow_len (k := 2) (fun _ => rfl)]; unfold valsV; rw [qp, qk, List.length_zipIdx]; omega) (by decide) Z (by show (_ + _) * 24 ≤ _; simp <;> omega) (by simp <;> omega)<|fun i66 => z6<|zTk 14 Z (zc jc Z Z9 (by decide) Z Z)<|yb<|y7 (i := 15) Z (by kernel_rfl) (by kernel_rfl)<|y5 (l := [_]) (new := [_, _, _]) Z9 Z Z Z Z Z Z .head Z Z<|z6<|yf (by kernel_rfl)<|zRg<|zVzAd Z Z<|zVzMi Z ?_
  refine z6 ?_
  exact ⟨(k + 1, i66), zR7, zR1, ⟨_, (.refl _), by rw [hvn, qo, List.flatten_append, ← nameK_itoa]; rfl⟩, hk2, by dsimp only; omega⟩
 ·obtain rfl : k = (vsL g).length := by omega
  have hvs : valsV g (vsL g).length = (canD g).vars := by
   unfold valsV
   rw [List.take_of_length_le (by rw [qk, List.length_zipIdx]; exact Nat.le_refl _)]; rfl
  rw [hvs, cI_fl (vsL g)]
  refine y2<|zt (ym (off := 0) (rows := (canD g).vars.map encVar) .t1 .head Z (by intro r hr; obtain ⟨z, _, rfl⟩ := List.mem_map.1 hr; rfl) (by decide) (by rw [qk]; exact can_vlen))<|zt (ym (off := 0) (rows := (vsL g).map encI) .t2 .t1 Z (by intro r hr; obtain ⟨z, _, rfl⟩ := List.mem_map.1 hr; rfl) (by decide) (by rw [qk]))<|zt (GStep.knowMap (off := 1) .t2 .t1 Z (hM))<|zt (yj (t := 7) Z .t1)<|zb<|zSr<|zVzMf Z<|zVGvlenM jo Z<|zVzMi Z<|z6<|adoptC_wp (off := 2) (k := 7) (T := 49) (fun _ => .head) Z<|fun ib => zt (zn (zp .t1))<|zg<|y3 (γ := Nat × Nat) [2, 7, 8, 69, 70] (fun q => [(71, .int .i64 q.1)]) (fun q => [(i8, .cells 26 [.fro 2 ((canD g).vars.map encVar), .fro 1 (g.params.map encI), .own q.2 q.1]), (q.2, .grow 7 49 ((((canB g).take q.1).map (mapV (posI (vsL g)))).map encBlk).flatten), (i2, .cells 26 [.raw (.slice none 0 0), .raw (.slice none 0 0), .raw (.slice none 0 0)])]) (fun q => q.1 ≤ (canB g).length) (fun q => (canB g).length - q.1) (0, ib) zR1 zLe (qg _) ?_
  rintro ⟨k, ib⟩ hk
  try dsimp only at *
  refine zSr<|zVGvlss Z Z<|z6<|zb<|zr Z (fun ck=>?_) (fun ck=>?_)
  ·have hk2 : k < (canB g).length := by omega
   obtain ⟨b, hb⟩ : ∃ b, (canB g)[k] = b := ⟨_, rfl⟩
   have hgb : (canB g)[k]? = some b := by rw [qd hk2, hb]
   have hbm : b ∈ canB g := hb ▸ qh hk2
   obtain ⟨q1, q2, q3, q4, q5⟩ := hbs b hbm
   have hv := hbv b hbm
   have hcl7 : (((((canB g).take k).map (mapV (posI (vsL g)))).map encBlk).flatten).length = k * 7 := by rw [grow_len (k := 7) (fun _ => rfl), qk, qp]; omega
   refine zf<|zb<|zg<|zSr<|z8 (zIM k jo jt Z Z Z hgb)<|zVGvloadWF Zq jt Z Z<|zq (cs := [.str ⟨#[]⟩, .raw (.slice none 0 0), .raw (.slice none 0 0), .int .i64 0, .int .i64 0, .int .i64 0, .int .i64 0]) Zb Z Z<|fun i12 => zm jt Z Z Z Z Z Z .head Z<|y1 (yj (t := 12) Z .head)<|z6<|zSr<|zVzFF ja Z jx Z Z<|z8 (ya (c := .str _) Z5 Z)<|zVzFF ja Z Z4 Z Z<|zVGvloadWF Ym Z4 Z Z<|z8 (y4 (cps := [(0, [_]), (3, [_, _, _, _])]) (rs := [_, .raw (.slice none 0 0), .raw (.slice none 0 0), _, _, _, _]) pl49 Z Z Z)<|zq (cs := [.str ⟨#[]⟩, .raw (.slice none 0 0), .raw (.slice none 0 0), .int .i64 0, .int .i64 0, .int .i64 0, .int .i64 0]) Zb Z Z<|fun i13 => zm jt Z Z Z Z Z Z .head Z<|z6<|zb<|zSr<|zVzFF ja Z Za Z Z<|zVzLf Zu Z<|zVGvlenM jw Z<|zVzMi Z<|z6<|adoptC_wp (off := 1) (k := 3) (T := 60) (fun _ => .head) Z<|fun ip => zt (zn (zp .t1))<|zg<|y3 (γ := Nat × Nat) [2, 7, 8, 12, 13, 69, 70, 71, 81, 82] (fun q => [(83, .int .i64 q.1)]) (fun q => [(i13, .cells 49 [.str b.name, .own q.2 q.1, .raw (.slice none 0 0), .int .i64 b.term.kind, .int .i64 b.term.var, .int .i64 b.term.to0, .int .i64 b.term.to1]), (q.2, .grow 3 60 (((b.phis.take q.1).map (phM (posI (vsL g)))).map encPhi).flatten), (i8, .cells 26 [.fro 2 ((canD g).vars.map encVar), .fro 1 (g.params.map encI), .own ib k]), (ib, .grow 7 49 ((((canB g).take k).map (mapV (posI (vsL g)))).map encBlk).flatten), (i2, .cells 26 [.raw (.slice none 0 0), .raw (.slice none 0 0), .raw (.slice none 0 0)])]) (fun q => q.1 ≤ b.phis.length) (fun q => b.phis.length - q.1) (0, ip) zR1 zLe (qg _) ?_
   rintro ⟨m, ip⟩ hm
   try dsimp only at *
   refine zSr<|zVGvlss Z Z<|z6<|zb<|zr Z (fun cm=>?_) (fun cm=>?_)
   ·have hm2 : m < b.phis.length := by omega
    obtain ⟨p, hp⟩ : ∃ p, b.phis[m] = p := ⟨_, rfl⟩
    have hgp : b.phis[m]? = some p := by rw [qd hm2, hp]
    have hpm : p ∈ b.phis := hp ▸ qh hm2
    have hpl := q4 p hpm
    have hpv2 : ∀ v ∈ phiVars p, v ∈ vsL g := fun v h => hv v (List.mem_append_left _ (List.mem_flatMap.2 ⟨p, hpm, h⟩))
    refine zf<|zb<|zg<|zSr<|z8 (zIM m jw Z0 Z Z Z hgp)<|zVGvloadWF Zv Z0 Z Z<|zq (cs := [.int .i64 0, .raw (.slice none 0 0), .raw (.slice none 0 0)]) Zk Z Z<|fun i15 => zm Z0 Z Z Z Z Z Z .head Z<|y1 (yj (t := 15) Z .head)<|z6<|zw (fun j => Nat.beq j 19) (by kernel_rfl) Z (zu (.r (.rest _)))<|zTk 0 Z (zc ja Z Za (by decide) Z Z)<|zTk 1 Z (zj (c := .own _ _) Zu Z ⟨_, .head⟩ Z)<|zTk 2 Z (zMg Z)<|zTk 3 Z (Gv.nilCheckF Z)<|zTk 4 Z (zFF Y4 Z sizeOf55 Z Z)<|zTk 5 Z (ya (c := mapL (vsL g)) isAgg55 Z)<|zTk 6 Z (zFF jm Z jd Z Z)<|zTk 7 Z (zLi jr Z)<|zTk 8 Z (Gv.lookupL (hpv2 p.dst (.head _)) X2 Zg Z Z)<|zTk 9 Z (zMg Z)<|zTk 10 Z (zFF jm Z jn Z Z)<|zTk 11 Z (zLf jz Z)<|zTk 13 Z (zFF jm Z jn Z Z)<|zTk 14 Z (zLf jz Z)<|zOn 12 Z<|zd (allF_spec (vsL g) p.args (by omega) (fun v h => hpv2 v (.tail _ h))) Z<|z6<|zTk 15 Z (y4 (cps := [(0, [_]), (1, [_]), (2, [_])]) (rs := [_, _, _]) pl60 Z Z Z)<|zOn 16 Z<|zl (rows := [[_, _, _]]) ps47_1 Z Z Z Z Z<|z6<|zOn 17 Z<|zy (k := 3) jw type60 Z Z Z Z Z (fun _ => .head) (by rw [grow_len (k := 3) (fun _ => rfl), qk, qp, Nat.min_eq_left hm]) (by decide) Z (by show (_ + _) * 56 ≤ _; simp <;> omega) (by simp <;> omega)<|fun i104 => z6<|zTk 18 Z (zc ja Z Za (by decide) Z Z)<|yb<|y7 (i := 19) Z (by kernel_rfl) (by kernel_rfl)<|y5 (l := [_]) (new := [_, _, _, _, _, _, _]) Za Z Z Z Z Z Z .head Z Z ?_
    refine z6<|yf (by kernel_rfl)<|zRg<|zVzAd Z Z<|zVzMi Z<|z6 ?_
    exact ⟨(m + 1, i104), ⟨rfl, rfl, rfl, rfl, rfl, rfl, rfl, rfl, rfl, rfl, trivial⟩, zR1, ⟨_, (.refl _), by rw [List.take_add_one, hgp, qo, qo, List.flatten_append]; rfl⟩, hm2, by dsimp only; omega⟩
   ·obtain rfl : m = b.phis.length := by omega
    rw [qi]
    refine y2<|zt (ym (off := 1) (rows := (b.phis.map (phM (posI (vsL g)))).map encPhi) .t1 .head Z (by intro r hr; obtain ⟨z, _, rfl⟩ := List.mem_map.1 hr; rfl) (by decide) (by simp))<|zb<|zSr<|zVzFF ja Z Zi Z Z<|zVzLf Y1 Z<|zVGvlenM Z1 Z<|zVzMi Z<|z6<|adoptC_wp (off := 2) (k := 4) (T := 41) (fun _ => .head) Z<|fun ii => zt (zn (zp .t1))<|zg<|y3 (γ := Nat × Nat) [2, 7, 8, 12, 13, 69, 70, 71, 108, 109] (fun q => [(110, .int .i64 q.1)]) (fun q => [(i13, .cells 49 [.str b.name, .fro 3 ((b.phis.map (phM (posI (vsL g)))).map encPhi), .own q.2 q.1, .int .i64 b.term.kind, .int .i64 b.term.var, .int .i64 b.term.to0, .int .i64 b.term.to1]), (q.2, .grow 4 41 (((b.insts.take q.1).map (insM (posI (vsL g)))).map encInst).flatten), (i8, .cells 26 [.fro 2 ((canD g).vars.map encVar), .fro 1 (g.params.map encI), .own ib k]), (ib, .grow 7 49 ((((canB g).take k).map (mapV (posI (vsL g)))).map encBlk).flatten), (i2, .cells 26 [.raw (.slice none 0 0), .raw (.slice none 0 0), .raw (.slice none 0 0)])]) (fun q => q.1 ≤ b.insts.length) (fun q => b.insts.length - q.1) (0, ii) zR1 zLe (qg _) ?_
    rintro ⟨m, ii⟩ hm
    try dsimp only at *
    refine zSr<|zVGvlss Z Z<|z6<|zb<|zr Z (fun cm=>?_) (fun cm=>?_)
    ·have hm2 : m < b.insts.length := by omega
     obtain ⟨x, hx⟩ : ∃ x, b.insts[m] = x := ⟨_, rfl⟩
     have hgx : b.insts[m]? = some x := by rw [qd hm2, hx]
     have hxm : x ∈ b.insts := hx ▸ qh hm2
     have hxl := q5 x hxm
     have hxv : ∀ v ∈ instVars x, v ∈ vsL g := fun v h => hv v (List.mem_append_right _ (List.mem_append_left _ (List.mem_flatMap.2 ⟨x, hxm, h⟩)))
     have hil : ((((b.insts.take m).map (insM (posI (vsL g)))).map encInst).flatten).length = m * 4 := by rw [grow_len (k := 4) (fun _ => rfl), qk, qp, Nat.min_eq_left hm]
     have hpush : ∀ y : PInst, insM (posI (vsL g)) x = y → (((b.insts.take m).map (insM (posI (vsL g)))).map encInst).flatten ++ encInst y = (((b.insts.take (m + 1)).map (insM (posI (vsL g)))).map encInst).flatten := fun y h => by
      rw [List.take_add_one, hgx, qo, qo, List.flatten_append, ← h]
      simp
     refine zf<|zb<|zg<|zSr<|z8 (zIM m Z1 Z7 Z Z Z hgx)<|zVGvloadWF Y3 Z7 Z Z<|zq (cs := [.int .i64 0, .int .i64 0, .raw (.slice none 0 0), .int .i64 0]) Zt Z Z<|fun i17 => zm Z7 Z Z Z Z Z Z .head Z<|y1 (yj (t := 17) Z .head)<|z6<|zb<|yn (γ := Nat) [2, 7, 8, 12, 13, 17, 69, 70, 71, 108, 109, 110] (fun i => [(18, .po i 0)]) (fun i => [(i, .cells 41 (encInst ⟨x.op, x.dst, x.args.map (posI (vsL g)), x.num⟩)), (i13, .cells 49 [.str b.name, .fro 3 ((b.phis.map (phM (posI (vsL g)))).map encPhi), .own ii m, .int .i64 b.term.kind, .int .i64 b.term.var, .int .i64 b.term.to0, .int .i64 b.term.to1]), (ii, .grow 4 41 (((b.insts.take m).map (insM (posI (vsL g)))).map encInst).flatten), (i8, .cells 26 [.fro 2 ((canD g).vars.map encVar), .fro 1 (g.params.map encI), .own ib k]), (ib, .grow 7 49 ((((canB g).take k).map (mapV (posI (vsL g)))).map encBlk).flatten), (i2, .cells 26 [.raw (.slice none 0 0), .raw (.slice none 0 0), .raw (.slice none 0 0)])]) (fun i => True) ?_ (fun _ _ h => h) ?_
     ·refine zw (fun j => Nat.beq j 12) (by kernel_rfl) Z (zu (.rest _))<|zTk 0 Z (zFF jk Z Zx Z Z)<|zTk 1 Z (zLi Y8 Z)<|zTk 2 Z (zFF jk Z jd Z Z)<|zTk 3 Z (zLi jr Z)<|zTk 4 Z (zMg Z)<|zTk 5 Z (zFF jk Z jn Z Z)<|zTk 6 Z (zLf jz Z)<|zTk 8 Z (zFF jk Z Yl Z Z)<|zTk 9 Z (zLi X7 Z)<|yy (i := 7) (j := 11) Z Z (by kernel_rfl) ?_ ?_
      ·refine zd (allF_spec (vsL g) x.args (by omega) (fun v h => hxv v (List.mem_append_left _ h))) Z<|z6<|zTk 10 Z (y4 (cps := [(0, [_]), (1, [_]), (2, [_]), (3, [_])]) (rs := [_, _, _, _]) pl41 Z Z Z)<|zOn 11 Z<|zq (cs := [.int .i64 0, .int .i64 0, .raw (.slice none 0 0), .int .i64 0]) Zt Z Z<|fun i18 => z6<|yb<|y7 (i := 12) Z (by kernel_rfl) (by kernel_rfl)<|zm Z7 Z Z Z Z Z Z .head Z<|z6<|yf (by kernel_rfl) ?_
       exact ⟨i18, zR12, zR1, zLe, trivial⟩
      ·refine zq (cs := [.int .i64 0, .int .i64 0, .raw (.slice none 0 0), .int .i64 0]) Zt Z Z<|fun i18 => z6<|zOn 7 Z<|zd (allF_spec (vsL g) x.args (by omega) (fun v h => hxv v (List.mem_append_left _ h))) Z<|z6<|zTk 10 Z (y4 (cps := [(0, [_]), (1, [_]), (2, [_]), (3, [_])]) (rs := [_, _, _, _]) pl41 Z Z Z)<|yb<|y7 (i := 12) Z (by kernel_rfl) (by kernel_rfl)<|zm Z7 Z Z Z Z Z Z .head Z<|z6<|yf (by kernel_rfl) ?_
       exact ⟨i18, zR12, zR1, zLe, trivial⟩
     ·rintro i18 _
      refine zb<|zSr<|zVzFF jk Z jd Z Z<|zVzLi jr Z<|z8 (qc Z Z)<|z6<|zr Z (fun cd=>?_) (fun cd=>?_)
      ·have hd : 0 ≤ x.dst := by first | exact cd | omega
       have hxd : x.dst ∈ vsL g := hxv _ (List.mem_append_right _ (by rw [if_pos hd]; exact .head _))
       refine zw (fun j => Nat.beq j 8) (by kernel_rfl) Z (zu (.rest _))<|zTk 0 Z (zMg Z)<|zTk 1 Z (Gv.nilCheckF Z)<|zTk 2 Z (zFF Y4 Z sizeOf55 Z Z)<|zTk 3 Z (ya (c := mapL (vsL g)) isAgg55 Z)<|zTk 4 Z (zFF jk Z jd Z Z)<|zTk 5 Z (zLi jr Z)<|zTk 6 Z (Gv.lookupL hxd X2 Zg Z Z)<|zTk 7 Z (zc jk Z jd (by decide) Z Z)<|yb<|y7 (i := 8) Z (by kernel_rfl) (by kernel_rfl)<|y5 (l := [_]) (new := [_, _, _, _]) jd Z Z Z Z Z Z .head Z Z<|z6<|yf (by kernel_rfl)<|zRg<|z8 (zc ja Z Zi (by decide) Z Z)<|z8 (zj (c := .own _ _) Y1 Z ⟨_, .t1⟩ Z)<|z8 (yg Y3 Z7 Z ⟨_, .head⟩ Z)<|zl (rows := [[_, _, _, _]]) ps42_1 Z Z Z Z Z<|zy (k := 4) Z1 type41 Z Z Z Z Z (fun _ => .t2) hil (by decide) Z (by show (_ + _) * 48 ≤ _; simp <;> omega) (by simp <;> omega)<|fun i140 => z8 (zc ja Z Zi (by decide) Z Z)<|y5 (l := [_]) (new := [_, _, _, _, _, _, _]) Zi Z Z Z Z Z Z .t1 Z Z<|z6<|zRg<|zVzAd Z Z<|zVzMi Z<|z6 ?_
       exact ⟨(m + 1, i140), ⟨rfl, rfl, rfl, rfl, rfl, rfl, rfl, rfl, rfl, rfl, trivial⟩, zR1, ⟨_, (.drop (.refl _)), by rw [← hpush ⟨x.op, posI (vsL g) x.dst, x.args.map (posI (vsL g)), x.num⟩ (by unfold insM; rw [if_pos hd])]; rfl⟩, hm2, by dsimp only; omega⟩
      ·have hd : ¬ 0 ≤ x.dst := by first | exact cd | omega
       refine zf<|zRg<|z8 (zc ja Z Zi (by decide) Z Z)<|z8 (zj (c := .own _ _) Y1 Z ⟨_, .t1⟩ Z)<|z8 (yg Y3 Z7 Z ⟨_, .head⟩ Z)<|zl (rows := [[_, _, _, _]]) ps42_1 Z Z Z Z Z<|zy (k := 4) Z1 type41 Z Z Z Z Z (fun _ => .t2) hil (by decide) Z (by show (_ + _) * 48 ≤ _; simp <;> omega) (by simp <;> omega)<|fun i140 => z8 (zc ja Z Zi (by decide) Z Z)<|y5 (l := [_]) (new := [_, _, _, _, _, _, _]) Zi Z Z Z Z Z Z .t1 Z Z<|z6<|zRg<|zVzAd Z Z<|zVzMi Z<|z6 ?_
       exact ⟨(m + 1, i140), ⟨rfl, rfl, rfl, rfl, rfl, rfl, rfl, rfl, rfl, rfl, trivial⟩, zR1, ⟨_, (.drop (.refl _)), by rw [← hpush ⟨x.op, x.dst, x.args.map (posI (vsL g)), x.num⟩ (by unfold insM; rw [if_neg hd])]; rfl⟩, hm2, by dsimp only; omega⟩
    ·obtain rfl : m = b.insts.length := by omega
     rw [qi]
     have hpush : ∀ v : Int, (⟨b.term.kind, v, b.term.to0, b.term.to1⟩ : PTerm) = trmM (posI (vsL g)) id b.term → ((((canB g).take k).map (mapV (posI (vsL g)))).map encBlk).flatten ++ [AV.str b.name, .fro 3 ((b.phis.map (phM (posI (vsL g)))).map encPhi), .fro 4 ((b.insts.map (insM (posI (vsL g)))).map encInst), .int .i64 b.term.kind, .int .i64 v, .int .i64 b.term.to0, .int .i64 b.term.to1] = ((((canB g).take (k + 1)).map (mapV (posI (vsL g)))).map encBlk).flatten := fun v h => by
      rw [List.take_add_one, hgb, qo, qo, List.flatten_append]
      congr 1
      show _ = ([encBlk (mapV (posI (vsL g)) b)] : List (List AV)).flatten
      unfold mapV
      rw [← h]; rfl
     refine y2<|zt (ym (off := 2) (rows := (b.insts.map (insM (posI (vsL g)))).map encInst) .t1 .head Z (by intro r hr; obtain ⟨z, _, rfl⟩ := List.mem_map.1 hr; rfl) (by decide) (by simp))<|zb<|zSr<|zVzFF ja Z Z4 Z Z<|zVzFF je Z Zl Z Z<|zVzLi Y0 Z<|zVGvneqI Z Z<|z6<|zz Z (fun ct=>?_) (fun ct=>?_)
     ·have hk0 : ¬ b.term.kind = 0 := by first | exact ct | simpa using ct
      have htv : b.term.var ∈ vsL g := hv _ (List.mem_append_right _ (List.mem_append_right _ (by unfold termVars; rw [if_neg hk0]; exact .head _)))
      refine zw (fun j => Nat.beq j 10) (by kernel_rfl) Z (zu (.rest _))<|zTk 0 Z (zMg Z)<|zTk 1 Z (Gv.nilCheckF Z)<|zTk 2 Z (zFF Y4 Z sizeOf55 Z Z)<|zTk 3 Z (ya (c := mapL (vsL g)) isAgg55 Z)<|zTk 4 Z (zFF ja Z Z4 Z Z)<|zTk 5 Z (zFF je Z jd Z Z)<|zTk 6 Z (zLi jr Z)<|zTk 7 Z (Gv.lookupL htv X2 Zg Z Z)<|yd (i := 8) Z (by kernel_rfl) (by kernel_rfl) (by kernel_rfl) (by kernel_rfl) (zc ja Z Z4 (by decide) Z Z)<|zTk 9 Z (zc je Z jd (by decide) Z Z)<|yb<|y7 (i := 10) Z (by kernel_rfl) (by kernel_rfl)<|y5 (l := [_]) (new := [_, _, _, _, _, _, _]) jd Z Z Z Z Z Z .head Z Z<|z6<|yf (by kernel_rfl)<|zRg<|z8 (zc jc Z Z2 (by decide) Z Z)<|z8 (zj (c := .own _ _) Ze Z ⟨_, .t1⟩ Z)<|z8 (yg Zq jt Z ⟨_, .head⟩ Z)<|zl (rows := [[_, _, _, _, _, _, _]]) ps24_1 Z Z Z Z Z<|zy (k := 7) jo type49 Z Z Z Z Z (fun _ => .t2) hcl7 (by decide) Z (by show (_ + _) * 96 ≤ _; simp <;> omega) (by simp <;> omega)<|fun i161 => z8 (zc jc Z Z2 (by decide) Z Z)<|y5 (l := [_]) (new := [_, _, _]) Z2 Z Z Z Z Z Z .t1 Z Z<|z6<|zRg<|zVzAd Z Z<|zVzMi Z<|z6 ?_
      exact ⟨(k + 1, i161), zR5, zR1, ⟨_, (.drop (.refl _)), by rw [← hpush (posI (vsL g) b.term.var) (by unfold trmM; rw [if_neg hk0]; split <;> rfl)]; rfl⟩, hk2, by dsimp only; omega⟩
     ·have hk0 : b.term.kind = 0 := by first | exact ct | simpa using ct
      refine zf<|zRg<|z8 (zc jc Z Z2 (by decide) Z Z)<|z8 (zj (c := .own _ _) Ze Z ⟨_, .t1⟩ Z)<|z8 (yg Zq jt Z ⟨_, .head⟩ Z)<|zl (rows := [[_, _, _, _, _, _, _]]) ps24_1 Z Z Z Z Z<|zy (k := 7) jo type49 Z Z Z Z Z (fun _ => .t2) hcl7 (by decide) Z (by show (_ + _) * 96 ≤ _; simp <;> omega) (by simp <;> omega)<|fun i161 => z8 (zc jc Z Z2 (by decide) Z Z)<|y5 (l := [_]) (new := [_, _, _]) Z2 Z Z Z Z Z Z .t1 Z Z<|z6<|zRg<|zVzAd Z Z<|zVzMi Z<|z6 ?_
      exact ⟨(k + 1, i161), zR5, zR1, ⟨_, (.drop (.refl _)), by rw [← hpush b.term.var (by unfold trmM; rw [if_pos hk0]; rfl)]; rfl⟩, hk2, by dsimp only; omega⟩
  ·obtain rfl : k = (canB g).length := by omega
   rw [qi]
   refine y2<|zt (ym (off := 2) (rows := (canD g).blocks.map encBlk) .t1 .head Z (by intro r hr; obtain ⟨z, _, rfl⟩ := List.mem_map.1 hr; rfl) (by decide) (by rw [qk]; exact qk ..))<|zSr<|z8 (yg ju jj Z ⟨_, .head⟩ Z)<|zm jj Z Z Z Z Z Z .t1 Z<|zVzAi Z<|z6<|ze<|afin.c1t (y := .int _ _) Z Z ⟨_, .t1⟩ ju jj Z ?_
   rfl
end Go.Proofs.YtbkgklpihnfnjaaGreatDoor
namespace Go.Proofs.YtbkgklpihnfnjaaGreatDoor
open Go.Proofs.Tryz
open Go.Proofs Go.Lib Go.Shelf Go.RowKit
variable {E : World}
set_option maxRecDepth 20000
theorem equal_good (f g : PFunc) (hf : small f) (hg : small g) (hL : Letters E) (hPw : Pows E) (tf : typedB f = true) (jf : JoinP f) (tg : typedB g = true) (jg : JoinP g) : AFun prog E 9 [.agg (encF f), .agg (encF g)] (.bool (decide (canD f = canD g))) := by
 have hs1 := can_small tf jf hf
 have hs2 := can_small tg jg hg
 refine zk func9 Z (by decide) Z<|zSr<|y6 (cs := _) Z Z Z<|y6 (cs := _) Z Z Z<|zVzAb Z<|z6<|zSr<|zVGvloadWF ju jj Z Z<|zd (canon_good f hf hL hPw tf jf) Z<|z8 (zMu Z)<|z8 (yk (v := .agg _) Z Z)<|z8 (zXi Z Z)<|zq (cs := [.raw (.slice none 0 0), .raw (.slice none 0 0), .raw (.slice none 0 0)]) Zh Z Z<|fun i5 => zm jj Z Z Z Z Z Z .head Z<|y1 (yj (t := 5) Z .head)<|zVzAi Z<|z6<|zSr<|zVGvloadWF ju jj Z Z<|zd (canon_good g hg hL hPw tg jg) Z<|z8 (zMu Z)<|z8 (yk (v := .agg _) Z Z)<|z8 (zXi Z Z)<|zq (cs := [.raw (.slice none 0 0), .raw (.slice none 0 0), .raw (.slice none 0 0)]) Zh Z Z<|fun i7 => zm jj Z Z Z Z Z Z .head Z<|y1 (yj (t := 7) Z .head)<|zVzAi Z<|z6<|zSr<|zVzMi Z<|zVGveqlI Z Z<|zVzMb Z<|za Z Z Z<|zVzMi Z<|za Z Z Z<|zVGveqlI Z Z<|zVzPt Z Z Z<|zVzMb Z<|za Z Z Z ?_
 refine zVGvloadWF ju jj Z Z<|za Z Z Z<|zVGvloadWF ju jj Z Z<|za Z Z Z<|zd (same_spec (canD f) (canD g) hs1.ok) Z<|zVzPt Z Z Z<|zVzAb Z<|z6<|ze<|zi (x := .bool _) Z ?_
 rfl
noncomputable def lawJoin (f : PFunc) : Bool := (fewB f && typedB f) && joinedB f
theorem lawJoin_small {f : PFunc} (h : lawJoin f = true) : small f ∧ typedB f = true ∧ JoinP f := by
 unfold lawJoin at h
 simp only [qs] at h
 exact ⟨((fewB_iff f).1 h.1.1).small, h.1.2, (joinedB_iff f).1 h.2⟩
theorem lawJoined_spec (f : PFunc) (hw : wFunc f) (hL : Letters E) : AFun prog E 5 [.agg (encF f)] (.bool (lawJoin f)) := by
 refine zk func5 Z (by decide) Z<|zSr<|y6 (cs := _) Z Z Z<|zVzAb Z<|z6<|zSr<|zVGvloadWF ju jj Z Z<|zd (lawTyped_spec f hw hL) Z<|zVzMb Z<|zo (s := 5) Z (fun g=>?_) (fun g=>?_)
 ·refine za Z Z g<|zVGvloadWF ju jj Z Z<|za Z Z g<|zd (refJoined_spec f (typedE (by simp only [qs] at g; exact g.2)) ((fewB_iff f).1 (by simp only [qs] at g; exact g.1)).small (typedS (by simp only [qs] at g; exact g.2))) Z<|zVzPt Z g Z<|zVzAb Z<|z6<|ze<|zi (x := .bool _) Z ?_
  exact jb (by unfold lawJoin; rw [g]; rfl)
 ·refine z7 Z Z g<|z7 Z Z g<|zVzPf Z g Z<|zVzAb Z<|z6<|ze<|zi (x := .bool _) Z ?_
  exact jb (by unfold lawJoin; rw [g]; rfl)
end Go.Proofs.YtbkgklpihnfnjaaGreatDoor
namespace Go.Proofs.YtbkgklpihnfnjaaGreatDoor
open Go.Proofs.Tryz
section
variable {E : World} {P : Program} {ops : Array Oper} {K : AEnv → OL → Prop} {env : AEnv} {O O' : OL} {rest : List Oper}
variable {d ty : Nat} {pos : String} {af : Array Edge} {x y z : Operand} {t u e : TypeId}
end
end Go.Proofs.YtbkgklpihnfnjaaGreatDoor
namespace Go.Proofs.YtbkgklpihnfnjaaGreatDoor
open Go.Proofs.Tryz
section
variable {E : World} {P : Program} {ops : Array Oper} {K : AEnv → OL → Prop} {env : AEnv} {O O' : OL} {rest : List Oper}
variable {d ty : Nat} {pos : String} {af : Array Edge} {x y z : Operand} {t u e : TypeId}
end
end Go.Proofs.YtbkgklpihnfnjaaGreatDoor
namespace Go.Proofs.YtbkgklpihnfnjaaGreatDoor
open Go.Proofs.Tryz
open Go.Proofs Go.Lib Go.Shelf Go.RowKit
variable {E : World}
set_option maxRecDepth 20000
end Go.Proofs.YtbkgklpihnfnjaaGreatDoor
namespace Go.Proofs.YtbkgklpihnfnjaaGreatDoor
open Go.Proofs.Tryz
open Go.Proofs Go.Lib Go.Shelf Go.RowKit
variable {E : World}
set_option maxRecDepth 20000
end Go.Proofs.YtbkgklpihnfnjaaGreatDoor
namespace Go.Proofs.YtbkgklpihnfnjaaGreatDoor
open Go.Proofs.Tryz
open Go.Proofs Go.Lib Go.Shelf Go.RowKit
variable {E : World}
set_option maxRecDepth 20000
end Go.Proofs.YtbkgklpihnfnjaaGreatDoor
namespace Go.Proofs.YtbkgklpihnfnjaaGreatDoor
open Go.Proofs.Tryz
open Go.Proofs Go.Lib Go.Shelf Go.RowKit
variable {E : World}
set_option maxRecDepth 20000
end Go.Proofs.YtbkgklpihnfnjaaGreatDoor
namespace Go.Proofs.YtbkgklpihnfnjaaGreatDoor
open Go.Proofs.Tryz
open Go.Proofs Go.Lib Go.Shelf Go.RowKit
set_option maxRecDepth 20000
variable {E : World}
theorem cell_up {w : World} {p : Addr} {v : Value} (h : E.cell? p = some v) (hb : Below E.heap.size E w) : w.cell? p = some v := by
 rw [hb.cell ?_]; exact h
 rcases Nat.lt_or_ge p.block E.heap.size with h1 | h1
 ·exact h1
 ·unfold World.cell? at h
  rw [Array.getElem?_eq_none h1] at h; cases h
structure Vars0 (E : World) : Prop where
 tabs : Lib.Utf8Tabs 0 1 E
 len : ∃ m, E.cell? ⟨3, 0, none⟩ = some (.int .i64 m)
 syn : ∃ t p, E.cell? ⟨8, 0, none⟩ = some (.iface t p)
 ran : ∃ t p, E.cell? ⟨9, 0, none⟩ = some (.iface t p)
theorem tabs_up {w : World} {g h : Nat} (ht : Lib.Utf8Tabs g h E) (hb : Below E.heap.size E w) : Lib.Utf8Tabs g h w :=
 ⟨fun c hc => cell_up (ht.1 c hc) hb, fun i hi => ⟨cell_up (ht.2 i hi).1 hb, cell_up (ht.2 i hi).2 hb⟩⟩
theorem valid_spec (s : ByteArray) (hs : s.size ≤ 9223372036854775807) (hV : Vars0 E) : AFun prog E 92 [.str s] (.bool (Lib.validD s.data.toList)) :=
 AFun.ofBelow (vs := [.string s]) (r := .bool (Lib.validD s.data.toList)) func92 rfl (by decide) rfl fun w hw => Tryz.utf8_ValidString s w hs (tabs_up hV.tabs hw)
theorem AFun.weak {P : Program} {f : FuncId} {us : List AV} {x y : AV} (h : AFun P E f us x) (hi : ∀ I v, RepV I x v → RepV I y v) : AFun P E f us y := fun I F w vs h1 h2 =>
 (h I F w vs h1 h2).mono fun _ _ ⟨J, x', O', a, b, c, d⟩ => ⟨J, y, O', a, hi _ _ (d ▸ b), c, rfl⟩
def cutA (s sep : ByteArray) : ByteArray := ⟨(Lib.cut s.data.toList sep.data.toList).1.toArray⟩
def cutB2 (s sep : ByteArray) : ByteArray := ⟨(Lib.cut s.data.toList sep.data.toList).2.1.toArray⟩
def cutT (s sep : ByteArray) : Bool := (Lib.cut s.data.toList sep.data.toList).2.2
theorem drewN_below (w : World) : ∀ n, Below w.heap.size w (w.drewN n)
 | 0 => Below.refl _ _
 | n + 1 => (drewN_below w n).drew
theorem cut_spec (s sep : ByteArray) (hs : s.size < 4294967281) (hV : Vars0 E) : AFun prog E 94 [.str s, .str sep] (.tup [.str (cutA s sep), .str (cutB2 s sep), .bool (cutT s sep)]) := by
 obtain ⟨m, hm⟩ := hV.len
 refine (AFun.ofBelow (E := E) (vs := [.string s, .string sep]) (r := .tuple #[.string (cutA s sep), .string (cutB2 s sep), .bool (cutT s sep)]) func94 Z (by decide) Z fun w hw => ?_).weak ?_
 ·exact (Tryz.strings_Cut s sep m w hs (cell_up hm hw)).mono fun e w' ⟨he, n, hn⟩ => ⟨he, hn ▸ drewN_below w n⟩
 ·rintro I v h
  have h : v = _ := h
  exact ⟨[_, _, _], h, _, _, rfl, rfl, _, _, rfl, rfl, _, _, rfl, rfl, rfl⟩
def splitL (s sep : ByteArray) : List ByteArray := Lib.splitB sep 0 (Lib.countB s sep) s
theorem RepR.ofStr {I : G} {b : Nat} {T : TypeId} {f : Nat × Nat} (l : List ByteArray) (hb : I.k b = some (.cells (l.map Value.string).toArray T f)) : RepR I 1 (some ⟨b, 0, none⟩) 0 (l.map encS) := RepR.intro fun j r hj => by
 rw [ql] at hj
 obtain ⟨s, hs, rfl⟩ := Option.map_eq_some_iff.1 hj
 refine ⟨b, 0, [.string s], Z, Z, ⟨_, _, Z, Z, Z⟩, fun i u hu => ⟨_, T, f, hb, ?_⟩⟩
 have hi : i = 0 := by
  have := (List.getElem?_eq_some_iff.1 hu).1
  simpa using this
 subst hi
 simp only [List.getElem?_cons_zero, Option.some.injEq] at hu
 subst hu
 simp [hs]
theorem split_spec (s sep : ByteArray) (hs : s.size < 4294967281) (h1 : 1 ≤ sep.size) (hV : Vars0 E) : AFun prog E 56 [.str s, .str sep] (.fro 1 ((splitL s sep).map encS)) := fun I F w vs h2 h3 => by
 have hl : (splitL s sep).length = Lib.countB s sep + 1 := Lib.splitB_all sep h1 0 _ s rfl
 obtain ⟨m, hm⟩ := hV.len
 obtain ⟨v, us, rfl, e1, v2, us2, rfl, e2, e3⟩ := h2
 have e1 : v = .string s := e1
 have e2 : v2 = .string sep := e2
 have e3 : us2 = [] := e3
 subst e1 e2 e3
 obtain ⟨ht, L, hL, hS⟩ := h3
 have hL : L = [] := hL
 subst hL
 refine Fn.ofCalls func56 Z (by decide)<|(Tryz.strings_Split s sep m w hs (cell_up hm hS.belowE) h1).mono fun e w' ⟨he, hw⟩ => ?_
 subst hw
 obtain ⟨hle, hS2⟩ := hS.alloc_pers (.cells ((splitL s sep).map Value.string).toArray 9)
 let J : G := ⟨I.k.put w.heap.size (.cells ((splitL s sep).map Value.string).toArray 9), I.h⟩
 refine ⟨_, he, J, .fro 1 ((splitL s sep).map encS), [], ⟨hle, fun _ _ h => h⟩, ⟨some ⟨w.heap.size, 0, none⟩, _, _, Z, by rw [qk, hl], Nat.le_refl _, fun h => by (cases h), RepR.ofStr _ (Ghost.put_same _ _ _)⟩, ⟨ht, [], Z, hS2⟩, Z⟩
end Go.Proofs.YtbkgklpihnfnjaaGreatDoor
namespace Go.Proofs.YtbkgklpihnfnjaaGreatDoor
open Go.Proofs.Tryz
open Go.Proofs Go.Lib Go.Shelf Go.RowKit
theorem ps153_1 : PlacesS prog 153 21 1 1 [.int .i32 0] := ⟨_, X5, sizeOf21, zeroValue21, by decide, by decide, by kernel_rfl⟩
set_option maxRecDepth 20000
variable {E : World}
def lineC (c : Int) : Bool := !(decide (c < 32) && !decide (c = 10))
def rightE (s : ByteArray) : Int := if 16384 < s.size then 4 else if Lib.validD s.data.toList = false then 2 else if (runesFrom s 0).all lineC then 0 else 2
theorem zright_spec (s : ByteArray) (hs : s.size ≤ 140737488355328) (hV : Vars0 E) : AFun prog E 55 [.str s] (.int .i64 (rightE s)) := by
 refine zk func55 Z (by decide) Z<|zSr<|zVzAi Z<|z6<|zb<|zSr<|z8 (y9 (v := .str _) Z)<|z8 (Gv.lenT Z3 Z)<|z8 (yr Z Z)<|z6<|zr Z (fun ca=>?_) (fun ca=>?_)
 ·refine zSr<|zVzAi Z<|z6<|ze<|zi (x := .int _ _) Z ?_
  exact congrArg (AV.int .i64) (by unfold rightE; rw [if_pos (by omega)])
 ·refine zf<|zb<|zSr<|z8 (y9 (v := .str _) Z)<|zd (valid_spec s (by omega) hV) Z<|zVGvnot Z<|z6<|zz Z (fun cb=>?_) (fun cb=>?_)
  ·refine zSr<|zVzAi Z<|z6<|ze<|zi (x := .int _ _) Z ?_
   exact congrArg (AV.int .i64) (by unfold rightE; rw [if_neg (by omega), if_pos (by simpa using cb)])
  ·refine zf<|zb<|zSr<|z8 (y9 (v := .str _) Z)<|AOps.rangeT Z3 Z<|fun i12 => z6<|zg<|y3 (γ := Nat) [12] (fun p => []) (fun p => [(i12, .iter s p)]) (fun p => (runesFrom s p).all lineC = (runesFrom s 0).all lineC) (fun p => s.size - p) 0 trivial zLe (Z) ?_
   rintro p hp
   by_cases hlt : p < s.size
   ·have hd := (decode_ok s p).1
    rw [runesFrom_lt hlt, List.all_cons] at hp
    refine zSr<|AOps.nextT Z .head hlt<|z8 (zXb Z Z)<|z6<|zb<|yh Z Z<|zf<|zg<|zSr<|z8 (zXi Z Z)<|zVzAi Z<|z6<|zSr<|zVzMi Z<|zVGvlss Z Z<|zVzMb Z<|zo (s := 18) Z (fun c1=>?_) (fun c1=>?_)
    ·refine za Z Z c1<|zVzMi Z<|za Z Z c1<|zVGvneqI Z Z<|zVzPt Z c1 Z<|z6<|zz Z (fun c2=>?_) (fun c2=>?_)
     ·refine zSr<|zVzAi Z<|z6<|ze<|zi (x := .int _ _) Z ?_
      exact congrArg (AV.int .i64) (by unfold rightE; rw [if_neg (by omega), if_neg (by simpa using cb), ← hp, if_neg (by simp_all [lineC] <;> omega)])
     ·refine zf ?_
      exact ⟨p + (Utf8.decode s p).2, zR1, trivial, zLe, by rw [← hp, show lineC ((Utf8.decode s p).1 : Int) = true from by simp_all [lineC] <;> omega, Bool.true_and], by omega⟩
    ·refine z7 Z Z c1<|z7 Z Z c1<|zVzPf Z c1 Z<|z6<|yc Z Z<|zf ?_
     exact ⟨p + (Utf8.decode s p).2, zR1, trivial, zLe, by rw [← hp, show lineC ((Utf8.decode s p).1 : Int) = true from by simp_all [lineC] <;> omega, Bool.true_and], by omega⟩
   ·rw [runesFrom_ge hlt] at hp
    refine zSr<|AOps.nextTover Z .head hlt<|z8 (zXb Z Z)<|z6<|zb<|yc Z Z<|y2<|zSr<|zVzAi Z<|z6<|ze<|zi (x := .int _ _) Z ?_
    exact congrArg (AV.int .i64) (by unfold rightE; rw [if_neg (by omega), if_neg (by simpa using cb), if_pos (by rw [← hp]; rfl)])
def wdGo (s : ByteArray) (p : Nat) (out : List ByteArray) (word : List Int) : List ByteArray :=
 if h : p < s.size then
  if ((Utf8.decode s p).1 : Int) = 32 then (if word = [] then wdGo s (p + (Utf8.decode s p).2) out word else wdGo s (p + (Utf8.decode s p).2) (out ++ [runesBytes word]) [])
  else wdGo s (p + (Utf8.decode s p).2) out (word ++ [((Utf8.decode s p).1 : Int)])
 else out
termination_by s.size - p
decreasing_by all_goals (have := (decode_ok s p).1; omega)
def hash : ByteArray := ⟨#[35]⟩
def scanWords (s : ByteArray) : List ByteArray := wdGo (cutA s hash ++ ⟨#[32]⟩) 0 [] []
theorem cutA_size (s sep : ByteArray) : (cutA s sep).size ≤ s.size := by
 unfold cutA Lib.cut
 split
 ·show (List.toArray _).size ≤ _
  rw [List.size_toArray]
  have : s.data.toList.length = s.size := Array.length_toList
  simp only [qp]; omega
 ·show (List.toArray _).size ≤ _
  rw [List.size_toArray]
  have : s.data.toList.length = s.size := Array.length_toList
  simp only; omega
theorem words_spec (s : ByteArray) (hs : s.size ≤ 100000) (hV : Vars0 E) : AFun prog E 57 [.str s] (.fro 1 ((scanWords s).map encS)) := by
 have hc := cutA_size s hash
 have hcs : (cutA s hash ++ ⟨#[32]⟩ : ByteArray).size = (cutA s hash).size + 1 := by rw [ByteArray.size_append]; rfl
 have hr0 := runesFrom_len (cutA s hash ++ ⟨#[32]⟩) _ 0 (Nat.le_refl _)
 refine zk func57 Z (by decide) Z<|zSr<|zVzAr Z<|z6<|zSr<|z8 (y9 (v := .str _) Z)<|zd (cut_spec s hash (by omega) hV) Z<|z8 (zMu Z)<|z8 (yk (v := .str _) Z Z)<|z8 (yk (v := .str _) Z Z)<|z8 (zXb Z Z)<|z8 (y8 (v := .str _) Z)<|z6<|zSr<|zVzAr Z<|z6<|zSr<|AOps.buildSlice0 (k := 1) X5 type21<|fun i13 => zVzAo Z<|z6<|zb<|zSr<|z8 (y9 (v := .str _) Z)<|z8 (Gv.addT Z Z (by show _ + 1 ≤ _; omega))<|AOps.rangeT Z3 Z<|fun i16 => z6<|zg<|adopt_wp (t := 3) (k := 1) (T := 9) Z<|fun i3 => y3 (γ := Nat × Nat × List ByteArray × List Int × Nat × Nat) [16] (fun g => [(3, .own g.2.2.2.2.1 g.2.2.1.length), (4, .own g.2.2.2.2.2 g.2.2.2.1.length)]) (fun g => [(g.2.2.2.2.1, .grow 1 9 (g.2.2.1.map encS).flatten), (i16, .iter (cutA s hash ++ ⟨#[32]⟩) g.1), (g.2.2.2.2.2, .grow 1 21 (g.2.2.2.1.map encR).flatten)]) (fun g => wdGo (cutA s hash ++ ⟨#[32]⟩) g.1 g.2.2.1 g.2.2.2.1 = scanWords s ∧ g.2.1 + (runesFrom (cutA s hash ++ ⟨#[32]⟩) g.1).length = (runesFrom (cutA s hash ++ ⟨#[32]⟩) 0).length ∧ g.2.2.1.length ≤ g.2.1 ∧ g.2.2.2.1.length ≤ g.2.1) (fun g => (cutA s hash ++ ⟨#[32]⟩ : ByteArray).size - g.1) (0, 0, [], [], i3, i13) zR2 zLe (⟨Z, by simp, by simp, by simp⟩) ?_
 rintro ⟨p, c, out, word, io, iw⟩ ⟨hp, hc1, hc2, hc3⟩
 try dsimp only at *
 by_cases hlt : p < (cutA s hash ++ ⟨#[32]⟩ : ByteArray).size
 ·have hd := (decode_ok (cutA s hash ++ ⟨#[32]⟩) p).1
  have hstep := hp
  rw [wdGo, dif_pos hlt] at hstep
  rw [runesFrom_lt hlt, List.length_cons] at hc1
  refine zSr<|AOps.nextT Z .t1 hlt<|z8 (zXb Z Z)<|z6<|zb<|yh Z Z<|zf<|zg<|zSr<|z8 (zXi Z Z)<|zVzAi Z<|z6<|zg<|zSr<|zVzMi Z<|zVGvneqI Z Z<|zVzAb Z<|z6<|zz Z (fun cw=>?_) (fun cw=>?_)
  ·rw [if_neg (by simpa using cw)] at hstep
   refine zRg<|zVzMo Z<|zVzMi Z<|zl (rows := [[_]]) ps153_1 Z Z Z Z Z<|zy (k := 1) X5 type21 Z Z Z Z Z (fun _ => .t2) (by rw [grow_len (k := 1) (fun _ => rfl)]) (by decide) Z (by show (_ + _) * 4 ≤ _; simp <;> omega) (by simp <;> omega)<|fun i26 => zVzAo Z<|z6 ?_
   exact ⟨(p + (Utf8.decode (cutA s hash ++ ⟨#[32]⟩) p).2, c + 1, out, word ++ [((Utf8.decode (cutA s hash ++ ⟨#[32]⟩) p).1 : Int)], io, i26), zR1, ⟨rfl, congrArg (AV.own _) (by simp), trivial⟩, ⟨_, (.refl _), by rw [← grow_push (enc := encR) (rfl : word ++ [((Utf8.decode (cutA s hash ++ ⟨#[32]⟩) p).1 : Int)] = _)]; rfl⟩, ⟨hstep, by dsimp only; omega, by dsimp only; omega, by simp; omega⟩, by dsimp only; omega⟩
  ·rw [if_pos (by simpa using cw)] at hstep
   refine zSr<|zVzMo Z<|z8 (q7 X5 Z)<|z8 (yr Z Z)<|zVzAb Z<|z6<|zr Z (fun cl=>?_) (fun cl=>?_)
   ·rw [if_neg (by intro h0; subst h0; simp at cl)] at hstep
    refine zSr<|zVzMo Z<|zVzMo Z<|z8 (Gv.runesO X5 underlying21 Z3 Z ⟨_, .t2⟩ (by simp))<|zl (rows := [[_]]) ps88_1 Z Z Z Z Z<|zy (k := 1) jh type9 Z Z Z Z Z (fun _ => .head) (by rw [grow_len (k := 1) (fun _ => rfl)]) (by decide) Z (by show (_ + _) * 16 ≤ _; simp <;> omega) (by simp <;> omega)<|fun i35 => zVzAo Z<|z6<|zRg<|zVzMo Z<|AOps.cut0 X5 sizeOf21 Z Z .t2<|zVzAo Z<|z6 ?_
    exact ⟨(p + (Utf8.decode (cutA s hash ++ ⟨#[32]⟩) p).2, c + 1, out ++ [runesBytes word], [], i35, iw), zR1, ⟨congrArg (AV.own _) (by simp), rfl, trivial⟩, ⟨_, (.refl _), by rw [← grow_push (enc := encS) (rfl : out ++ [runesBytes word] = _)]; rfl⟩, ⟨hstep, by dsimp only; omega, by simp; omega, by simp⟩, by dsimp only; omega⟩
   ·rw [if_pos (by cases word <;> simp_all <;> omega)] at hstep
    refine zf ?_
    exact ⟨(p + (Utf8.decode (cutA s hash ++ ⟨#[32]⟩) p).2, c + 1, out, word, io, iw), zR1, zR2, zLe, ⟨hstep, by dsimp only; omega, by dsimp only; omega, by dsimp only; omega⟩, by dsimp only; omega⟩
 ·rw [wdGo, dif_neg hlt] at hp
  refine zSr<|AOps.nextTover Z .t1 hlt<|z8 (zXb Z Z)<|z6<|zb<|yc Z Z<|y2<|zSr<|zVzMo Z<|zVzAo Z<|z6<|ze ?_
  repeat (first | refine aseqQ_ret ?_ | refine ablockQ_ret ?_)
  refine GStep.fin (yw (t := 2) (rows := out.map encS) Z .head (by first | (intro r hr; obtain ⟨x, _, rfl⟩ := List.mem_map.1 hr; rfl) | simp [encS]) (by decide) (by simp))<|zi (x := .fro _ _) Z ?_
  rw [hp]
end Go.Proofs.YtbkgklpihnfnjaaGreatDoor
namespace Go.Proofs.YtbkgklpihnfnjaaGreatDoor
open Go.Proofs.Tryz
open Go.Proofs Go.Lib Go.Shelf Go.RowKit
theorem pl108 : Places prog 108 #[(0, 1), (1, 1)] [.int .i64 0, .raw (.slice none 0 0)] := ⟨_, _, underlying108, zeroValue108, fun w => by kernel_rfl, rfl⟩
theorem ps62_1 : PlacesS prog 62 108 1 2 [.int .i64 0, .raw (.slice none 0 0)] := ⟨_, Yt, sizeOf108, zeroValue108, by decide, by decide, by kernel_rfl⟩
set_option maxRecDepth 20000
variable {E : World}
def nl : ByteArray := ⟨#[10]⟩
def lineGo : List ByteArray → Nat → List (Int × List ByteArray)
 | [], _ => []
 | l :: ls, i => if scanWords l = [] then lineGo ls (i + 1) else ((i : Int) + 1, scanWords l) :: lineGo ls (i + 1)
def scanLines (s : ByteArray) : List (Int × List ByteArray) := lineGo (splitL s nl) 0
def encLine (l : Int × List ByteArray) : List AV := [.int .i64 l.1, .fro 1 (l.2.map encS)]
theorem extract_size (s : ByteArray) (a b : Nat) : (s.extract a b).size ≤ s.size := by
 rw [ByteArray.size_extract]; omega
theorem splitB_size (sep : ByteArray) (n : Nat) : ∀ (k : Nat) (s : ByteArray), s.size ≤ n → ∀ l ∈ Lib.splitB sep 0 k s, l.size ≤ n := by
 intro k
 induction k with
 | zero => intro s h l hl; rw [Lib.splitB_zero] at hl; rw [List.mem_singleton.1 hl]; exact h
 | succ k ih =>
  intro s h l hl
  unfold Lib.splitB at hl
  split at hl
  ·rw [List.mem_singleton.1 hl]; exact h
  ·rcases List.mem_cons.1 hl with rfl | hl
   ·exact Nat.le_trans (extract_size _ _ _) h
   ·exact ih _ (Nat.le_trans (extract_size _ _ _) h) l hl
theorem rightE_size {s : ByteArray} (h : rightE s = 0) : s.size ≤ 16384 := by
 unfold rightE at h
 split at h
 ·cases h
 ·omega
def linesOf (s : ByteArray) : List (Int × List ByteArray) := if rightE s = 0 then scanLines s else []
theorem zlines_spec (s : ByteArray) (hs : s.size ≤ 140737488355328) (hV : Vars0 E) : AFun prog E 23 [.str s] (.tup [.fro 2 ((linesOf s).map encLine), .int .i64 (rightE s)]) := by
 refine zk func23 Z (by decide) Z<|zSr<|zVzAr Z<|zVzAi Z<|z6<|zb<|zSr<|z8 (y9 (v := .str _) Z)<|zd (zright_spec s hs hV) Z<|zVzAi Z<|z6<|zSr<|zVzMi Z<|zVGvneqI Z Z<|z6<|zz Z (fun c0=>?_) (fun c0=>?_)
 ·have hr : ¬ rightE s = 0 := by simpa using c0
  refine zSr<|zVzMi Z<|zVzAr Z<|zVzAi Z<|z6<|ze ?_
  repeat (first | refine aseqQ_ret ?_ | refine ablockQ_ret ?_)
  refine GStep.fin (GStep.slot (t := 2) Z (impNil 2))<|yp (x := .fro _ _) (y := .int _ _) Z Z ?_
  unfold linesOf; rw [if_neg hr]; rfl
 ·have hr : rightE s = 0 := by simpa using c0
  have hsz := rightE_size hr
  have hn : (splitL s nl).length ≤ 1000000 := by have h1 := Lib.splitB_length_le nl 0 (Lib.countB s nl) s; have h2 := Lib.countB_le nl (by decide) s.size s (Nat.le_refl _); unfold splitL; omega
  refine zf<|zSr<|zVzAr Z<|z6<|zb<|zSr<|z8 (y9 (v := .str _) Z)<|zd (split_spec s nl (by omega) (by decide) hV) Z<|zVGvlenM jh Z<|zVzMi Z<|z6<|zg<|adopt_wp (t := 5) (k := 2) (T := 108) Z<|fun i5 => y3 (γ := Nat × List (Int × List ByteArray) × Nat) [15, 16] (fun g => [(17, .int .i64 g.1), (5, .own g.2.2 g.2.1.length)]) (fun g => [(g.2.2, .grow 2 108 (g.2.1.map encLine).flatten)]) (fun g => g.1 ≤ (splitL s nl).length ∧ g.2.1 ++ lineGo ((splitL s nl).drop g.1) g.1 = scanLines s ∧ g.2.1.length ≤ g.1) (fun g => (splitL s nl).length - g.1) (0, [], i5) zR2 zLe (⟨qg _, Z, Nat.le_refl _⟩) ?_
  rintro ⟨k, out, io⟩ ⟨hk, ho, hl⟩
  try dsimp only at *
  refine zSr<|zVGvlss Z Z<|z6<|zb<|zr Z (fun ck=>?_) (fun ck=>?_)
  ·have hk2 : k < (splitL s nl).length := by omega
   have hpiece : (splitL s nl)[k].size ≤ 16384 := splitB_size nl 16384 _ s hsz _ (qh hk2)
   rw [List.drop_eq_getElem_cons hk2, lineGo] at ho
   refine zf<|zb<|zg<|zSr<|zVzMi Z<|z8 (yi jh jx Z Z Z (qd (by omega)))<|z8 (ya (c := .str _) Z5 Z)<|zVzAi Z<|z8 (y8 (v := .str _) Z)<|z6<|zSr<|z8 (y9 (v := .str _) Z)<|zd (words_spec (splitL s nl)[k] (by omega) hV) Z<|z8 (zAf Z)<|z6<|zSr<|zVzMf Z<|zVGvlenM jh Z<|z8 (yr Z Z)<|z6<|zr Z (fun cw=>?_) (fun cw=>?_)
   ·rw [if_neg (by intro h0; rw [h0] at cw; simp at cw)] at ho
    refine zRg<|zVzMo Z<|zVzMi Z<|zVzAd Z Z<|zVzMf Z<|z8 (y4 (cps := [(0, [_]), (1, [_])]) (rs := [_, _]) pl108 Z Z Z)<|zl (rows := [[_, _]]) ps62_1 Z Z Z Z Z<|zy (k := 2) Yt type108 Z Z Z Z Z (fun _ => .head) (by rw [grow_len (k := 2) (fun _ => rfl)]) (by decide) Z (by show (_ + _) * 32 ≤ _; simp <;> omega) (by simp <;> omega)<|fun i33 => zVzAo Z<|z6<|zRg<|zVzAd Z Z<|zVzMi Z<|z6 ?_
    exact ⟨(k + 1, out ++ [((k : Int) + 1, scanWords (splitL s nl)[k])], i33), zR2, ⟨rfl, congrArg (AV.own _) (by simp), trivial⟩, ⟨_, (.refl _), by rw [← grow_push (enc := encLine) (rfl : out ++ [((k : Int) + 1, scanWords (splitL s nl)[k])] = _)]; rfl⟩, ⟨hk2, by rw [← ho]; simp, by simp; omega⟩, by dsimp only; omega⟩
   ·rw [if_pos (by cases h0 : scanWords (splitL s nl)[k] <;> simp_all <;> omega)] at ho
    refine zf<|zRg<|zVzAd Z Z<|zVzMi Z<|z6 ?_
    exact ⟨(k + 1, out, io), zR2, zR2, zLe, ⟨hk2, ho, by dsimp only; omega⟩, by dsimp only; omega⟩
  ·obtain rfl : k = (splitL s nl).length := by omega
   rw [List.drop_length, lineGo, List.append_nil] at ho
   refine y2<|zSr<|zVzMo Z<|zVzAo Z<|zVzAi Z<|z6<|ze ?_
   repeat (first | refine aseqQ_ret ?_ | refine ablockQ_ret ?_)
   refine GStep.fin (yw (t := 2) (rows := out.map encLine) Z .head (by first | (intro r hr; obtain ⟨x, _, rfl⟩ := List.mem_map.1 hr; rfl) | simp [encLine]) (by decide) (by simp))<|yp (x := .fro _ _) (y := .int _ _) Z Z ?_
   rw [ho, hr]; unfold linesOf; rw [if_pos hr]
end Go.Proofs.YtbkgklpihnfnjaaGreatDoor
namespace Go.Proofs.YtbkgklpihnfnjaaGreatDoor
open Go.Proofs.Tryz
open Go.Proofs Go.Lib Go.Shelf Go.RowKit
set_option maxRecDepth 20000
variable {E : World}
def colon : ByteArray := ⟨#[58]⟩
def pairOk (s : ByteArray) : Bool := cutT s colon && scanName (cutA s colon)
def pairA (s : ByteArray) : ByteArray := if pairOk s then cutA s colon else ⟨#[]⟩
def pairB (s : ByteArray) : ByteArray := if pairOk s then cutB2 s colon else ⟨#[]⟩
theorem pair_spec (s : ByteArray) (hs : s.size ≤ 100000) (hL : Letters E) (hV : Vars0 E) : AFun prog E 95 [.str s] (.tup [.str (pairA s), .str (pairB s), .bool (pairOk s)]) := by
 have hc := cutA_size s colon
 refine zk func95 Z (by decide) Z<|zSr<|z8 (y8 (v := .str _) Z)<|z8 (y8 (v := .str _) Z)<|zVzAb Z<|z6<|zSr<|z8 (y9 (v := .str _) Z)<|zd (cut_spec s colon (by omega) hV) Z<|z8 (zMu Z)<|z8 (yk (v := .str _) Z Z)<|z8 (yk (v := .str _) Z Z)<|z8 (zXb Z Z)<|z8 (y8 (v := .str _) Z)<|z8 (y8 (v := .str _) Z)<|zVzAb Z<|z6<|zb<|zSr<|zVzMb Z<|zVGvnot Z<|zVzMb Z<|zo (s := 15) Z (fun c1=>?_) (fun c1=>?_)
 ·refine z7 Z Z c1<|z7 Z Z c1<|z7 Z Z c1<|zVzPt Z c1 Z<|z6<|yh Z Z<|zSr<|z8 (y8 (v := .str _) Z)<|z8 (y8 (v := .str _) Z)<|zVzAb Z<|z6<|ze<|afin.t3 (x := .str _) (y := .str _) (z := .bool _) Z Z Z ?_
  have hp : pairOk s = _ := rfl; unfold pairA pairB; simp_all [pairOk]
 ·refine za Z Z c1<|z8 (y9 (v := .str _) Z)<|za Z Z c1<|zd (zname_spec _ (by omega) hL) Z<|za Z Z c1<|zVGvnot Z<|zVzPf Z c1 Z<|z6<|zz Z (fun c2=>?_) (fun c2=>?_)
  ·refine zSr<|z8 (y8 (v := .str _) Z)<|z8 (y8 (v := .str _) Z)<|zVzAb Z<|z6<|ze<|afin.t3 (x := .str _) (y := .str _) (z := .bool _) Z Z Z ?_
   have hp : pairOk s = _ := rfl; unfold pairA pairB; simp_all [pairOk]
  ·refine zf<|zSr<|z8 (y9 (v := .str _) Z)<|z8 (y9 (v := .str _) Z)<|z8 (y8 (v := .str _) Z)<|z8 (y8 (v := .str _) Z)<|zVzAb Z<|z6<|ze<|afin.t3 (x := .str _) (y := .str _) (z := .bool _) Z Z Z ?_
   have hp : pairOk s = _ := rfl; unfold pairA pairB; simp_all [pairOk]
def tyOf (w : ByteArray) : Int := if w = tyWord 0 then 0 else if w = tyWord 1 then 1 else if w = tyWord 2 then 2 else 0
def isTy (w : ByteArray) : Bool := decide (w = tyWord 0) || (decide (w = tyWord 1) || decide (w = tyWord 2))
theorem tyOf_spec (w : ByteArray) : AFun prog E 96 [.str w] (.tup [.int .i64 (tyOf w), .bool (isTy w)]) := by
 refine zk func96 Z (by decide) Z<|zSr<|zVzAi Z<|zVzAb Z<|z6<|zb<|zSr<|zVzAi Z<|z6<|zg<|y3 (γ := Nat) [0] (fun t => [(4, .int .i64 t)]) (fun t => []) (fun t => t ≤ 3 ∧ ∀ q : Nat, q < t → ¬ w = tyWord q) (fun t => 3 - t) 0 zR1 zLe (⟨by omega, by simp⟩) ?_
 rintro t ⟨ht, hq⟩
 refine zb<|zSr<|zVzMi Z<|zVGvlss Z Z<|z6<|zr Z (fun ct=>?_) (fun ct=>?_)
 ·refine zf<|zb<|zg<|zSr<|zVzMi Z<|zd (tyWord_spec _) Z<|z8 (y9 (v := .str _) Z)<|z8 (q8 Z Z)<|z6<|zz Z (fun cw=>?_) (fun cw=>?_)
  ·have hw : tyWord t = w := by simpa using cw
   have h3 : t = 0 ∨ t = 1 ∨ t = 2 := by omega
   refine zSr<|zVzMi Z<|zVzAi Z<|zVzAb Z<|z6<|ze<|yp (x := .int _ _) (y := .bool _) Z Z ?_
   rcases h3 with rfl | rfl | rfl <;> subst hw <;> rfl
  ·have hw : ¬ tyWord t = w := by simpa using cw
   have hq2 : ∀ q : Nat, q < t + 1 → ¬ w = tyWord q := fun q h => by
    rcases Nat.lt_or_ge q t with h1 | h1
    ·exact hq q h1
    ·obtain rfl : q = t := by omega
     exact fun e => hw e.symm
   refine zf<|zRg<|zVzMi Z<|zVzAd Z Z<|zVzAi Z<|z6 ?_
   exact ⟨t + 1, zR1, zR1, zLe, ⟨by omega, hq2⟩, by omega⟩
 ·obtain rfl : t = 3 := by omega
  have h0 := hq 0 (by omega)
  have h1 := hq 1 (by omega)
  have h2 := hq 2 (by omega)
  simp only [Int.ofNat_zero, Int.cast_ofNat_Int, Int.natCast_one] at h0 h1 h2
  refine y2<|zSr<|zVzAi Z<|zVzAb Z<|z6<|ze<|yp (x := .int _ _) (y := .bool _) Z Z ?_
  unfold tyOf isTy; rw [if_neg h0, if_neg h1, if_neg h2, qr h0, qr h1, qr h2]; rfl
def varOk (w : ByteArray) : Bool := pairOk w && isTy (pairB w)
def varOf (w : ByteArray) : PVar := ⟨pairA w, tyOf (pairB w)⟩
def varsOk (l : List ByteArray) : Bool := l.all varOk
def varsOf (l : List ByteArray) : List PVar := if varsOk l then l.map varOf else []
theorem zvars_spec (l : List ByteArray) (hl : l.length ≤ 100000) (hs : ∀ w ∈ l, w.size ≤ 100000) (hL : Letters E) (hV : Vars0 E) : AFun prog E 58 [.fro 1 (l.map encS)] (.tup [.fro 2 ((varsOf l).map encVar), .bool (varsOk l)]) := by
 refine zk func58 Z (by decide) Z<|zSr<|zVzAr Z<|zVzAb Z<|z6<|zSr<|zVzAr Z<|z6<|zb<|zSr<|zVzMf Z<|zVGvlenM jh Z<|zVzMi Z<|z6<|zg<|adopt_wp (t := 4) (k := 2) (T := 38) Z<|fun i4 => y3 (γ := Nat × Nat) [12, 13] (fun g => [(14, .int .i64 g.1), (4, .own g.2 g.1)]) (fun g => [(g.2, .grow 2 38 (((l.take g.1).map varOf).map encVar).flatten)]) (fun g => g.1 ≤ l.length ∧ (l.take g.1).all varOk) (fun g => l.length - g.1) (0, i4) zR2 zLe (⟨qg _, Z⟩) ?_
 rintro ⟨k, io⟩ ⟨hk, ho⟩
 try dsimp only at *
 refine zSr<|zVGvlss Z Z<|z6<|zb<|zr Z (fun ck=>?_) (fun ck=>?_)
 ·have hk2 : k < l.length := by omega
  have hw := hs _ (qh hk2)
  refine zf<|zb<|zg<|zSr<|z8 (yi jh jx Z Z Z (qd (by omega)))<|z8 (ya (c := .str _) Z5 Z)<|z8 (y8 (v := .str _) Z)<|z6<|zSr<|z8 (y9 (v := .str _) Z)<|zd (pair_spec l[k] (by omega) hL hV) Z<|z8 (zMu Z)<|z8 (yk (v := .str _) Z Z)<|z8 (yk (v := .str _) Z Z)<|z8 (zXb Z Z)<|z8 (y8 (v := .str _) Z)<|z8 (y8 (v := .str _) Z)<|zVzAb Z<|z6<|zSr<|z8 (y9 (v := .str _) Z)<|zd (tyOf_spec _) Z<|z8 (zMu Z)<|z8 (zXi Z Z)<|z8 (zXb Z Z)<|zVzAi Z<|zVzAb Z<|z6<|zb<|zb<|yn (γ := Unit) [4, 7, 10, 12, 13, 14] (fun u => [(34, .bool (!varOk l[k]))]) (fun u => [(io, .grow 2 38 (((l.take k).map varOf).map encVar).flatten)]) (fun u => True) ?_ (fun _ _ h => h) ?_
  ·refine zRg<|zVzMb Z<|zVGvnot Z<|zVzMb Z<|zo (s := 31) Z (fun c3=>?_) (fun c3=>?_)
   ·refine z7 Z Z c3<|z7 Z Z c3<|zVzPt Z c3 Z<|z6 ?_
    exact ⟨(), zR6, ⟨jb (by simp_all [varOk]), trivial⟩, zLe, trivial⟩
   ·refine za Z Z c3<|zVzMb Z<|za Z Z c3<|zVGvnot Z<|zVzPf Z c3 Z<|z6 ?_
    exact ⟨(), zR6, ⟨jb (by simp_all [varOk]), trivial⟩, zLe, trivial⟩
  ·rintro _ _
   refine zz Z (fun cv=>?_) (fun cv=>?_)
   ·have hno : varsOk l = false := List.all_eq_false.2 ⟨_, qh hk2, by simpa using cv⟩
    refine zSr<|zVzAr Z<|zVzAb Z<|z6<|ze ?_
    repeat (first | refine aseqQ_ret ?_ | refine ablockQ_ret ?_)
    refine GStep.fin (GStep.slot (t := 2) Z (impNil 2))<|yp (x := .fro _ _) (y := .bool _) Z Z ?_
    unfold varsOf; rw [hno]; rfl
   ·have hyes : varOk l[k] = true := by simpa using cv
    have hgr : (((l.take (k + 1)).map varOf).map encVar).flatten = (((l.take k).map varOf).map encVar).flatten ++ [encVar (varOf l[k])].flatten := by
     rw [qe hk2, qo]; exact (grow_push rfl).symm
    refine zf<|zRg<|zVzMo Z<|z8 (y9 (v := .str _) Z)<|zVzMi Z<|z8 (y4 (cps := [(0, [_]), (1, [_])]) (rs := [_, _]) pl38 Z Z Z)<|zl (rows := [[_, _]]) ps22_1 Z Z Z Z Z<|zy (k := 2) js type38 Z Z Z Z Z (fun _ => .head) (by rw [List.map_map, grow_len (k := 2) (fun _ => rfl), qp, Nat.min_eq_left hk]) (by decide) Z (by show (_ + _) * 24 ≤ _; simp <;> omega) (by simp <;> omega)<|fun i40 => zVzAo Z<|z6<|zRg<|zVzAd Z Z<|zVzMi Z<|z6 ?_
    exact ⟨(k + 1, i40), zR2, zR2, ⟨_, (.refl _), by dsimp only; rw [hgr]; rfl⟩, ⟨hk2, by rw [qe hk2, List.all_append, ho]; simp [hyes]⟩, by dsimp only; omega⟩
 ·obtain rfl : k = l.length := by omega
  rw [qi] at ho ⊢
  have hyes : varsOk l = true := ho
  refine y2<|zSr<|zVzMo Z<|zVzAo Z<|zVzAb Z<|z6<|ze ?_
  repeat (first | refine aseqQ_ret ?_ | refine ablockQ_ret ?_)
  refine GStep.fin (yw (t := 2) (rows := (l.map varOf).map encVar) Z .head (by first | (intro r hr; obtain ⟨x, _, rfl⟩ := List.mem_map.1 hr; rfl) | simp [encI, encVar, encPhi, encInst, encBlk]) (by decide) (by simp))<|yp (x := .fro _ _) (y := .bool _) Z Z ?_
  unfold varsOf; rw [hyes]; rfl
end Go.Proofs.YtbkgklpihnfnjaaGreatDoor
namespace Go.Proofs.YtbkgklpihnfnjaaGreatDoor
open Go.Proofs.Tryz
open Go.Proofs Go.Lib Go.Shelf Go.RowKit
set_option maxRecDepth 20000
variable {E : World}
def pint (s : ByteArray) : Option Int := match Lib.parseIntB 64 s.data.toList with
 | .ok v => some v
 | _ => none
def PAns (s : ByteArray) (x : AV) : Prop := (∃ v, pint s = some v ∧ x = .tup [.int .i64 v, .raw .nilIface]) ∨ (pint s = none ∧ ∃ n T p, x = .tup [.int .i64 n, .ifc T (.raw p)])
theorem parse_spec (s : ByteArray) (hs : s.size ≤ 100000) (hV : Vars0 E) : ACall prog E 215 [.str s, .int .i64 10, .int .i64 64] [] (fun x O' => ∃ _ : Unit, PAns s x ∧ O' = []) := fun I F w vs h1 h2 => by
 obtain ⟨v, us, rfl, e1, v2, us2, rfl, e2, v3, us3, rfl, e3, e4⟩ := h1
 have e1 : v = .string s := e1
 have e2 : v2 = .int .i64 10 := e2
 have e3 : v3 = .int .i64 64 := e3
 have e4 : us3 = [] := e4
 subst e1 e2 e3 e4
 obtain ⟨ht, L, hL, hS⟩ := h2
 have hL : L = [] := hL
 subst hL
 obtain ⟨ts, ps, hsyn⟩ := hV.syn
 obtain ⟨tr, pr, hran⟩ := hV.ran
 refine Fn.ofCalls func215 Z (by decide) ?_
 rcases hp : Lib.parseIntB 64 s.data.toList with u | _ | _
 ·refine (Tryz.strconv_ParseInt_10_at64_ok s (by omega) u hp w).mono fun e w' ⟨he, hw⟩ => ?_
  have hb : Below w.heap.size w w' := by
   rcases hw with rfl | ⟨t, rfl⟩
   ·exact Below.refl _ _
   ·exact Go.Joins.below_bytesWorld _ _ _ _ (Nat.le_refl _)
  exact ⟨_, he, I, .tup [.int .i64 u, .raw .nilIface], [], .refl _, ⟨[_, _], rfl, _, _, rfl, rfl, _, _, rfl, rfl, rfl⟩, ⟨ht, [], rfl, hS.below hb⟩, (), .inl ⟨u, by unfold pint; rw [hp], rfl⟩, rfl⟩
 ·refine (Tryz.strconv_ParseInt_10_at64_syntax s (by omega) hp _ w (cell_up hsyn hS.belowE) (.inr ⟨_, _, rfl⟩)).mono fun e w' ⟨N, he, _, _, hb⟩ => ?_
  exact ⟨_, he, I, .tup [.int .i64 0, .ifc _ (.raw _)], [], .refl _, ⟨[_, _], rfl, _, _, rfl, rfl, _, _, rfl, ⟨_, rfl, rfl⟩, rfl⟩, ⟨ht, [], rfl, hS.below hb⟩, (), .inr ⟨by unfold pint; rw [hp], _, _, _, rfl⟩, rfl⟩
 ·refine (Tryz.strconv_ParseInt_10_at64_range s (by omega) hp _ w (cell_up hran hS.belowE) (.inr ⟨_, _, rfl⟩)).mono fun e w' ⟨N, he, _, _, hb⟩ => ?_
  exact ⟨_, he, I, .tup [.int .i64 _, .ifc _ (.raw _)], [], .refl _, ⟨[_, _], rfl, _, _, rfl, rfl, _, _, rfl, ⟨_, rfl, rfl⟩, rfl⟩, ⟨ht, [], rfl, hS.below hb⟩, (), .inr ⟨by unfold pint; rw [hp], _, _, _, rfl⟩, rfl⟩
def numOk (s : ByteArray) : Bool := match pint s with
 | some v => decide ((⟨(Lib.itoa v).toArray⟩ : ByteArray) = s)
 | none => false
def numV (s : ByteArray) : Int := if numOk s then (pint s).getD 0 else 0
theorem pint_range {s : ByteArray} {v : Int} (h : pint s = some v) : -9223372036854775808 ≤ v ∧ v ≤ 9223372036854775807 := by
 unfold pint at h
 split at h
 ·rename_i u hu
  cases h
  have := Lib.parseIntB_bounds hu
  simp at this; omega
 ·cases h
theorem number_spec (s : ByteArray) (hs : s.size ≤ 100000) (hT : Pows E) (hV : Vars0 E) : AFun prog E 206 [.str s] (.tup [.int .i64 (numV s), .bool (numOk s)]) := by
 refine zk func206 Z (by decide) Z<|zSr<|zVzAi Z<|zVzAb Z<|z6<|zSr<|z8 (y9 (v := .str _) Z)<|ye Z (zu (.rest _)) (parse_spec s hs hV) ?_
 rintro r8 O8 ⟨_, hans, rfl⟩
 rcases hans with ⟨v, hv, rfl⟩ | ⟨hn, n, T, p, rfl⟩
 ·have hr := pint_range hv
  have hno : numOk s = decide ((⟨(Lib.itoa v).toArray⟩ : ByteArray) = s) := by unfold numOk; rw [hv]
  refine z8 (zMu Z)<|z8 (zXi Z Z)<|z8 (yk (v := .raw _) Z Z)<|zVzAi Z<|zVzAr Z<|z6<|zb<|zSr<|z8 (y9 (v := .raw _) Z)<|z8 (Gv.neqNilF (by kernel_rfl) Z)<|zVzMb Z<|za Z Z Z<|zVzMi Z<|za Z Z Z<|zd (formatInt_spec v hr hT) Z<|za Z Z Z<|z8 (y9 (v := .str _) Z)<|za Z Z Z<|z8 (Gv.neqT Z Z)<|zVzPf Z Z Z<|z6<|zz Z (fun c1=>?_) (fun c1=>?_)
  ·refine zSr<|zVzAi Z<|zVzAb Z<|z6<|ze<|yp (x := .int _ _) (y := .bool _) Z Z ?_
   unfold numV; rw [hno, hv]; simp_all
  ·refine zf<|zSr<|zVzMi Z<|zVzAi Z<|zVzAb Z<|z6<|ze<|yp (x := .int _ _) (y := .bool _) Z Z ?_
   unfold numV; rw [hno, hv]; simp_all
 ·have hno : numOk s = false := by unfold numOk; rw [hn]
  refine z8 (zMu Z)<|z8 (zXi Z Z)<|z8 (yk (v := .ifc _ _) Z Z)<|zVzAi Z<|z8 (y8 (v := .ifc _ _) Z)<|z6<|zb<|zSr<|z8 (y9 (v := .ifc _ _) Z)<|z8 (Gv.neqNilT (by kernel_rfl) Z)<|zVzMb Z<|z7 Z Z Z<|z7 Z Z Z<|z7 Z Z Z<|z7 Z Z Z<|zVzPt Z Z Z<|z6<|yh Z Z<|zSr<|zVzAi Z<|zVzAb Z<|z6<|ze<|yp (x := .int _ _) (y := .bool _) Z Z ?_
  unfold numV; rw [hno]; rfl
end Go.Proofs.YtbkgklpihnfnjaaGreatDoor
