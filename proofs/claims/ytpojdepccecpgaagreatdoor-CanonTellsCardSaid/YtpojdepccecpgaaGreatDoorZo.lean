/- The document's one form. Of typed and joined programs that are little. -/
import Derived.Test.YtpojdepccecpgaaGreatDoorZm
import Derived.Test.YtpojdepccecpgaaGreatDoorZn
import Derived.Test.YtpojdepccecpgaaGreatDoorZk
import Derived.Test.YtpojdepccecpgaaGreatDoorZl
import Derived.Test.YtpojdepccecpgaaGreatDoorZh
import Derived.Test.YtpojdepccecpgaaGreatDoorZd
import Derived.Test.YtpojdepccecpgaaGreatDoorZi
import Derived.Test.YtpojdepccecpgaaGreatDoorZj
set_option linter.unusedVariables false
set_option linter.unusedSimpArgs false
set_option linter.unusedSectionVars false
namespace Go.Proofs.YtpojdepccecpgaaGreatDoor
open Go.Proofs.Tryz
open Go.Proofs Go.Lib Go.Shelf Go.RowKit
theorem pl58 : Places prog 58 #[(0, 1), (1, 1)] [.str ⟨#[]⟩, .int .i64 0] := ⟨_, _, jv, Ya, fun w => by kernel_rfl, rfl⟩
theorem ps22_1 : PlacesS prog 22 58 1 2 [.str ⟨#[]⟩, .int .i64 0] := ⟨_, jn, Z0, Ya, by decide, by decide, by kernel_rfl⟩
theorem pl61 : Places prog 61 #[(0, 1), (1, 1), (2, 1), (3, 1)] [.int .i64 0, .int .i64 0, .raw (.slice none 0 0), .int .i64 0] := ⟨_, _, j9, Zb, fun w => by kernel_rfl, rfl⟩
variable {E : World}
set_option maxRecDepth 20000
theorem prune_all {f : PFunc} (hT : typedB f = true) (hJ : JoinP f) : ∀ x : Int, 0 ≤ x → x < (pruneF f).blocks.length → x ∈ ord (pruneF f) := fun x h0 h1 => by
 have h := prune_like (typedE hT) (typedS hT) hJ
 obtain ⟨y, hy, e⟩ := h.onto x h0 h1
 rw [h.orders, ← e]
 exact List.mem_map_of_mem hy
theorem canB_vars {f : PFunc} (hT : typedB f = true) (hJ : JoinP f) : ∀ b ∈ canB f, ∀ v ∈ blkVars b, v ∈ vsL f := fun b hb v hv => by
 unfold vsL
 rw [see_mem]
 exact .inr (List.mem_append_right _ (List.mem_flatMap.2 ⟨b, hb, hv⟩))
theorem vs_rng {f : PFunc} (hT : typedB f = true) (hJ : JoinP f) {v : Int} (h : v ∈ vsL f) : 0 ≤ v ∧ v < f.vars.length := by
 have := vs_has hT hJ v h
 unfold hasV at this
 simp only [qn, qp] at this
 exact this
theorem canB_small {f : PFunc} (hf : small f) (hT : typedB f = true) (hJ : JoinP f) : ∀ b ∈ canB f, smallBlk b := fun b hb => by
 obtain ⟨h1, h2, h3, h4, h5⟩ := can_small hT hJ hf
 obtain ⟨g1, g2, g3, g4, g5⟩ := h5 (mapV (posI (vsL f)) b) (List.mem_map_of_mem hb)
 refine ⟨g1, by simpa [mapV] using g2, by simpa [mapV] using g3, fun p hp => ?_, fun x hx => ?_⟩
 ·have := g4 _ (List.mem_map_of_mem hp)
  simpa [phM] using this
 ·have := g5 _ (List.mem_map_of_mem hx)
  simpa [insM] using this
def valsV (f : PFunc) (k : Nat) : List PVar := ((vsL f).zipIdx.map (canV f)).take k
set_option maxHeartbeats 8000000 in
theorem canon_good (f : PFunc) (hf : small f) (hL : Letters E) (hPw : Pows E) (ht : typedB f = true) (hJ : JoinP f) : AFun prog E 9 [.agg (encF f)] (.tup [.agg (encF (canD f)), .int .i64 0]) := by
 have hjo := joinedX_spec (E := E) f hf hL
 rw [ht, (joinedB_iff _).2 hJ] at hjo
 have hjo : AFun prog E 23 [.agg (encF f)] (.int .i64 0) := hjo
 have hpr := prune_spec f hf hL ht hJ
 have hgs := prune_small hf
 have hgt := prune_typed ht hJ
 have htu := turned_spec (pruneF f) hgs hL hPw hgt.1 hgt.2 (prune_all ht hJ)
 rw [← prune_can ht hJ]
 obtain ⟨g, hg⟩ : ∃ g, pruneF f = g := ⟨_, rfl⟩
 rw [hg] at hpr hgs hgt htu ⊢
 obtain ⟨gt, gJ⟩ := hgt
 have hvr := fun v => vs_rng (f := g) gt gJ (v := v)
 have hpv : ∀ v ∈ g.params, v ∈ vsL g := fun v hv => vs_par hv
 have hbv := canB_vars gt gJ
 have hbs := canB_small hgs gt gJ
 obtain ⟨hg1, hg2, hg3, hg4, hg5⟩ := id hgs
 have hvl := vs_len gt gJ
 have hcl : (canB g).length = g.blocks.length ∨ (canB g).length ≤ 1000 := .inr (by
  have := canB_len (f := g)
  have h2 : (ord g).length ≤ g.blocks.length := order_len (typedE gt).grph
  omega)
 have hcl : (canB g).length ≤ 1000 := by omega
 have hsee := seen_spec (E := E) .any g.params (canB g) g.vars.length hg1 (fun v hv => hvr v (hpv v hv)) (fun b hb v hv => hvr v (hbv b hb v hv)) hg2 hcl hbs (.fro 2 (g.vars.map encVar)) (.fro 7 (g.blocks.map encBlk))
 rw [show seeL [] (g.params ++ (canB g).flatMap blkVars) = vsL g from rfl] at hsee
 refine zl func9 Z (by decide) Z<|zSr<|AOps.boxO (cs := _) Z Z Z Z<|fun i1 => zo (cs := [.raw (.slice none 0 0), .raw (.slice none 0 0), .raw (.slice none 0 0)]) Z6 Z Z<|fun i2 => zVzAi Z<|z6<|zb<|zSr<|z7 (yk jk jg Z ⟨_, .t1⟩ Z)<|ze (hjo) Z<|zVzAi Z<|z6<|zSr<|zVzMi Z<|zVGvneqI Z Z<|z6<|yf Z Z<|zf<|zSr<|z7 (yk jk jg Z ⟨_, .t1⟩ Z)<|ze (hpr) Z<|z7 (zMu Z)<|z7 (yr (v := .agg _) Z Z)<|z7 (zXi Z Z)<|zm jg Z Z Z Z Z Z .t1 Z<|yh (y8 (t := 1) Z .t1)<|zVzAi Z<|z6<|zb<|zSr<|zVzMi Z<|zVGvneqI Z Z<|z6<|yf Z Z<|zf<|zSr<|zVGvloadWF jk jg Z Z<|ze (htu) Z<|z7 (zAf Z) ?_
 refine z6<|zSr<|zVGvloadWF jk jg Z Z<|zVzMf Z<|yl Z (zy (.r (.rest _))) (hsee) ?_
 rintro r38 O38 ⟨⟨o, bm, io, es⟩, rfl, rfl, hM⟩
 refine z7 (zAp Z)<|z6<|zSr<|zVzFF j6 Z jc Z Z<|zVzLf jm Z<|ze (cloneI_spec g.params hg2) Z<|z7 (y6 (cps := [(1, [_])]) (rs := [.raw (.slice none 0 0), _, .raw (.slice none 0 0)]) pl26 Z Z Z)<|zo (cs := [.raw (.slice none 0 0), .raw (.slice none 0 0), .raw (.slice none 0 0)]) Z6 Z Z<|fun i8 => zm jg Z Z Z Z Z Z .head Z<|z6<|zb<|zSr<|z7 (zMp Z)<|z7 (ya Z)<|z7 (zc Zp Z jc (by decide) Z Z)<|z7 (zi (c := .own _ _) jm Z ⟨_, .t1⟩ Z)<|z7 (Gv.lenO j4 Z)<|zVzMi Z<|z6<|adoptC_wp (off := 0) (k := 2) (T := 58) (fun _ => .head) Z<|fun iv => y2 (y7 (yd .t1))<|zd<|zt (γ := Nat × Nat) [1, 2, 6, 7, 8, 46, 47] (fun q => [(48, .int .i64 q.1)]) (fun q => [(i8, .cells 26 [.own q.2 q.1, .fro 1 (g.params.map encI), .raw (.slice none 0 0)]), (q.2, .grow 2 58 ((valsV g q.1).map encVar).flatten), (o, .cells 79 [.own io (vsL g).length, mref bm]), (io, .grow 1 3 (cI (vsL g))), (0, mapAO bm es), (i2, .cells 26 [.raw (.slice none 0 0), .raw (.slice none 0 0), .raw (.slice none 0 0)])]) (fun q => q.1 ≤ (vsL g).length) (fun q => (vsL g).length - q.1) (0, iv) zR1 zLe (qc _) ?_
 rintro ⟨k, iv⟩ hk
 try dsimp only at *
 refine zSr<|zVGvlss Z Z<|z6<|zb<|zn Z (fun ck=>?_) (fun ck=>?_)
 ·have hk2 : k < (vsL g).length := by omega
  obtain ⟨v, hv⟩ : ∃ v, (vsL g)[k] = v := ⟨_, rfl⟩
  have hgv : (vsL g)[k]? = some v := by rw [q9 hk2, hv]
  have hvv := hvr v (hv ▸ qd hk2)
  obtain ⟨x, hx⟩ : ∃ x, g.vars[v.toNat]'(by omega) = x := ⟨_, rfl⟩
  have hgx : g.vars[v.toNat]? = some x := by rw [q9 (by omega), hx]
  have hkv : kindV g v = x.ty := by unfold kindV; rw [hgx]; rfl
  have hvn : valsV g (k + 1) = valsV g k ++ [⟨nameK 118 k, x.ty⟩] := by
   unfold valsV
   rw [List.take_add_one, qh, List.getElem?_zipIdx, hgv, ← hkv]
   simp [canV]
  have hsz : (⟨#[118]⟩ : ByteArray).size + (⟨(Lib.itoa (k : Int)).toArray⟩ : ByteArray).size ≤ 100 := by
   have := Lib.itoa_length_le (k : Int) (by omega) (by omega)
   show 1 + (List.toArray _).size ≤ _
   rw [List.size_toArray]; omega
  refine zf<|zb<|zd<|zSr<|zVzMi Z<|z7 (Gv.idxI (j := k) j4 j8 Z Z Z ⟨_, .t3⟩ (cI_len _) hk2)<|z7 (Gv.loadI (j := k) jh Z ⟨_, .t3⟩ hgv)<|zVzAi Z<|zVzAi Z<|z6<|zw (fun j => Nat.beq j 15) (by kernel_rfl) Z (zy (.r (.rest _)))<|zTk 0 Z (zc j6 Z Z1 (by decide) Z Z)<|zTk 1 Z (zi (c := .own _ _) Z7 Z ⟨_, .head⟩ Z)<|zTk 2 Z (zMi Z)<|zTk 5 Z (zFF j6 Z Z1 Z Z)<|zTk 6 Z (zLf Z7 Z)<|zTk 7 Z (zMi Z)<|zTk 8 Z (zIM v.toNat jn Z0 Z Z (by omega) hgx)<|zTk 9 Z (zFF jv Z Y6 Z Z)<|zTk 10 Z (zLi Yb Z)<|zOn 3 Z<|ze (itoa_spec k ⟨by omega, by omega⟩ hPw) Z<|z6<|zTk 4 Z (yb Z Z (by omega))<|zTk 11 Z (y6 (cps := [(0, [_]), (1, [_])]) (rs := [_, _]) pl58 Z Z Z)<|zOn 12 Z<|zk (rows := [[_, _]]) ps22_1 Z Z Z Z Z<|z6<|zOn 13 Z<|zu (k := 2) jn type58 Z Z Z Z Z (fun _ => .head) (by rw [grow_len (k := 2) (fun _ => rfl)]; unfold valsV; rw [qk, qg, List.length_zipIdx]; omega) (by decide) Z (by show (_ + _) * 24 ≤ _; simp <;> omega) (by simp <;> omega)<|fun i66 => z6<|zTk 14 Z (zc j6 Z Z1 (by decide) Z Z)<|yc<|y9 (i := 15) Z (by kernel_rfl) (by kernel_rfl)<|y1 (l := [_]) (new := [_, _, _]) Z1 Z Z Z Z Z Z .head Z Z<|z6<|yg (by kernel_rfl)<|zRg<|zVzAd Z Z<|zVzMi Z ?_
  refine z6 ?_
  exact ⟨(k + 1, i66), zR7, zR1, ⟨_, (.refl _), by rw [hvn, qj, List.flatten_append, ← nameK_itoa]; rfl⟩, hk2, by dsimp only; omega⟩
 ·obtain rfl : k = (vsL g).length := by omega
  have hvs : valsV g (vsL g).length = (canD g).vars := by
   unfold valsV
   rw [List.take_of_length_le (by rw [qg, List.length_zipIdx]; exact Nat.le_refl _)]; rfl
  rw [hvs, cI_fl (vsL g)]
  refine zr<|y2 (yn (off := 0) (rows := (canD g).vars.map encVar) .t1 .head Z (by intro r hr; obtain ⟨z, _, rfl⟩ := List.mem_map.1 hr; rfl) (by decide) (by rw [qg]; exact can_vlen))<|y2 (yn (off := 0) (rows := (vsL g).map encI) .t2 .t1 Z (by intro r hr; obtain ⟨z, _, rfl⟩ := List.mem_map.1 hr; rfl) (by decide) (by rw [qg]))<|y2 (GStep.knowMap (off := 1) .t2 .t1 Z (hM))<|y2 (y8 (t := 7) Z .t1)<|zb<|zSr<|zVzMf Z<|zVGvlenM je Z<|zVzMi Z<|z6<|adoptC_wp (off := 2) (k := 7) (T := 69) (fun _ => .head) Z<|fun ib => y2 (y7 (yd .t1))<|zd<|zt (γ := Nat × Nat) [2, 7, 8, 69, 70] (fun q => [(71, .int .i64 q.1)]) (fun q => [(i8, .cells 26 [.fro 2 ((canD g).vars.map encVar), .fro 1 (g.params.map encI), .own q.2 q.1]), (q.2, .grow 7 69 ((((canB g).take q.1).map (mapV (posI (vsL g)))).map encBlk).flatten), (i2, .cells 26 [.raw (.slice none 0 0), .raw (.slice none 0 0), .raw (.slice none 0 0)])]) (fun q => q.1 ≤ (canB g).length) (fun q => (canB g).length - q.1) (0, ib) zR1 zLe (qc _) ?_
  rintro ⟨k, ib⟩ hk
  try dsimp only at *
  refine zSr<|zVGvlss Z Z<|z6<|zb<|zn Z (fun ck=>?_) (fun ck=>?_)
  ·have hk2 : k < (canB g).length := by omega
   obtain ⟨b, hb⟩ : ∃ b, (canB g)[k] = b := ⟨_, rfl⟩
   have hgb : (canB g)[k]? = some b := by rw [q9 hk2, hb]
   have hbm : b ∈ canB g := hb ▸ qd hk2
   obtain ⟨q1, q2, q3, q4, q5⟩ := hbs b hbm
   have hv := hbv b hbm
   have hcl7 : (((((canB g).take k).map (mapV (posI (vsL g)))).map encBlk).flatten).length = k * 7 := by rw [grow_len (k := 7) (fun _ => rfl), qg, qk]; omega
   refine zf<|zb<|zd<|zSr<|z7 (zIM k je jj Z Z Z hgb)<|zVGvloadWF Zc jj Z Z<|zo (cs := [.str ⟨#[]⟩, .raw (.slice none 0 0), .raw (.slice none 0 0), .int .i64 0, .int .i64 0, .int .i64 0, .int .i64 0]) jz Z Z<|fun i12 => zm jj Z Z Z Z Z Z .head Z<|yh (y8 (t := 12) Z .head)<|z6<|zSr<|zVzFF j5 Z ju Z Z<|z7 (ye (c := .str _) jy Z)<|zVzFF j5 Z jq Z Z<|zVGvloadWF Zt jq Z Z<|z7 (y6 (cps := [(0, [_]), (3, [_, _, _, _])]) (rs := [_, .raw (.slice none 0 0), .raw (.slice none 0 0), _, _, _, _]) pl69 Z Z Z)<|zo (cs := [.str ⟨#[]⟩, .raw (.slice none 0 0), .raw (.slice none 0 0), .int .i64 0, .int .i64 0, .int .i64 0, .int .i64 0]) jz Z Z<|fun i13 => zm jj Z Z Z Z Z Z .head Z<|z6<|zb<|zSr<|zVzFF j5 Z Z2 Z Z<|zVzLf Zd Z<|zVGvlenM jl Z<|zVzMi Z<|z6<|adoptC_wp (off := 1) (k := 3) (T := 71) (fun _ => .head) Z<|fun ip => y2 (y7 (yd .t1))<|zd<|zt (γ := Nat × Nat) [2, 7, 8, 12, 13, 69, 70, 71, 81, 82] (fun q => [(83, .int .i64 q.1)]) (fun q => [(i13, .cells 69 [.str b.name, .own q.2 q.1, .raw (.slice none 0 0), .int .i64 b.term.kind, .int .i64 b.term.var, .int .i64 b.term.to0, .int .i64 b.term.to1]), (q.2, .grow 3 71 (((b.phis.take q.1).map (phM (posI (vsL g)))).map encPhi).flatten), (i8, .cells 26 [.fro 2 ((canD g).vars.map encVar), .fro 1 (g.params.map encI), .own ib k]), (ib, .grow 7 69 ((((canB g).take k).map (mapV (posI (vsL g)))).map encBlk).flatten), (i2, .cells 26 [.raw (.slice none 0 0), .raw (.slice none 0 0), .raw (.slice none 0 0)])]) (fun q => q.1 ≤ b.phis.length) (fun q => b.phis.length - q.1) (0, ip) zR1 zLe (qc _) ?_
   rintro ⟨m, ip⟩ hm
   try dsimp only at *
   refine zSr<|zVGvlss Z Z<|z6<|zb<|zn Z (fun cm=>?_) (fun cm=>?_)
   ·have hm2 : m < b.phis.length := by omega
    obtain ⟨p, hp⟩ : ∃ p, b.phis[m] = p := ⟨_, rfl⟩
    have hgp : b.phis[m]? = some p := by rw [q9 hm2, hp]
    have hpm : p ∈ b.phis := hp ▸ qd hm2
    have hpl := q4 p hpm
    have hpv2 : ∀ v ∈ phiVars p, v ∈ vsL g := fun v h => hv v (List.mem_append_left _ (List.mem_flatMap.2 ⟨p, hpm, h⟩))
    refine zf<|zb<|zd<|zSr<|z7 (zIM m jl jp Z Z Z hgp)<|zVGvloadWF Zf jp Z Z<|zo (cs := [.int .i64 0, .raw (.slice none 0 0), .raw (.slice none 0 0)]) Z4 Z Z<|fun i15 => zm jp Z Z Z Z Z Z .head Z<|yh (y8 (t := 15) Z .head)<|z6<|zw (fun j => Nat.beq j 19) (by kernel_rfl) Z (zy (.r (.rest _)))<|zTk 0 Z (zc j5 Z Z2 (by decide) Z Z)<|zTk 1 Z (zi (c := .own _ _) Zd Z ⟨_, .head⟩ Z)<|zTk 2 Z (zMg Z)<|zTk 3 Z (Gv.nilCheckF Z)<|zTk 4 Z (zFF Zp Z sizeOf77 Z Z)<|zTk 5 Z (ye (c := mapL (vsL g)) isAgg77 Z)<|zTk 6 Z (zFF jd Z j8 Z Z)<|zTk 7 Z (zLi jh Z)<|zTk 8 Z (Gv.lookupL (hpv2 p.dst (.head _)) Y5 Z8 Z Z)<|zTk 9 Z (zMg Z)<|zTk 10 Z (zFF jd Z jc Z Z)<|zTk 11 Z (zLf jm Z)<|zTk 13 Z (zFF jd Z jc Z Z)<|zTk 14 Z (zLf jm Z)<|zOn 12 Z<|ze (allF_spec (vsL g) p.args (by omega) (fun v h => hpv2 v (.tail _ h))) Z<|z6<|zTk 15 Z (y6 (cps := [(0, [_]), (1, [_]), (2, [_])]) (rs := [_, _, _]) pl71 Z Z Z)<|zOn 16 Z<|zk (rows := [[_, _, _]]) ps67_1 Z Z Z Z Z<|z6<|zOn 17 Z<|zu (k := 3) jl type71 Z Z Z Z Z (fun _ => .head) (by rw [grow_len (k := 3) (fun _ => rfl), qg, qk, Nat.min_eq_left hm]) (by decide) Z (by show (_ + _) * 56 ≤ _; simp <;> omega) (by simp <;> omega)<|fun i104 => z6<|zTk 18 Z (zc j5 Z Z2 (by decide) Z Z)<|yc<|y9 (i := 19) Z (by kernel_rfl) (by kernel_rfl)<|y1 (l := [_]) (new := [_, _, _, _, _, _, _]) Z2 Z Z Z Z Z Z .head Z Z ?_
    refine z6<|yg (by kernel_rfl)<|zRg<|zVzAd Z Z<|zVzMi Z<|z6 ?_
    exact ⟨(m + 1, i104), ⟨rfl, rfl, rfl, rfl, rfl, rfl, rfl, rfl, rfl, rfl, trivial⟩, zR1, ⟨_, (.refl _), by rw [List.take_add_one, hgp, qj, qj, List.flatten_append]; rfl⟩, hm2, by dsimp only; omega⟩
   ·obtain rfl : m = b.phis.length := by omega
    rw [qe]
    refine zr<|y2 (yn (off := 1) (rows := (b.phis.map (phM (posI (vsL g)))).map encPhi) .t1 .head Z (by intro r hr; obtain ⟨z, _, rfl⟩ := List.mem_map.1 hr; rfl) (by decide) (by simp))<|zb<|zSr<|zVzFF j5 Z Z3 Z Z<|zVzLf Zh Z<|zVGvlenM jr Z<|zVzMi Z<|z6<|adoptC_wp (off := 2) (k := 4) (T := 61) (fun _ => .head) Z<|fun ii => y2 (y7 (yd .t1))<|zd<|zt (γ := Nat × Nat) [2, 7, 8, 12, 13, 69, 70, 71, 108, 109] (fun q => [(110, .int .i64 q.1)]) (fun q => [(i13, .cells 69 [.str b.name, .fro 3 ((b.phis.map (phM (posI (vsL g)))).map encPhi), .own q.2 q.1, .int .i64 b.term.kind, .int .i64 b.term.var, .int .i64 b.term.to0, .int .i64 b.term.to1]), (q.2, .grow 4 61 (((b.insts.take q.1).map (insM (posI (vsL g)))).map encInst).flatten), (i8, .cells 26 [.fro 2 ((canD g).vars.map encVar), .fro 1 (g.params.map encI), .own ib k]), (ib, .grow 7 69 ((((canB g).take k).map (mapV (posI (vsL g)))).map encBlk).flatten), (i2, .cells 26 [.raw (.slice none 0 0), .raw (.slice none 0 0), .raw (.slice none 0 0)])]) (fun q => q.1 ≤ b.insts.length) (fun q => b.insts.length - q.1) (0, ii) zR1 zLe (qc _) ?_
    rintro ⟨m, ii⟩ hm
    try dsimp only at *
    refine zSr<|zVGvlss Z Z<|z6<|zb<|zn Z (fun cm=>?_) (fun cm=>?_)
    ·have hm2 : m < b.insts.length := by omega
     obtain ⟨x, hx⟩ : ∃ x, b.insts[m] = x := ⟨_, rfl⟩
     have hgx : b.insts[m]? = some x := by rw [q9 hm2, hx]
     have hxm : x ∈ b.insts := hx ▸ qd hm2
     have hxl := q5 x hxm
     have hxv : ∀ v ∈ instVars x, v ∈ vsL g := fun v h => hv v (List.mem_append_right _ (List.mem_append_left _ (List.mem_flatMap.2 ⟨x, hxm, h⟩)))
     have hil : ((((b.insts.take m).map (insM (posI (vsL g)))).map encInst).flatten).length = m * 4 := by rw [grow_len (k := 4) (fun _ => rfl), qg, qk, Nat.min_eq_left hm]
     have hpush : ∀ y : PInst, insM (posI (vsL g)) x = y → (((b.insts.take m).map (insM (posI (vsL g)))).map encInst).flatten ++ encInst y = (((b.insts.take (m + 1)).map (insM (posI (vsL g)))).map encInst).flatten := fun y h => by
      rw [List.take_add_one, hgx, qj, qj, List.flatten_append, ← h]
      simp
     refine zf<|zb<|zd<|zSr<|z7 (zIM m jr jt Z Z Z hgx)<|zVGvloadWF Zk jt Z Z<|zo (cs := [.int .i64 0, .int .i64 0, .raw (.slice none 0 0), .int .i64 0]) Zb Z Z<|fun i17 => zm jt Z Z Z Z Z Z .head Z<|yh (y8 (t := 17) Z .head)<|z6<|zb<|yp (γ := Nat) [2, 7, 8, 12, 13, 17, 69, 70, 71, 108, 109, 110] (fun i => [(18, .po i 0)]) (fun i => [(i, .cells 61 (encInst ⟨x.op, x.dst, x.args.map (posI (vsL g)), x.num⟩)), (i13, .cells 69 [.str b.name, .fro 3 ((b.phis.map (phM (posI (vsL g)))).map encPhi), .own ii m, .int .i64 b.term.kind, .int .i64 b.term.var, .int .i64 b.term.to0, .int .i64 b.term.to1]), (ii, .grow 4 61 (((b.insts.take m).map (insM (posI (vsL g)))).map encInst).flatten), (i8, .cells 26 [.fro 2 ((canD g).vars.map encVar), .fro 1 (g.params.map encI), .own ib k]), (ib, .grow 7 69 ((((canB g).take k).map (mapV (posI (vsL g)))).map encBlk).flatten), (i2, .cells 26 [.raw (.slice none 0 0), .raw (.slice none 0 0), .raw (.slice none 0 0)])]) (fun i => True) ?_ (fun _ _ h => h) ?_
     ·refine zw (fun j => Nat.beq j 12) (by kernel_rfl) Z (zy (.rest _))<|zTk 0 Z (zFF j9 Z Zl Z Z)<|zTk 1 Z (zLi Zr Z)<|zTk 2 Z (zFF j9 Z j8 Z Z)<|zTk 3 Z (zLi jh Z)<|zTk 4 Z (zMg Z)<|zTk 5 Z (zFF j9 Z jc Z Z)<|zTk 6 Z (zLf jm Z)<|zTk 8 Z (zFF j9 Z Y4 Z Z)<|zTk 9 Z (zLi Yc Z)<|q8 (i := 7) (j := 11) Z Z (by kernel_rfl) ?_ ?_
      ·refine ze (allF_spec (vsL g) x.args (by omega) (fun v h => hxv v (List.mem_append_left _ h))) Z<|z6<|zTk 10 Z (y6 (cps := [(0, [_]), (1, [_]), (2, [_]), (3, [_])]) (rs := [_, _, _, _]) pl61 Z Z Z)<|zOn 11 Z<|zo (cs := [.int .i64 0, .int .i64 0, .raw (.slice none 0 0), .int .i64 0]) Zb Z Z<|fun i18 => z6<|yc<|y9 (i := 12) Z (by kernel_rfl) (by kernel_rfl)<|zm jt Z Z Z Z Z Z .head Z<|z6<|yg (by kernel_rfl) ?_
       exact ⟨i18, zR12, zR1, zLe, trivial⟩
      ·refine zo (cs := [.int .i64 0, .int .i64 0, .raw (.slice none 0 0), .int .i64 0]) Zb Z Z<|fun i18 => z6<|zOn 7 Z<|ze (allF_spec (vsL g) x.args (by omega) (fun v h => hxv v (List.mem_append_left _ h))) Z<|z6<|zTk 10 Z (y6 (cps := [(0, [_]), (1, [_]), (2, [_]), (3, [_])]) (rs := [_, _, _, _]) pl61 Z Z Z)<|yc<|y9 (i := 12) Z (by kernel_rfl) (by kernel_rfl)<|zm jt Z Z Z Z Z Z .head Z<|z6<|yg (by kernel_rfl) ?_
       exact ⟨i18, zR12, zR1, zLe, trivial⟩
     ·rintro i18 _
      refine zb<|zSr<|zVzFF j9 Z j8 Z Z<|zVzLi jh Z<|z7 (yz Z Z)<|z6<|zn Z (fun cd=>?_) (fun cd=>?_)
      ·have hd : 0 ≤ x.dst := by first | exact cd | omega
       have hxd : x.dst ∈ vsL g := hxv _ (List.mem_append_right _ (by rw [if_pos hd]; exact .head _))
       refine zw (fun j => Nat.beq j 8) (by kernel_rfl) Z (zy (.rest _))<|zTk 0 Z (zMg Z)<|zTk 1 Z (Gv.nilCheckF Z)<|zTk 2 Z (zFF Zp Z sizeOf77 Z Z)<|zTk 3 Z (ye (c := mapL (vsL g)) isAgg77 Z)<|zTk 4 Z (zFF j9 Z j8 Z Z)<|zTk 5 Z (zLi jh Z)<|zTk 6 Z (Gv.lookupL hxd Y5 Z8 Z Z)<|zTk 7 Z (zc j9 Z j8 (by decide) Z Z)<|yc<|y9 (i := 8) Z (by kernel_rfl) (by kernel_rfl)<|y1 (l := [_]) (new := [_, _, _, _]) j8 Z Z Z Z Z Z .head Z Z<|z6<|yg (by kernel_rfl)<|zRg<|z7 (zc j5 Z Z3 (by decide) Z Z)<|z7 (zi (c := .own _ _) Zh Z ⟨_, .t1⟩ Z)<|z7 (yk Zk jt Z ⟨_, .head⟩ Z)<|zk (rows := [[_, _, _, _]]) ps62_1 Z Z Z Z Z<|zu (k := 4) jr type61 Z Z Z Z Z (fun _ => .t2) hil (by decide) Z (by show (_ + _) * 48 ≤ _; simp <;> omega) (by simp <;> omega)<|fun i140 => z7 (zc j5 Z Z3 (by decide) Z Z)<|y1 (l := [_]) (new := [_, _, _, _, _, _, _]) Z3 Z Z Z Z Z Z .t1 Z Z<|z6<|zRg<|zVzAd Z Z<|zVzMi Z<|z6 ?_
       exact ⟨(m + 1, i140), ⟨rfl, rfl, rfl, rfl, rfl, rfl, rfl, rfl, rfl, rfl, trivial⟩, zR1, ⟨_, (.drop (.refl _)), by rw [← hpush ⟨x.op, posI (vsL g) x.dst, x.args.map (posI (vsL g)), x.num⟩ (by unfold insM; rw [if_pos hd])]; rfl⟩, hm2, by dsimp only; omega⟩
      ·have hd : ¬ 0 ≤ x.dst := by first | exact cd | omega
       refine zf<|zRg<|z7 (zc j5 Z Z3 (by decide) Z Z)<|z7 (zi (c := .own _ _) Zh Z ⟨_, .t1⟩ Z)<|z7 (yk Zk jt Z ⟨_, .head⟩ Z)<|zk (rows := [[_, _, _, _]]) ps62_1 Z Z Z Z Z<|zu (k := 4) jr type61 Z Z Z Z Z (fun _ => .t2) hil (by decide) Z (by show (_ + _) * 48 ≤ _; simp <;> omega) (by simp <;> omega)<|fun i140 => z7 (zc j5 Z Z3 (by decide) Z Z)<|y1 (l := [_]) (new := [_, _, _, _, _, _, _]) Z3 Z Z Z Z Z Z .t1 Z Z<|z6<|zRg<|zVzAd Z Z<|zVzMi Z<|z6 ?_
       exact ⟨(m + 1, i140), ⟨rfl, rfl, rfl, rfl, rfl, rfl, rfl, rfl, rfl, rfl, trivial⟩, zR1, ⟨_, (.drop (.refl _)), by rw [← hpush ⟨x.op, x.dst, x.args.map (posI (vsL g)), x.num⟩ (by unfold insM; rw [if_neg hd])]; rfl⟩, hm2, by dsimp only; omega⟩
    ·obtain rfl : m = b.insts.length := by omega
     rw [qe]
     have hpush : ∀ v : Int, (⟨b.term.kind, v, b.term.to0, b.term.to1⟩ : PTerm) = trmM (posI (vsL g)) id b.term → ((((canB g).take k).map (mapV (posI (vsL g)))).map encBlk).flatten ++ [AV.str b.name, .fro 3 ((b.phis.map (phM (posI (vsL g)))).map encPhi), .fro 4 ((b.insts.map (insM (posI (vsL g)))).map encInst), .int .i64 b.term.kind, .int .i64 v, .int .i64 b.term.to0, .int .i64 b.term.to1] = ((((canB g).take (k + 1)).map (mapV (posI (vsL g)))).map encBlk).flatten := fun v h => by
      rw [List.take_add_one, hgb, qj, qj, List.flatten_append]
      congr 1
      show _ = ([encBlk (mapV (posI (vsL g)) b)] : List (List AV)).flatten
      unfold mapV
      rw [← h]; rfl
     refine zr<|y2 (yn (off := 2) (rows := (b.insts.map (insM (posI (vsL g)))).map encInst) .t1 .head Z (by intro r hr; obtain ⟨z, _, rfl⟩ := List.mem_map.1 hr; rfl) (by decide) (by simp))<|zb<|zSr<|zVzFF j5 Z jq Z Z<|zVzFF j7 Z Za Z Z<|zVzLi Ze Z<|zVGvneqI Z Z<|z6<|zz Z (fun ct=>?_) (fun ct=>?_)
     ·have hk0 : ¬ b.term.kind = 0 := by first | exact ct | simpa using ct
      have htv : b.term.var ∈ vsL g := hv _ (List.mem_append_right _ (List.mem_append_right _ (by unfold termVars; rw [if_neg hk0]; exact .head _)))
      refine zw (fun j => Nat.beq j 10) (by kernel_rfl) Z (zy (.rest _))<|zTk 0 Z (zMg Z)<|zTk 1 Z (Gv.nilCheckF Z)<|zTk 2 Z (zFF Zp Z sizeOf77 Z Z)<|zTk 3 Z (ye (c := mapL (vsL g)) isAgg77 Z)<|zTk 4 Z (zFF j5 Z jq Z Z)<|zTk 5 Z (zFF j7 Z j8 Z Z)<|zTk 6 Z (zLi jh Z)<|zTk 7 Z (Gv.lookupL htv Y5 Z8 Z Z)<|AAny.takeK (i := 8) Z (by kernel_rfl) (by kernel_rfl) (by kernel_rfl) (by kernel_rfl) (zc j5 Z jq (by decide) Z Z)<|zTk 9 Z (zc j7 Z j8 (by decide) Z Z)<|yc<|y9 (i := 10) Z (by kernel_rfl) (by kernel_rfl)<|y1 (l := [_]) (new := [_, _, _, _, _, _, _]) j8 Z Z Z Z Z Z .head Z Z<|z6<|yg (by kernel_rfl)<|zRg<|z7 (zc j6 Z jo (by decide) Z Z)<|z7 (zi (c := .own _ _) jw Z ⟨_, .t1⟩ Z)<|z7 (yk Zc jj Z ⟨_, .head⟩ Z)<|zk (rows := [[_, _, _, _, _, _, _]]) ps24_1 Z Z Z Z Z<|zu (k := 7) je Ye Z Z Z Z Z (fun _ => .t2) hcl7 (by decide) Z (by show (_ + _) * 96 ≤ _; simp <;> omega) (by simp <;> omega)<|fun i161 => z7 (zc j6 Z jo (by decide) Z Z)<|y1 (l := [_]) (new := [_, _, _]) jo Z Z Z Z Z Z .t1 Z Z<|z6<|zRg<|zVzAd Z Z<|zVzMi Z<|z6 ?_
      exact ⟨(k + 1, i161), zR5, zR1, ⟨_, (.drop (.refl _)), by rw [← hpush (posI (vsL g) b.term.var) (by unfold trmM; rw [if_neg hk0]; split <;> rfl)]; rfl⟩, hk2, by dsimp only; omega⟩
     ·have hk0 : b.term.kind = 0 := by first | exact ct | simpa using ct
      refine zf<|zRg<|z7 (zc j6 Z jo (by decide) Z Z)<|z7 (zi (c := .own _ _) jw Z ⟨_, .t1⟩ Z)<|z7 (yk Zc jj Z ⟨_, .head⟩ Z)<|zk (rows := [[_, _, _, _, _, _, _]]) ps24_1 Z Z Z Z Z<|zu (k := 7) je Ye Z Z Z Z Z (fun _ => .t2) hcl7 (by decide) Z (by show (_ + _) * 96 ≤ _; simp <;> omega) (by simp <;> omega)<|fun i161 => z7 (zc j6 Z jo (by decide) Z Z)<|y1 (l := [_]) (new := [_, _, _]) jo Z Z Z Z Z Z .t1 Z Z<|z6<|zRg<|zVzAd Z Z<|zVzMi Z<|z6 ?_
      exact ⟨(k + 1, i161), zR5, zR1, ⟨_, (.drop (.refl _)), by rw [← hpush b.term.var (by unfold trmM; rw [if_pos hk0]; rfl)]; rfl⟩, hk2, by dsimp only; omega⟩
  ·obtain rfl : k = (canB g).length := by omega
   rw [qe]
   refine zr<|y2 (yn (off := 2) (rows := (canD g).blocks.map encBlk) .t1 .head Z (by intro r hr; obtain ⟨z, _, rfl⟩ := List.mem_map.1 hr; rfl) (by decide) (by rw [qg]; exact qg ..))<|zSr<|z7 (yk jk jg Z ⟨_, .head⟩ Z)<|zm jg Z Z Z Z Z Z .t1 Z<|zVzAi Z<|z6<|zh<|afin.c1t (y := .int _ _) Z Z ⟨_, .t1⟩ jk jg Z ?_
   rfl
end Go.Proofs.YtpojdepccecpgaaGreatDoor
namespace Go.Proofs.YtpojdepccecpgaaGreatDoor
open Go.Proofs.Tryz
open Go.Proofs Go.Lib Go.Shelf Go.RowKit
variable {E : World}
set_option maxRecDepth 20000
theorem canon_bad (f : PFunc) (hf : small f) (hL : Letters E) (h : (typedB f && joinedB f) = false) : AFun prog E 9 [.agg (encF f)] (.tup [.agg [.raw (.slice none 0 0), .raw (.slice none 0 0), .raw (.slice none 0 0)], .int .i64 3]) := by
 have hjo := joinedX_spec (E := E) f hf hL
 rw [h] at hjo
 have hjo : AFun prog E 23 [.agg (encF f)] (.int .i64 3) := hjo
 refine zl func9 Z (by decide) Z<|zSr<|AOps.boxO (cs := _) Z Z Z Z<|fun i1 => zo (cs := [.raw (.slice none 0 0), .raw (.slice none 0 0), .raw (.slice none 0 0)]) Z6 Z Z<|fun i2 => zVzAi Z<|z6<|zb<|zSr<|z7 (yk jk jg Z ⟨_, .t1⟩ Z)<|ze (hjo) Z<|zVzAi Z<|z6<|zSr<|zVzMi Z<|zVGvneqI Z Z<|z6<|ym Z Z<|zSr<|z7 (y6 (cps := []) (rs := [.raw (.slice none 0 0), .raw (.slice none 0 0), .raw (.slice none 0 0)]) pl26 Z Z Z)<|zVzMi Z<|zm jg Z Z Z Z Z Z .head Z<|zVzAi Z<|z6<|zh<|afin.c1t (y := .int _ _) Z Z ⟨_, .head⟩ jk jg Z ?_
 rfl
noncomputable def lawJoin (f : PFunc) : Bool := (fewB f && typedB f) && joinedB f
theorem lawJoin_small {f : PFunc} (h : lawJoin f = true) : small f ∧ typedB f = true ∧ JoinP f := by
 unfold lawJoin at h
 simp only [qn] at h
 exact ⟨((fewB_iff f).1 h.1.1).small, h.1.2, (joinedB_iff f).1 h.2⟩
theorem lawJoined_spec (f : PFunc) (hw : wFunc f) (hL : Letters E) : AFun prog E 11 [.agg (encF f)] (.bool (lawJoin f)) := by
 refine zl func11 Z (by decide) Z<|zSr<|y4 (cs := _) Z Z Z<|zVzAb Z<|z6<|zSr<|zVGvloadWF jk jg Z Z<|ze (lawTyped_spec f hw hL) Z<|zVzMb Z<|zp (s := 5) Z (fun g=>?_) (fun g=>?_)
 ·refine za Z Z g<|zVGvloadWF jk jg Z Z<|za Z Z g<|ze (refJoined_spec f (typedE (by simp only [qn] at g; exact g.2)) ((fewB_iff f).1 (by simp only [qn] at g; exact g.1)).small (typedS (by simp only [qn] at g; exact g.2))) Z<|zVzPt Z g Z<|zVzAb Z<|z6<|zh<|zj (x := .bool _) Z ?_
  exact jb (by unfold lawJoin; rw [g]; rfl)
 ·refine z8 Z Z g<|z8 Z Z g<|zVzPf Z g Z<|zVzAb Z<|z6<|zh<|zj (x := .bool _) Z ?_
  exact jb (by unfold lawJoin; rw [g]; rfl)
end Go.Proofs.YtpojdepccecpgaaGreatDoor
namespace Go.Proofs.YtpojdepccecpgaaGreatDoor
open Go.Proofs.Tryz
section
variable {E : World} {P : Program} {ops : Array Oper} {K : AEnv → OL → Prop} {env : AEnv} {O O' : OL} {rest : List Oper}
variable {d ty : Nat} {pos : String} {af : Array Edge} {x y z : Operand} {t u e : TypeId}
theorem AOps.appendO {ti : TypeInfo} {zv : Value} {k n m i j : Nat} {T2 : TypeId} {cs ds : List AV} {f : Nat → OL} (ht : P.underlying t = some (.slice e)) (hi : P.info? e = some ti) (hz : ti.zero = some zv) (hk : ti.size = k) (hzc : zv.cells.size = k)
  (hx : aev env x = .own i n) (hy : aev env y = .own j m) (hO : ∀ i', Swp O i (.grow k e cs) i' (.grow k e (cs ++ ds)) (f i')) (hj : Has O j (.grow k T2 ds)) (hn : cs.length = n * k) (hm : ds.length = m * k) (hne : ds ≠ []) (hk0 : 0 < k) (hc1 : ds.all AV.cell = true) (hb : (n + m) * ti.bytes ≤ 140737488355328) (hb2 : n + m ≤ 140737488355328)
  (kk : ∀ i', AOps P E ops K rest (aupd env d (.own i' (n + m))) (f i')) :
  AOps P E ops K (Oper.mk (some d) (.call { callee := .builtin .append, args := #[x, y], argTypes := #[t, t] }) ty pos af none :: rest) env O := fun I F ρ w h1 h2 => by
 obtain ⟨htop, L, hL, hS⟩ := id h2
 have h3 := h1.ev x
 rw [hx] at h3
 obtain ⟨b, cap, e1, ex⟩ := h3
 have h4 := h1.ev y
 rw [hy] at h4
 obtain ⟨b4, c4, e4, ey⟩ := h4
 obtain ⟨b2, c2, us2, junk, e5, hus2, hmem⟩ := hj.grow hL hne
 rw [e4] at e5
 simp only [Option.some.injEq, Prod.mk.injEq] at e5
 obtain ⟨rfl, rfl⟩ := e5
 obtain ⟨j', hj'⟩ := h2.name
 obtain ⟨A, B, hp, ⟨b', cap', n', us, e2, hus, huc, hown⟩, hback⟩ := (hO j').rep hL
 simp only at e2
 rw [e1] at e2
 simp only [Option.some.injEq, Prod.mk.injEq] at e2
 obtain ⟨rfl, rfl⟩ := e2
 have hnn : n' = n := by
  have h5 := hown.1
  have h6 := hus.length
  have : n' * k = n * k := by omega
  exact Nat.eq_of_mul_eq_mul_right hk0 this
 subst hnn
 have hS2 : SL I.k (A ++ (B ++ F)) E w := hS.perm (by rw [← qb]; exact (hp.append_right F).symm)
 have hmem2 : (b2, Obj.cells (us2 ++ junk).toArray T2 (0, 0)) ∈ A ++ (B ++ F) := by rw [← qb]; exact List.mem_append_left _ (hp.mem_iff.1 hmem)
 have hsrc : Src I.k (A ++ (B ++ F)) k (some ⟨b2, 0, none⟩) m us2 := ⟨by rw [hus2.length, hm], hus2.cell1 hc1, .inr ⟨_, rfl, fun q u hq => ⟨b2, 0, rfl, .inr ⟨_, _, _, hmem2, by
  rw [Nat.zero_add, List.getElem?_toArray, List.getElem?_append_left (List.getElem?_eq_some_iff.1 hq).1]; exact hq⟩⟩⟩⟩
 refine Ops.append ht hi hz hk hzc ex ey hS2 hown hsrc hb hb2 fun a' c' A' w' h5 h6 h7 => ?_
 have hb' : ∃ b'', a' = adr b'' := by
  rcases h5.2.2 with ⟨e, _⟩ | ⟨b'', junk, e, _⟩
  ·exact ⟨none, e⟩
  ·exact ⟨some b'', e⟩
 obtain ⟨b'', rfl⟩ := hb'
 obtain ⟨J, ek, hle, e3, htop'⟩ := hj' (b'', c')
 obtain ⟨L', h8, h9⟩ := hback hle (A' := A') ⟨b'', c', _, us ++ us2, e3, yx hle _ _ (hus.append hus2), (by
  intro u hu
  rcases List.mem_append.1 hu with hu | hu
  ·exact huc u hu
  ·exact hus2.cell1 hc1 u hu), h5⟩
 exact yq (fun _ _ => yt hle) _ _ _ (kk j' J F _ _ ((h1.mono hle).upd d ⟨b'', c', e3, rfl⟩) ⟨htop', L', h8, by rw [ek]; exact h6.perm (by rw [← qb]; exact h9.append_right F)⟩)
end
end Go.Proofs.YtpojdepccecpgaaGreatDoor
namespace Go.Proofs.YtpojdepccecpgaaGreatDoor
open Go.Proofs.Tryz
section
variable {E : World} {P : Program} {ops : Array Oper} {K : AEnv → OL → Prop} {env : AEnv} {O O' : OL} {rest : List Oper}
variable {d ty : Nat} {pos : String} {af : Array Edge} {x y z : Operand} {t u e : TypeId}
theorem AOps.appendOZ {ti : TypeInfo} {zv : Value} {k n m i j : Nat} {T2 : TypeId} {cs ds : List AV} {f : Nat → OL} (ht : P.underlying t = some (.slice e)) (hi : P.info? e = some ti) (hz : ti.zero = some zv) (hk : ti.size = k) (hzc : zv.cells.size = k)
  (hx : aev env x = .own i n) (hy : aev env y = .own j m) (hO : ∀ i', Swp O i (.grow k e cs) i' (.grow k e (cs ++ ds)) (f i')) (hj : Has O j (.grow k T2 ds)) (hn : cs.length = n * k) (hm : ds.length = m * k) (hk0 : 0 < k) (hc1 : ds.all AV.cell = true) (hb : (n + m) * ti.bytes ≤ 140737488355328) (hb2 : n + m ≤ 140737488355328)
  (kk : ∀ i', AOps P E ops K rest (aupd env d (.own i' (n + m))) (f i')) :
  AOps P E ops K (Oper.mk (some d) (.call { callee := .builtin .append, args := #[x, y], argTypes := #[t, t] }) ty pos af none :: rest) env O := by
 by_cases hne : ds = []
 ·subst hne
  have hm0 : m = 0 := by
   have : m * k = 0 := hm.symm
   rcases Nat.mul_eq_zero.1 this with h | h
   ·exact h
   ·omega
  subst hm0
  intro I F ρ w h1 h2
  obtain ⟨htop, L, hL, hS⟩ := id h2
  have h3 := h1.ev x
  rw [hx] at h3
  obtain ⟨b, cap, e1, ex⟩ := h3
  have h4 := h1.ev y
  rw [hy] at h4
  obtain ⟨b4, c4, e4, ey⟩ := h4
  obtain ⟨j', hj'⟩ := h2.name
  obtain ⟨A, B, hp, ⟨b', cap', n', us, e2, hus, huc, hown⟩, hback⟩ := (hO j').rep hL
  simp only at e2
  rw [e1] at e2
  simp only [Option.some.injEq, Prod.mk.injEq] at e2
  obtain ⟨rfl, rfl⟩ := e2
  have hnn : n' = n := by
   have h5 := hown.1
   have h6 := hus.length
   have : n' * k = n * k := by omega
   exact Nat.eq_of_mul_eq_mul_right hk0 this
  subst hnn
  have hS2 : SL I.k (A ++ (B ++ F)) E w := hS.perm (by rw [← qb]; exact (hp.append_right F).symm)
  have hsrc : Src I.k (A ++ (B ++ F)) k (adr b4) 0 [] := ⟨by simp, by simp, by cases b4 with | none => exact .inl ⟨rfl, rfl⟩ | some b4 => exact .inr ⟨_, rfl, by simp⟩⟩
  refine Ops.append ht hi hz hk hzc ex ey hS2 hown hsrc hb hb2 fun a' c' A' w' h5 h6 h7 => ?_
  have hb' : ∃ b'', a' = adr b'' := by
   rcases h5.2.2 with ⟨e, _⟩ | ⟨b'', junk, e, _⟩
   ·exact ⟨none, e⟩
   ·exact ⟨some b'', e⟩
  obtain ⟨b'', rfl⟩ := hb'
  obtain ⟨J, ek, hle, e3, htop'⟩ := hj' (b'', c')
  obtain ⟨L', h8, h9⟩ := hback hle (A' := A') ⟨b'', c', _, us ++ [], e3, yx hle _ _ (hus.append rfl), (by rw [List.append_nil]; exact huc), h5⟩
  exact yq (fun _ _ => yt hle) _ _ _ (kk j' J F _ _ ((h1.mono hle).upd d ⟨b'', c', e3, rfl⟩) ⟨htop', L', h8, by rw [ek]; exact h6.perm (by rw [← qb]; exact h9.append_right F)⟩)
 ·exact AOps.appendO ht hi hz hk hzc hx hy hO hj hn hm hne hk0 hc1 hb hb2 kk
end
end Go.Proofs.YtpojdepccecpgaaGreatDoor
namespace Go.Proofs.YtpojdepccecpgaaGreatDoor
open Go.Proofs.Tryz
open Go.Proofs Go.Lib Go.Shelf Go.RowKit
variable {E : World}
set_option maxRecDepth 20000
theorem VisL.seen {E : Int → List Int} {n : Nat} (hE : ∀ b : Int, 0 ≤ b → b < n → ∀ c ∈ E b, 0 ≤ c ∧ c < n) {s s' : List Bool} {cs p : List Int} (h : VisL E s cs s' p) (hs : s.length = n) (hc : ∀ c ∈ cs, 0 ≤ c ∧ c < n) : (∀ x : Int, 0 ≤ x → gb s x = true → gb s' x = true) ∧ (∀ c ∈ cs, gb s' c = true) ∧ p.length + unseen s' = unseen s := by
 induction h with
 | nil => exact ⟨fun _ _ h => h, fun _ h => (by cases h), by simp⟩
 | old h _ ih =>
  obtain ⟨h1, h2, h3⟩ := ih hs fun c h => hc c (.tail _ h)
  refine ⟨h1, fun c hcm => ?_, h3⟩
  rcases List.mem_cons.1 hcm with rfl | hcm
  ·exact h1 _ (hc _ (.head _)).1 h
  ·exact h2 c hcm
 | @new s s1 s' c cs p q h k _ i1 i2 =>
  have hc0 := hc _ (.head _)
  obtain ⟨a1, a2, a3⟩ := i1 (by rw [List.length_set]; exact hs) (hE c hc0.1 hc0.2)
  obtain ⟨b1, b2, b3⟩ := i2 (by rw [k.len, List.length_set]; exact hs) fun c h => hc c (.tail _ h)
  have hg : gb (s.set c.toNat true) c = true := (gb_set hc0.1 (by omega) hc0.1).2 (.inl rfl)
  refine ⟨fun x h0 hx => b1 x h0 (a1 x h0 ((gb_set hc0.1 (by omega) h0).2 (.inr hx))), fun d hd => ?_, ?_⟩
  ·rcases List.mem_cons.1 hd with rfl | hd
   ·exact b1 _ hc0.1 (a1 _ hc0.1 hg)
   ·exact b2 d hd
  ·have hu : unseen (s.set c.toNat true) + 1 = unseen s := unseen_set s c.toNat (by
    have hlt : c.toNat < s.length := by omega
    unfold gb at h
    rw [q9 hlt] at h ⊢
    simpa using h)
   rw [qf, List.length_cons]
   omega
theorem VisL.oldI {E : Int → List Int} {s s' : List Bool} {c : Int} {cs p : List Int} (h : VisL E s (c :: cs) s' p) (hg : gb s c = true) : VisL E s cs s' p := by
 cases h with
 | old _ k => exact k
 | new k _ _ => rw [hg] at k; cases k
theorem VisL.newI {E : Int → List Int} {s s' : List Bool} {c : Int} {cs p : List Int} (h : VisL E s (c :: cs) s' p) (hg : gb s c = false) : ∃ s1 p1 q1, VisL E (s.set c.toNat true) (E c) s1 p1 ∧ VisL E s1 cs s' q1 ∧ p = p1 ++ c :: q1 := by
 cases h with
 | old k _ => rw [hg] at k; cases k
 | new _ a b => exact ⟨_, _, _, a, b, rfl⟩
theorem VisL.nilI {E : Int → List Int} {s s' : List Bool} {p : List Int} (h : VisL E s [] s' p) : s' = s ∧ p = [] := by
 cases h; exact ⟨rfl, rfl⟩
theorem gb_not {s : List Bool} {c : Int} (h : c.toNat < s.length) : s[c.toNat]? = some (gb s c) := by
 unfold gb; rw [q9 h]; rfl
theorem unseen_gb {s : List Bool} {c : Int} (h : c.toNat < s.length) (hg : gb s c = false) : unseen (s.set c.toNat true) + 1 = unseen s :=
 unseen_set s c.toNat (by rw [gb_not h, hg])
def restE (f : PFunc) (c : Int) (k : Nat) : List Int := if k = 0 then EndsOf f c else if k = 1 then (EndsOf f c).drop 1 else []
def wkO (f : PFunc) (iw is io : Nat) (s : List Bool) (out : List Int) : OL := [(iw, .cells 121 [.fro 2 (f.vars.map encVar), .fro 1 (f.params.map encI), .fro 7 (f.blocks.map encBlk), .own is f.blocks.length, .own io out.length]), (is, .grow 1 4 (cB s)), (io, .grow 1 3 (cI out))]
def VisS (E : World) (f : PFunc) (N : Nat) : Prop := ∀ (c : Int) (s s1 : List Bool) (p out : List Int) (iw is io : Nat), unseen s ≤ N → 0 ≤ c → c < f.blocks.length → s.length = f.blocks.length → gb s c = false → VisL (EndsOf f) (s.set c.toNat true) (EndsOf f c) s1 p → out.length + unseen s ≤ f.blocks.length →
  ACall prog E 68 [.po iw 0, .int .i64 c] (wkO f iw is io s out) (fun x O' => ∃ io' : Nat, x = .tup [] ∧ O' = wkO f iw is io' s1 (c :: (p.reverse ++ out)) ∧ True)
set_option maxHeartbeats 4000000 in
theorem visit_step (f : PFunc) (hE : EndsOk f) (hn : f.blocks.length ≤ 1000) (N : Nat) (IH : VisS E f N) : VisS E f (N + 1) := by
 intro c s s1 p out iw is io hN h0 hc hs hg hV hO
 have hrng := hE.grph.toEOk.rng
 have hcn : c.toNat < s.length := by omega
 have hu := unseen_gb hcn hg
 obtain ⟨b, hb⟩ : ∃ b, f.blocks[c.toNat]'(by omega) = b := ⟨_, rfl⟩
 have hgb : f.blocks[c.toNat]? = some b := by rw [q9 (by omega), hb]
 have hEc : EndsOf f c = endsL b.term := by unfold EndsOf; rw [if_pos h0, hgb]; rfl
 have hEr := hrng c h0 (by omega)
 unfold wkO
 refine ACall.exact (γ := Nat) (x := fun _ => .tup []) (M := fun io' => [(iw, .cells 121 [.fro 2 (f.vars.map encVar), .fro 1 (f.params.map encI), .fro 7 (f.blocks.map encBlk), .own is f.blocks.length, .own io' (c :: (p.reverse ++ out)).length]), (is, .grow 1 4 (cB s1)), (io', .grow 1 3 (cI (c :: (p.reverse ++ out))))]) (p := fun _ => True)<|zl func68 Z (by decide) Z<|zSr<|z7 (zMp Z)<|z7 (ya Z)<|z7 (zc Zq Z sizeOf91 (by decide) Z Z)<|z7 (zi (c := .own _ _) isAgg91 Z ⟨_, .head⟩ Z)<|zVzMi Z<|z7 (Gv.idxI (j := c.toNat) Zo Zs Z Z (by omega) ⟨_, .t1⟩ (by rw [cB_len]; exact hs) (by omega))<|AOps.storeB (j := c.toNat) Zs Z Z .t1 hcn<|z6<|zSr<|z7 (zMp Z)<|z7 (ya Z)<|z7 (zc Zq Z jg (by decide) Z Z)<|z7 (zc j6 Z jo (by decide) Z Z)<|z7 (zi (c := .fro _ _) jw Z ⟨_, .head⟩ Z)<|zVzMi Z<|z7 (zIM c.toNat je jj Z Z (by omega) hgb)<|zVzFF j5 Z jq Z Z<|zVGvloadWF Zt jq Z Z<|zo (cs := [.int .i64 0, .int .i64 0, .int .i64 0, .int .i64 0]) zeroValue66 Z Z<|fun i4 => zm jq Z Z Z Z Z Z .head Z<|yh (y8 (t := 4) Z .head)<|z6<|zb<|zSr<|zVzMi Z<|z6<|zd<|zt (γ := Nat × List Bool × List Int × Nat) [0, 1, 4] (fun g => [(21, .int .i64 g.1)]) (fun g => [(iw, .cells 121 [.fro 2 (f.vars.map encVar), .fro 1 (f.params.map encI), .fro 7 (f.blocks.map encBlk), .own is f.blocks.length, .own g.2.2.2 g.2.2.1.length]), (is, .grow 1 4 (cB g.2.1)), (g.2.2.2, .grow 1 3 (cI g.2.2.1))]) (fun g => g.1 ≤ 2 ∧ g.2.1.length = f.blocks.length ∧ g.2.2.1.length + unseen g.2.1 ≤ out.length + unseen (s.set c.toNat true) ∧ unseen g.2.1 ≤ N ∧ (∃ q, VisL (EndsOf f) g.2.1 (restE f c g.1) s1 q ∧ p.reverse ++ out = q.reverse ++ g.2.2.1) ∧ (g.1 = 1 → ∀ d r, EndsOf f c = d :: r → gb g.2.1 d = true)) (fun g => 2 - g.1) (0, s.set c.toNat true, out, io) zR1 zLe (⟨by omega, by dsimp only; rw [List.length_set]; exact hs, Nat.le_refl _, by dsimp only; omega, ⟨p, hV, rfl⟩, fun h => by cases h⟩) ?_
 rintro ⟨k, s2, o2, io⟩ ⟨hk, hs2, hol, hun, ⟨q, hq, hpe⟩, hk1⟩
 try dsimp only at *
 refine zSr<|zVGvlss Z Z<|z6<|zb<|zn Z (fun ck=>?_) (fun ck=>?_)
 ·have hk01 : k = 0 ∨ k = 1 := by omega
  rcases hk01 with rfl | rfl
  ·have he0 : (EndsOf f c = [] ∧ b.term.to0 ∉ EndsOf f c) ∨ ∃ r, EndsOf f c = b.term.to0 :: r := by
    rw [hEc]; unfold endsL
    by_cases h0 : b.term.kind = 0
    ·rw [if_pos h0]; exact .inr ⟨_, rfl⟩
    ·rw [if_neg h0]
     by_cases h1 : b.term.kind = 1
     ·rw [if_pos h1]; split <;> exact .inr ⟨_, rfl⟩
     ·rw [if_neg h1]; exact .inl ⟨rfl, fun h => by cases h⟩
   have hq : VisL (EndsOf f) s2 (EndsOf f c) s1 q := hq
   refine zf<|zb<|zd<|zSr<|zVzMi Z<|zVzAi Z<|z6<|zb<|zw (fun j => false) (by kernel_rfl) Z (zy (.r (.rest _)))<|zTk 0 Z (zMp Z)<|zTk 1 Z (ya Z)<|zTk 2 Z (zc Zq Z jg (by decide) Z Z)<|zTk 3 Z (yy (l := [_, _, _]) jk jg Z ⟨_, .head⟩ Z Z)<|zTk 4 Z (zMi Z)<|zTk 5 Z (zMi Z)<|zTk 6 Z (zFF j7 Z js Z Z)<|zTk 7 Z (yj (j := 0) ji j8 Z Z Z (by decide) Z)<|zTk 8 Z (zLi jh Z)<|zOn 9 Z<|ze (leads_spec f hn c b.term.to0 h0 hc) Z<|z6<|zTk 10 Z (zMb Z)<|AAny.case (s := 34) Z (fun c1=>?_) (fun c1=>?_)
   ·have d1 : b.term.to0 ∈ EndsOf f c := by simpa using c1
    obtain ⟨r, hr⟩ : ∃ r, EndsOf f c = b.term.to0 :: r := he0.resolve_left fun h => h.2 d1
    have hdr := hEr _ d1
    have hdl : b.term.to0.toNat < s2.length := by omega
    have hr1 : restE f c 1 = r := by unfold restE; rw [if_neg (by omega), if_pos rfl, hr]; rfl
    rw [hr] at hq
    refine zTt 11 Z Z Z c1 (zMi Z)<|zTt 12 Z Z Z c1 (Gv.eqlI Z Z)<|zTt 13 Z Z Z c1 (zMb Z)<|zTf 14 Z Z Z Z<|zTf 15 Z Z Z Z<|zTf 16 Z Z Z Z<|zTt 17 Z Z Z c1 (zPt Z Z Z)<|zTk 18 Z (zPt Z c1 Z)<|zTk 19 Z (zMb Z)<|zTt 20 Z Z Z Z (zMp Z)<|zTt 21 Z Z Z Z (ya Z)<|zTt 22 Z Z Z Z (zc Zq Z sizeOf91 (by decide) Z Z)<|zTt 23 Z Z Z Z (zi (c := .own _ _) isAgg91 Z ⟨_, .head⟩ Z)<|zTt 24 Z Z Z Z (zMi Z)<|zTt 25 Z Z Z Z (zFF j7 Z js Z Z)<|zTt 26 Z Z Z Z (yj (j := 0) ji j8 Z Z Z (by decide) Z)<|zTt 27 Z Z Z Z (zLi jh Z)<|zOn 28 Z<|za Z Z Z<|z7 (Gv.idxI (j := b.term.to0.toNat) Zo Zs Z Z (by omega) ⟨_, .head⟩ (by rw [cB_len]; exact hs2) (by omega))<|z6<|zOn 29 Z<|za Z Z Z<|z7 (Gv.loadB (j := b.term.to0.toNat) Yd Z ⟨_, .head⟩ (gb_not hdl))<|z6<|zTt 30 Z Z Z Z (Gv.not Z)<|zTk 31 Z (zPt Z Z Z)<|zDn<|zz Z (fun c3=>?_) (fun c3=>?_)
    ·have c3 : gb s2 b.term.to0 = false := by simpa using c3
     obtain ⟨sA, pA, qB, v1, v2, rfl⟩ := hq.newI c3
     obtain ⟨w1, w2, w3⟩ := v1.seen (n := f.blocks.length) hrng (by rw [List.length_set]; omega) (hrng _ hdr.1 (by omega))
     have hu2 := unseen_gb hdl c3
     have hgA : gb sA b.term.to0 = true := w1 _ hdr.1 ((gb_set hdr.1 (by omega) hdr.1).2 (.inl rfl))
     refine zRg<|z7 (zMp Z)<|zVzMi Z<|zVzFF j7 Z js Z Z<|z7 (yj (j := 0) ji j8 Z Z Z (by decide) Z)<|zVzLi jh Z<|yl Z (zy (.l (.l (.l (.rest _))))) (IH b.term.to0 s2 sA pA o2 iw is io hun hdr.1 (by omega) (by omega) c3 v1 (by omega)) ?_
     rintro r61 O61 ⟨io, rfl, rfl, _⟩
     refine z6<|zRg<|zVzAd Z Z<|zVzMi Z<|z6 ?_
     exact ⟨(0 + 1, sA, b.term.to0 :: (pA.reverse ++ o2), io), zR3, zR1, zLe, ⟨by omega, by rw [v1.len, List.length_set]; exact hs2, by dsimp only; rw [List.length_cons, qf, List.length_reverse]; omega, by dsimp only; omega, ⟨qB, by rw [hr1]; exact v2, by rw [hpe]; simp⟩, fun _ d r' h => by rw [hr] at h; injection h with h1 h2; rw [← h1]; exact hgA⟩, by dsimp only; omega⟩
    ·have c3 : gb s2 b.term.to0 = true := by simpa using c3
     refine zf<|zRg<|zVzAd Z Z<|zVzMi Z<|z6 ?_
     exact ⟨(0 + 1, s2, o2, io), zR3, zR1, zLe, ⟨by omega, hs2, hol, hun, ⟨q, by rw [hr1]; exact hq.oldI c3, hpe⟩, fun _ d r' h => by rw [hr] at h; injection h with h1 h2; rw [← h1]; exact c3⟩, by dsimp only; omega⟩
   ·have d1 : b.term.to0 ∉ EndsOf f c := by simpa using c1
    have hnil : EndsOf f c = [] := by
     rcases he0 with h | ⟨r, h⟩
     ·exact h.1
     ·exact absurd (by rw [h]; exact .head _) d1
    refine zTf 11 Z Z Z c1<|zTf 12 Z Z Z c1<|zTf 13 Z Z Z c1<|zOn 14 Z<|zg Z Z<|z6<|zOn 15 Z<|zg Z Z<|z6<|zOn 16 Z<|zg Z Z<|z6<|zTf 17 Z Z Z c1<|zTk 18 Z (zPf Z c1 Z)<|zTk 19 Z (zMb Z)<|zTf 20 Z Z Z Z<|zTf 21 Z Z Z Z<|zTf 22 Z Z Z Z<|zTf 23 Z Z Z Z<|zTf 24 Z Z Z Z<|zTf 25 Z Z Z Z<|zTf 26 Z Z Z Z<|zTf 27 Z Z Z Z<|zTf 28 Z Z Z Z<|zTf 29 Z Z Z Z<|zTf 30 Z Z Z Z<|zTk 31 Z (zPf Z Z Z)<|zDn<|yf Z Z<|zf<|zRg<|zVzAd Z Z<|zVzMi Z<|z6 ?_
    exact ⟨(0 + 1, s2, o2, io), zR3, zR1, zLe, ⟨by omega, hs2, hol, hun, ⟨q, by unfold restE; rw [if_neg (by omega), if_pos rfl, hnil]; rw [hnil] at hq; exact hq, hpe⟩, fun _ d r' h => by rw [hnil] at h; cases h⟩, by dsimp only; omega⟩
  ·have he1 : restE f c 1 = if b.term.kind = 1 ∧ b.term.to0 ≠ b.term.to1 then [b.term.to1] else [] := by
    unfold restE; rw [if_neg (by omega), if_pos rfl, hEc]; unfold endsL
    by_cases h0 : b.term.kind = 0
    ·rw [if_pos h0, if_neg (by omega)]; rfl
    ·rw [if_neg h0]
     by_cases h1 : b.term.kind = 1
     ·rw [if_pos h1]
      by_cases h2 : b.term.to0 = b.term.to1
      ·rw [if_pos h2, if_neg (fun h => h.2 h2)]; rfl
      ·rw [if_neg h2, if_pos ⟨h1, h2⟩]; rfl
     ·rw [if_neg h1, if_neg (fun h => h1 h.1)]; rfl
   have hk1 := hk1 rfl
   refine zf<|zb<|zd<|zSr<|zVzMi Z<|zVzAi Z<|z6<|zb<|zw (fun j => false) (by kernel_rfl) Z (zy (.r (.rest _)))<|zTk 0 Z (zMp Z)<|zTk 1 Z (ya Z)<|zTk 2 Z (zc Zq Z jg (by decide) Z Z)<|zTk 3 Z (yy (l := [_, _, _]) jk jg Z ⟨_, .head⟩ Z Z)<|zTk 4 Z (zMi Z)<|zTk 5 Z (zMi Z)<|zTk 6 Z (zFF j7 Z js Z Z)<|zTk 7 Z (yj (j := 1) ji j8 Z Z Z (by decide) Z)<|zTk 8 Z (zLi jh Z)<|zOn 9 Z<|ze (leads_spec f hn c b.term.to1 h0 hc) Z<|z6<|zTk 10 Z (zMb Z)<|AAny.case (s := 34) Z (fun c1=>?_) (fun c1=>?_)
   ·have d1 : b.term.to1 ∈ EndsOf f c := by simpa using c1
    have hdr := hEr _ d1
    have hdl : b.term.to1.toNat < s2.length := by omega
    refine zTt 11 Z Z Z c1 (zMi Z)<|zTt 12 Z Z Z c1 (Gv.eqlI Z Z)<|zTt 13 Z Z Z c1 (zMb Z)<|zTt 14 Z Z Z Z (zFF j7 Z Za Z Z)<|zTt 15 Z Z Z Z (zLi Ze Z)<|zTt 16 Z Z Z Z (Gv.eqlI Z Z)<|zTt 17 Z Z Z c1 (zPf Z Z Z)<|zTk 18 Z (zPt Z c1 Z)<|zTk 19 Z (zMb Z)<|AAny.case (s := 43) Z (fun c2=>?_) (fun c2=>?_)
    ·have d2 : b.term.kind = 1 := by simpa using c2
     refine zTt 20 Z Z Z c2 (zMp Z)<|zTt 21 Z Z Z c2 (ya Z)<|zTt 22 Z Z Z c2 (zc Zq Z sizeOf91 (by decide) Z Z)<|zTt 23 Z Z Z c2 (zi (c := .own _ _) isAgg91 Z ⟨_, .head⟩ Z)<|zTt 24 Z Z Z c2 (zMi Z)<|zTt 25 Z Z Z c2 (zFF j7 Z js Z Z)<|zTt 26 Z Z Z c2 (yj (j := 1) ji j8 Z Z Z (by decide) Z)<|zTt 27 Z Z Z c2 (zLi jh Z)<|zOn 28 Z<|za Z Z c2<|z7 (Gv.idxI (j := b.term.to1.toNat) Zo Zs Z Z (by omega) ⟨_, .head⟩ (by rw [cB_len]; exact hs2) (by omega))<|z6<|zOn 29 Z<|za Z Z c2<|z7 (Gv.loadB (j := b.term.to1.toNat) Yd Z ⟨_, .head⟩ (gb_not hdl))<|z6<|zTt 30 Z Z Z c2 (Gv.not Z)<|zTk 31 Z (zPt Z c2 Z)<|zDn<|zz Z (fun c3=>?_) (fun c3=>?_)
     ·have c3 : gb s2 b.term.to1 = false := by simpa using c3
      have hne : b.term.to0 ≠ b.term.to1 := fun e => by
       have := hk1 b.term.to0 [] (by rw [hEc]; unfold endsL; rw [if_neg (by omega), if_pos d2, if_pos e])
       rw [e, c3] at this; cases this
      rw [if_pos ⟨d2, hne⟩] at he1
      rw [he1] at hq
      obtain ⟨sA, pA, qB, v1, v2, rfl⟩ := hq.newI c3
      obtain ⟨w1, w2, w3⟩ := v1.seen (n := f.blocks.length) hrng (by rw [List.length_set]; omega) (hrng _ hdr.1 (by omega))
      have hu2 := unseen_gb hdl c3
      refine zRg<|z7 (zMp Z)<|zVzMi Z<|zVzFF j7 Z js Z Z<|z7 (yj (j := 1) ji j8 Z Z Z (by decide) Z)<|zVzLi jh Z<|yl Z (zy (.l (.l (.l (.rest _))))) (IH b.term.to1 s2 sA pA o2 iw is io hun hdr.1 (by omega) (by omega) c3 v1 (by omega)) ?_
      rintro r61 O61 ⟨io, rfl, rfl, _⟩
      refine z6<|zRg<|zVzAd Z Z<|zVzMi Z<|z6 ?_
      exact ⟨(1 + 1, sA, b.term.to1 :: (pA.reverse ++ o2), io), zR3, zR1, zLe, ⟨by omega, by rw [v1.len, List.length_set]; exact hs2, by dsimp only; rw [List.length_cons, qf, List.length_reverse]; omega, by dsimp only; omega, ⟨qB, v2, by rw [hpe]; simp⟩, fun h => by cases h⟩, by dsimp only; omega⟩
     ·have c3 : gb s2 b.term.to1 = true := by simpa using c3
      have hq2 : VisL (EndsOf f) s2 [] s1 q := by
       rw [he1] at hq
       split at hq
       ·exact hq.oldI c3
       ·exact hq
      refine zf<|zRg<|zVzAd Z Z<|zVzMi Z<|z6 ?_
      exact ⟨(1 + 1, s2, o2, io), zR3, zR1, zLe, ⟨by omega, hs2, hol, hun, ⟨q, hq2, hpe⟩, fun h => by cases h⟩, by dsimp only; omega⟩
    ·have d2 : ¬ b.term.kind = 1 := by simpa using c2
     rw [if_neg (fun h => d2 h.1)] at he1
     rw [he1] at hq
     refine zTf 20 Z Z Z c2<|zTf 21 Z Z Z c2<|zTf 22 Z Z Z c2<|zTf 23 Z Z Z c2<|zTf 24 Z Z Z c2<|zTf 25 Z Z Z c2<|zTf 26 Z Z Z c2<|zTf 27 Z Z Z c2<|zTf 28 Z Z Z c2<|zTf 29 Z Z Z c2<|zTf 30 Z Z Z c2<|zTk 31 Z (zPf Z c2 Z)<|zDn<|yf Z Z<|zf<|zRg<|zVzAd Z Z<|zVzMi Z<|z6 ?_
     exact ⟨(1 + 1, s2, o2, io), zR3, zR1, zLe, ⟨by omega, hs2, hol, hun, ⟨q, hq, hpe⟩, fun h => by cases h⟩, by dsimp only; omega⟩
   ·have d1 : b.term.to1 ∉ EndsOf f c := by simpa using c1
    have hk1' : ¬ (b.term.kind = 1 ∧ b.term.to0 ≠ b.term.to1) := fun h => d1 (by rw [hEc]; unfold endsL; rw [if_neg (by omega), if_pos h.1, if_neg h.2]; simp)
    rw [if_neg hk1'] at he1
    rw [he1] at hq
    refine zTf 11 Z Z Z c1<|zTf 12 Z Z Z c1<|zTf 13 Z Z Z c1<|zOn 14 Z<|zg Z Z<|z6<|zOn 15 Z<|zg Z Z<|z6<|zOn 16 Z<|zg Z Z<|z6<|zTf 17 Z Z Z c1<|zTk 18 Z (zPf Z c1 Z)<|zTk 19 Z (zMb Z)<|zTf 20 Z Z Z Z<|zTf 21 Z Z Z Z<|zTf 22 Z Z Z Z<|zTf 23 Z Z Z Z<|zTf 24 Z Z Z Z<|zTf 25 Z Z Z Z<|zTf 26 Z Z Z Z<|zTf 27 Z Z Z Z<|zTf 28 Z Z Z Z<|zTf 29 Z Z Z Z<|zTf 30 Z Z Z Z<|zTk 31 Z (zPf Z Z Z)<|zDn<|yf Z Z<|zf<|zRg<|zVzAd Z Z<|zVzMi Z<|z6 ?_
    exact ⟨(1 + 1, s2, o2, io), zR3, zR1, zLe, ⟨by omega, hs2, hol, hun, ⟨q, hq, hpe⟩, fun h => by cases h⟩, by dsimp only; omega⟩
 ·obtain rfl : k = 2 := by omega
  obtain ⟨rfl, rfl⟩ := VisL.nilI (show VisL (EndsOf f) s2 [] s1 q from hq)
  have hpe : p.reverse ++ out = o2 := hpe
  subst hpe
  refine zr<|zRg<|z7 (zMp Z)<|zVzMi Z<|AOps.buildSliceO (cps := [(0, [_])]) (rs := [_]) ps23_1 Z Z Z Z Z<|fun i65 => z7 (zMp Z)<|z7 (ya Z)<|z7 (zc Zq Z jc (by decide) Z Z)<|z7 (zi (c := .own _ _) jm Z ⟨_, .t1⟩ Z)<|AOps.appendOZ (k := 1) j4 Zu Z Z Z Z Z (fun _ => .head) ⟨_, .t3⟩ Z (by rw [cI_len]; omega) (by decide) (cI_cell _) (by show (_ + _) * 8 ≤ _; omega) (by omega)<|fun i70 => z7 (ya Z)<|z7 (zc Zq Z jc (by decide) Z Z)<|y1 (l := [_]) (new := [_, _, _, _, _]) jc Z Z Z Z Z Z .t1 Z Z<|z6<|GStep.fin (y7 (yd .head))<|GStep.fin (y7 (yd .t2))<|GStep.fin (y7 (yd .t2))<|afin.t0 ?_
  exact ⟨i70, rfl, ⟨_, .keep (.keep (.keep (.drop (.refl _)))), by rw [show (c :: (p.reverse ++ out)).length = 1 + (p.reverse ++ out).length by rw [List.length_cons]; omega]; rfl⟩, trivial⟩
theorem visit_all (f : PFunc) (hE : EndsOk f) (hn : f.blocks.length ≤ 1000) : ∀ N, VisS E f N
 | 0 => fun c s s1 p out iw is io hN h0 hc hs hg => by
  have := unseen_gb (s := s) (c := c) (by omega) hg
  omega
 | N + 1 => visit_step f hE hn N (visit_all f hE hn N)
end Go.Proofs.YtpojdepccecpgaaGreatDoor
namespace Go.Proofs.YtpojdepccecpgaaGreatDoor
open Go.Proofs.Tryz
open Go.Proofs Go.Lib Go.Shelf Go.RowKit
theorem pl121 : Places prog 121 #[(0, 3), (3, 1), (4, 1)] [.raw (.slice none 0 0), .raw (.slice none 0 0), .raw (.slice none 0 0), .raw (.slice none 0 0), .raw (.slice none 0 0)] := ⟨_, _, Zq, zeroValue121, fun w => by kernel_rfl, rfl⟩
variable {E : World}
set_option maxRecDepth 20000
theorem order10_spec (f : PFunc) (hE : EndsOk f) (hn : f.blocks.length ≤ 1000) : AFun prog E 32 [.agg (encF f)] (.fro 1 ((ord f).map encI)) := by
 have hpos := hE.pos
 obtain ⟨s, p, hV, ho⟩ := order_vis hE.grph.toEOk
 have ho : ord f = 0 :: (p.reverse ++ []) := by show orderT _ _ = _; rw [ho]; simp
 have hun : unseen (List.replicate f.blocks.length false) ≤ f.blocks.length := by
  unfold unseen
  refine Nat.le_trans (List.length_filter_le _ _) ?_
  rw [List.length_replicate]; exact Nat.le_refl _
 refine zl func32 Z (by decide) Z<|zSr<|y4 (cs := _) Z Z Z<|z7 (zAr Z)<|z6<|zb<|zw (fun j => false) (by kernel_rfl) Z (zy (.rest _))<|zTk 0 Z (yo jk jg Z Z)<|zTk 1 Z (zFF j6 Z jo Z Z)<|zTk 2 Z (zLf jw Z)<|zTk 3 Z (Gv.lenM je Z)<|zOn 4 Z<|AOps.makeB (m := f.blocks.length) Zo type4 Z Z Z Z Z (by simp) (by simp) (by show (1 : Int) * _ ≤ _; omega) (by omega)<|fun i8 => z6<|zTk 5 Z (y6 (cps := [(0, [_, _, _]), (1, [_])]) (rs := [_, _, _, _, .raw (.slice none 0 0)]) pl121 Z Z Z)<|zOn 6 Z<|AOps.boxO (cs := _) Z Z Z Z<|fun i10 => z6<|zTk 7 Z (zAp Z)<|zDn<|adoptC_wp (off := 4) (k := 1) (T := 3) (fun _ => .head) Z<|fun io => y2 (y7 (yd .t2))<|y2 (y7 (yd .t2))<|zSr<|z7 (zMp Z)<|yl Z (zy (.l (.l (.l (.rest _))))) (visit_all f hE hn f.blocks.length 0 (List.replicate f.blocks.length false) s p [] i10 i8 io hun (Int.le_refl _) (by omega) (by simp) (by unfold gb; rw [List.getElem?_replicate]; split <;> rfl) hV (by simpa using hun)) ?_
 rintro r12 O12 ⟨io, rfl, rfl, _⟩
 refine z6<|zSr<|z7 (zMp Z)<|z7 (ya Z)<|z7 (zc Zq Z jc (by decide) Z Z)<|z7 (zi (c := .own _ _) jm Z ⟨_, .head⟩ Z)<|z7 (zAo Z)<|yh (GStep.knowI (t := 2) Z .t2 (by simp))<|z6<|zh<|zj (x := .fro _ _) Z ?_
 rw [ho]; rfl
theorem at_neg (l : List Int) (v : Int) : (atI l v < 0) ↔ v ∉ l := by
 unfold atI
 by_cases h : v ∈ l
 ·rw [if_pos h]; have := (at_pos h).2.1; exact ⟨fun k => by omega, fun k => absurd h k⟩
 ·rw [if_neg h]; exact ⟨fun _ => h, fun _ => by omega⟩
end Go.Proofs.YtpojdepccecpgaaGreatDoor
namespace Go.Proofs.YtpojdepccecpgaaGreatDoor
open Go.Proofs.Tryz
open Go.Proofs Go.Lib Go.Shelf Go.RowKit
variable {E : World}
set_option maxRecDepth 20000
theorem int_any {I J : G} {k : IntKind} {n : Int} {v : Value} (h : RepV J (.int k n) v) : RepV I (.int k n) v := h
theorem at_lend (l : List Int) (v : Int) (i n : Nat) (T : TypeId) (hn : l.length = n) (hl : l.length ≤ 1000000) : ACall prog E 34 [.own i n, .int .i64 v] [(i, .grow 1 T (cI l))] fun y O => y = .int .i64 (atI l v) ∧ O = [(i, .grow 1 T (cI l))] := by
 subst hn
 rw [cI_fl]
 exact ACall.lend (rows := l.map encI) (fun r hr => by obtain ⟨z, _, rfl⟩ := List.mem_map.1 hr; rfl) (by decide) (by rw [qg]) (fun I J hle hv vs h => by
  obtain ⟨v1, us, rfl, r1, r2⟩ := h
  exact ⟨v1, us, rfl, hv v1 r1, r2.mono hle⟩) (fun I J v h => int_any h) (at18_spec l v hl)
theorem with_own (l : List Int) (v : Int) (i n : Nat) (hn : l.length = n) (hl : l.length ≤ 1000000) : ACall prog E 33 [.own i n, .int .i64 v] [(i, .grow 1 3 (cI l))] fun x O' => ∃ i' : Nat, x = .own i' (see1 l v).length ∧ O' = [(i', .grow 1 3 (cI (see1 l v)))] ∧ True := by
 refine ACall.exact (γ := Nat) (x := fun i' => .own i' (see1 l v).length) (M := fun i' => [(i', .grow 1 3 (cI (see1 l v)))]) (p := fun _ => True)<|zl func33 Z (by decide) Z<|zSr<|z7 (zAr Z)<|z6<|zb<|zSr<|z7 (zMo Z)<|zVzMi Z<|yl Z (zy (.l (.rest _))) (at_lend l v i n 3 hn hl) ?_
 rintro r7 O7 ⟨rfl, rfl⟩
 refine zVGvlss Z Z<|z6<|zn Z (fun c=>?_) (fun c=>?_)
 ·have hv : v ∉ l := (at_neg l v).1 (by first | exact c | omega)
  have e : see1 l v = l ++ [v] := by unfold see1; rw [if_neg hv]
  refine zRg<|z7 (zMo Z)<|zVzMi Z<|zk (rows := [[_]]) ps23_1 Z Z Z Z Z<|zu (k := 1) j4 Zu Z Z Z Z Z (fun _ => .head) (by rw [cI_len]; omega) (by decide) Z (by show (_ + _) * 8 ≤ _; simp <;> omega) (by simp <;> omega)<|fun i12 => z7 (zAo Z)<|z6<|zSr<|z7 (zMo Z)<|z7 (zAo Z)<|z6<|zh<|zj (x := .own _ _) Z ?_
  exact ⟨i12, by rw [e, qf, hn]; rfl, ⟨_, .refl _, by rw [e, ← cI_app]; rfl⟩, trivial⟩
 ·have hv : v ∈ l := Classical.byContradiction fun h => by have := (at_neg l v).2 h; omega
  have e : see1 l v = l := by unfold see1; rw [if_pos hv]
  refine zf<|zSr<|z7 (zMo Z)<|z7 (zAo Z)<|z6<|zh<|zj (x := .own _ _) Z ?_
  exact ⟨i, by rw [e, hn], ⟨_, .refl _, by rw [e]; rfl⟩, trivial⟩
def phPT (l : List Int) (p : PPhi) (j : Nat) : List (Int × Int) := (List.range j).filterMap fun (n : Nat) => (l[n]?).bind fun x => (lookP p x).map fun a => ((n : Int), a)
theorem phPT_full (l : List Int) (p : PPhi) : phPT l p l.length = phPairs l p := rfl
theorem phPT_none {l : List Int} {p : PPhi} {j : Nat} {x : Int} (hx : l[j]? = some x) (h : lookP p x = none) : phPT l p (j + 1) = phPT l p j := by
 unfold phPT
 rw [List.range_succ, List.filterMap_append]
 simp [hx, h]
theorem phPT_some {l : List Int} {p : PPhi} {j : Nat} {x a : Int} (hx : l[j]? = some x) (h : lookP p x = some a) : phPT l p (j + 1) = phPT l p j ++ [((j : Int), a)] := by
 unfold phPT
 rw [List.range_succ, List.filterMap_append]
 simp [hx, h]
theorem look_at : ∀ {fr ar : List Int} {x : Int}, fr.length = ar.length → (x ∈ fr → ∃ a, ar[fr.idxOf x]? = some a ∧ ((fr.zip ar).find? fun q => decide (q.1 = x)).map (·.2) = some a) ∧ (x ∉ fr → ((fr.zip ar).find? fun q => decide (q.1 = x)).map (·.2) = none)
 | [], _, x, _ => ⟨fun h => (by cases h), fun _ => rfl⟩
 | _ :: _, [], x, h => by cases h
 | y :: fr, a :: ar, x, h => by
  have ih := look_at (fr := fr) (ar := ar) (x := x) (by simpa using h)
  rw [List.zip_cons_cons, List.find?_cons, List.idxOf_cons]
  by_cases e : y = x
  ·subst e
   refine ⟨fun _ => ⟨a, by simp, by simp⟩, fun h => absurd (.head _) h⟩
  ·have e2 : (y == x) = false := beq_eq_false_iff_ne.2 e
   have e3 : decide (y = x) = false := qm e
   rw [e2]
   simp only [e3, cond_false]
   refine ⟨fun h=>?_, fun h=>?_⟩
   ·rcases List.mem_cons.1 h with h | h
    ·exact absurd h.symm e
    ·obtain ⟨b, h1, h2⟩ := ih.1 h
     exact ⟨b, by simpa using h1, h2⟩
   ·exact ih.2 fun k => h (.tail _ k)
theorem look_in {p : PPhi} (hl : p.from_.length = p.args.length) {x : Int} (h : x ∈ p.from_) : ∃ a, p.args[(posI p.from_ x).toNat]? = some a ∧ lookP p x = some a := (look_at hl).1 h
theorem look_out {p : PPhi} (hl : p.from_.length = p.args.length) {x : Int} (h : x ∉ p.from_) : lookP p x = none := (look_at hl).2 h
end Go.Proofs.YtpojdepccecpgaaGreatDoor
