/- strings.Builder: what is written is put behind what was; a line. No conditions but bounds. -/
import Derived.Test.YtpojdepccecpgaaGreatDoorHm
import Derived.Test.YtpojdepccecpgaaGreatDoorHn
import Derived.Test.YtpojdepccecpgaaGreatDoorHk
import Derived.Test.YtpojdepccecpgaaGreatDoorHl
import Derived.Test.YtpojdepccecpgaaGreatDoorHh
import Derived.Test.YtpojdepccecpgaaGreatDoorHe
import Derived.Test.YtpojdepccecpgaaGreatDoorHi
import Derived.Test.YtpojdepccecpgaaGreatDoorHj
import Derived.Test.YtpojdepccecpgaaGreatDoorHd
import Derived.Shelf.Strings.Builder1
set_option linter.unusedVariables false
set_option linter.unusedSimpArgs false
set_option linter.unusedSectionVars false
namespace Go.Proofs.YtpojdepccecpgaaGreatDoor
open Go.Proofs.Tryz
open Go.Proofs Go.Lib Go.Shelf Go.RowKit
theorem pl58 : Places prog 58 #[(0, 1), (1, 1)] [.str ⟨#[]⟩, .int .i64 0] := ⟨_, _, Z5, Y8, fun w => by kernel_rfl, rfl⟩
theorem ps22_1 : PlacesS prog 22 58 1 2 [.str ⟨#[]⟩, .int .i64 0] := ⟨_, jk, Z2, Y8, by decide, by decide, by kernel_rfl⟩
theorem pl61 : Places prog 61 #[(0, 1), (1, 1), (2, 1), (3, 1)] [.int .i64 0, .int .i64 0, .raw (.slice none 0 0), .int .i64 0] := ⟨_, _, jh, Zf, fun w => by kernel_rfl, rfl⟩
variable {E : World}
set_option maxRecDepth 20000
theorem prune_all {f : PFunc} (hT : typedB f = true) (hJ : JoinP f) : ∀ x : Int, 0 ≤ x → x < (pruneF f).blocks.length → x ∈ ord (pruneF f) := fun x h0 h1 => by
 have h := prune_like (typedE hT) (typedS hT) hJ
 obtain ⟨y, hy, e⟩ := h.onto x h0 h1
 rw [h.orders, ← e]
 exact List.mem_map_of_mem hy
theorem canB_vars {f : PFunc} (hT : typedB f = true) (hJ : JoinP f) : ∀ b ∈ canB f, ∀ v ∈ blkVars b, v ∈ vsL f := fun b hb v hv => by
 unfold vsL
 rw [see_mem]
 exact .inr (List.mem_append_right _ (List.mem_flatMap.2 ⟨b, hb, hv⟩))
theorem vs_rng {f : PFunc} (hT : typedB f = true) (hJ : JoinP f) {v : Int} (h : v ∈ vsL f) : 0 ≤ v ∧ v < f.vars.length := by
 have := vs_has hT hJ v h
 unfold hasV at this
 simp only [qo, qq] at this
 exact this
theorem canB_small {f : PFunc} (hf : small f) (hT : typedB f = true) (hJ : JoinP f) : ∀ b ∈ canB f, smallBlk b := fun b hb => by
 obtain ⟨h1, h2, h3, h4, h5⟩ := can_small hT hJ hf
 obtain ⟨g1, g2, g3, g4, g5⟩ := h5 (mapV (posI (vsL f)) b) (List.mem_map_of_mem hb)
 refine ⟨g1, by simpa [mapV] using g2, by simpa [mapV] using g3, fun p hp => ?_, fun x hx => ?_⟩
 ·have := g4 _ (List.mem_map_of_mem hp)
  simpa [phM] using this
 ·have := g5 _ (List.mem_map_of_mem hx)
  simpa [insM] using this
def valsV (f : PFunc) (k : Nat) : List PVar := ((vsL f).zipIdx.map (canV f)).take k
set_option maxHeartbeats 8000000 in
theorem canon_good (f : PFunc) (hf : small f) (hL : Letters E) (hPw : Pows E) (ht : typedB f = true) (hJ : JoinP f) : AFun prog E 9 [.agg (encF f)] (.tup [.agg (encF (canD f)), .int .i64 0]) := by
 have hjo := joinedX_spec (E := E) f hf hL
 rw [ht, (joinedB_iff _).2 hJ] at hjo
 have hjo : AFun prog E 23 [.agg (encF f)] (.int .i64 0) := hjo
 have hpr := prune_spec f hf hL ht hJ
 have hgs := prune_small hf
 have hgt := prune_typed ht hJ
 have htu := turned_spec (pruneF f) hgs hL hPw hgt.1 hgt.2 (prune_all ht hJ)
 rw [← prune_can ht hJ]
 obtain ⟨g, hg⟩ : ∃ g, pruneF f = g := ⟨_, rfl⟩
 rw [hg] at hpr hgs hgt htu ⊢
 obtain ⟨gt, gJ⟩ := hgt
 have hvr := fun v => vs_rng (f := g) gt gJ (v := v)
 have hpv : ∀ v ∈ g.params, v ∈ vsL g := fun v hv => vs_par hv
 have hbv := canB_vars gt gJ
 have hbs := canB_small hgs gt gJ
 obtain ⟨hg1, hg2, hg3, hg4, hg5⟩ := id hgs
 have hvl := vs_len gt gJ
 have hcl : (canB g).length = g.blocks.length ∨ (canB g).length ≤ 1000 := .inr (by
  have := canB_len (f := g)
  have h2 : (ord g).length ≤ g.blocks.length := order_len (typedE gt).grph
  omega)
 have hcl : (canB g).length ≤ 1000 := by omega
 have hsee := seen_spec (E := E) .any g.params (canB g) g.vars.length hg1 (fun v hv => hvr v (hpv v hv)) (fun b hb v hv => hvr v (hbv b hb v hv)) hg2 hcl hbs (.fro 2 (g.vars.map encVar)) (.fro 7 (g.blocks.map encBlk))
 rw [show seeL [] (g.params ++ (canB g).flatMap blkVars) = vsL g from rfl] at hsee
 refine zt func9 Z (by decide) Z<|zSr<|AOps.boxO (cs := _) Z Z Z Z<|fun i1 => zo (cs := [.raw (.slice none 0 0), .raw (.slice none 0 0), .raw (.slice none 0 0)]) jn Z Z<|fun i2 => zVzAi Z<|z6<|ze<|zSr<|z8 (yh jp j9 Z ⟨_, .t1⟩ Z)<|zg (hjo) Z<|zVzAi Z<|z6<|zSr<|zVzMi Z<|zVGvneqI Z Z<|z6<|yl Z Z<|zj<|zSr<|z8 (yh jp j9 Z ⟨_, .t1⟩ Z)<|zg (hpr) Z<|z8 (zMu Z)<|z8 (yw (v := .agg _) Z Z)<|z8 (zXi Z Z)<|zh j9 Z Z Z Z Z Z .t1 Z<|zd (yf (t := 1) Z .t1)<|zVzAi Z<|z6<|ze<|zSr<|zVzMi Z<|zVGvneqI Z Z<|z6<|yl Z Z<|zj<|zSr<|zVGvloadWF jp j9 Z Z<|zg (htu) Z<|z8 (zAf Z) ?_
 refine z6<|zSr<|zVGvloadWF jp j9 Z Z<|zVzMf Z<|yv Z (yb (.r (.rest _))) (hsee) ?_
 rintro r38 O38 ⟨⟨o, bm, io, es⟩, rfl, rfl, hM⟩
 refine z8 (zAp Z)<|z6<|zSr<|zVzFF jd Z ji Z Z<|zVzLf jq Z<|zg (cloneI_spec g.params hg2) Z<|z8 (y1 (cps := [(1, [_])]) (rs := [.raw (.slice none 0 0), _, .raw (.slice none 0 0)]) pl26 Z Z Z)<|zo (cs := [.raw (.slice none 0 0), .raw (.slice none 0 0), .raw (.slice none 0 0)]) jn Z Z<|fun i8 => zh j9 Z Z Z Z Z Z .head Z<|z6<|ze<|zSr<|z8 (zMp Z)<|z8 (ym Z)<|z8 (zf Zs Z ji (by decide) Z Z)<|z8 (zp (c := .own _ _) jq Z ⟨_, .t1⟩ Z)<|z8 (Gv.lenO j6 Z)<|zVzMi Z<|z6<|adoptC_wp (off := 0) (k := 2) (T := 58) (fun _ => .head) Z<|fun iv => y4 (zb (zc .t1))<|zi<|y7 (γ := Nat × Nat) [1, 2, 6, 7, 8, 46, 47] (fun q => [(48, .int .i64 q.1)]) (fun q => [(i8, .cells 26 [.own q.2 q.1, .fro 1 (g.params.map encI), .raw (.slice none 0 0)]), (q.2, .grow 2 58 ((valsV g q.1).map encVar).flatten), (o, .cells 79 [.own io (vsL g).length, mref bm]), (io, .grow 1 3 (cI (vsL g))), (0, mapAO bm es), (i2, .cells 26 [.raw (.slice none 0 0), .raw (.slice none 0 0), .raw (.slice none 0 0)])]) (fun q => q.1 ≤ (vsL g).length) (fun q => (vsL g).length - q.1) (0, iv) zR1 zLe (qd _) ?_
 rintro ⟨k, iv⟩ hk
 try dsimp only at *
 refine zSr<|zVGvlss Z Z<|z6<|ze<|y2 Z (fun ck=>?_) (fun ck=>?_)
 ·have hk2 : k < (vsL g).length := by omega
  obtain ⟨v, hv⟩ : ∃ v, (vsL g)[k] = v := ⟨_, rfl⟩
  have hgv : (vsL g)[k]? = some v := by rw [qa hk2, hv]
  have hvv := hvr v (hv ▸ qe hk2)
  obtain ⟨x, hx⟩ : ∃ x, g.vars[v.toNat]'(by omega) = x := ⟨_, rfl⟩
  have hgx : g.vars[v.toNat]? = some x := by rw [qa (by omega), hx]
  have hkv : kindV g v = x.ty := by unfold kindV; rw [hgx]; rfl
  have hvn : valsV g (k + 1) = valsV g k ++ [⟨nameK 118 k, x.ty⟩] := by
   unfold valsV
   rw [List.take_add_one, qi, List.getElem?_zipIdx, hgv, ← hkv]
   simp [canV]
  have hsz : (⟨#[118]⟩ : ByteArray).size + (⟨(Lib.itoa (k : Int)).toArray⟩ : ByteArray).size ≤ 100 := by
   have := Lib.itoa_length_le (k : Int) (by omega) (by omega)
   show 1 + (List.toArray _).size ≤ _
   rw [List.size_toArray]; omega
  refine zj<|ze<|zi<|zSr<|zVzMi Z<|z8 (q0 (j := k) j6 j8 Z Z Z ⟨_, .t3⟩ (cI_len _) hk2)<|z8 (Gv.loadI (j := k) jl Z ⟨_, .t3⟩ hgv)<|zVzAi Z<|zVzAi Z<|z6<|y6 (fun j => Nat.beq j 15) (by kernel_rfl) Z (yb (.r (.rest _)))<|zTk 0 Z (zf jd Z Zb (by decide) Z Z)<|zTk 1 Z (zp (c := .own _ _) Zh Z ⟨_, .head⟩ Z)<|zTk 2 Z (zMi Z)<|zTk 5 Z (zFF jd Z Zb Z Z)<|zTk 6 Z (zLf Zh Z)<|zTk 7 Z (zMi Z)<|zTk 8 Z (zIM v.toNat jk Z2 Z Z (by omega) hgx)<|zTk 9 Z (zFF Z5 Z Yg Z Z)<|zTk 10 Z (zLi isAgg56 Z)<|zOn 3 Z<|zg (itoa_spec k ⟨by omega, by omega⟩ hPw) Z<|z6<|zTk 4 Z (Gv.addT Z Z (by omega))<|zTk 11 Z (y1 (cps := [(0, [_]), (1, [_])]) (rs := [_, _]) pl58 Z Z Z)<|zOn 12 Z<|zr (rows := [[_, _]]) ps22_1 Z Z Z Z Z<|z6<|zOn 13 Z<|zq (k := 2) jk Zi Z Z Z Z Z (fun _ => .head) (by rw [grow_len (k := 2) (fun _ => rfl)]; unfold valsV; rw [ql, qh, List.length_zipIdx]; omega) (by decide) Z (by show (_ + _) * 24 ≤ _; simp <;> omega) (by simp <;> omega)<|fun i66 => z6<|zTk 14 Z (zf jd Z Zb (by decide) Z Z)<|zw<|zu (i := 15) Z (by kernel_rfl) (by kernel_rfl)<|ya (l := [_]) (new := [_, _, _]) Zb Z Z Z Z Z Z .head Z Z<|z6<|zz (by kernel_rfl)<|zRg<|zVzAd Z Z<|zVzMi Z ?_
  refine z6 ?_
  exact ⟨(k + 1, i66), zR7, zR1, ⟨_, (.refl _), by rw [hvn, qk, List.flatten_append, ← nameK_itoa]; rfl⟩, hk2, by dsimp only; omega⟩
 ·obtain rfl : k = (vsL g).length := by omega
  have hvs : valsV g (vsL g).length = (canD g).vars := by
   unfold valsV
   rw [List.take_of_length_le (by rw [qh, List.length_zipIdx]; exact Nat.le_refl _)]; rfl
  rw [hvs, cI_fl (vsL g)]
  refine y5<|y4 (yn (off := 0) (rows := (canD g).vars.map encVar) .t1 .head Z (by intro r hr; obtain ⟨z, _, rfl⟩ := List.mem_map.1 hr; rfl) (by decide) (by rw [qh]; exact can_vlen))<|y4 (yn (off := 0) (rows := (vsL g).map encI) .t2 .t1 Z (by intro r hr; obtain ⟨z, _, rfl⟩ := List.mem_map.1 hr; rfl) (by decide) (by rw [qh]))<|y4 (GStep.knowMap (off := 1) .t2 .t1 Z (hM))<|y4 (yf (t := 7) Z .t1)<|ze<|zSr<|zVzMf Z<|zVGvlenM jc Z<|zVzMi Z<|z6<|adoptC_wp (off := 2) (k := 7) (T := 69) (fun _ => .head) Z<|fun ib => y4 (zb (zc .t1))<|zi<|y7 (γ := Nat × Nat) [2, 7, 8, 69, 70] (fun q => [(71, .int .i64 q.1)]) (fun q => [(i8, .cells 26 [.fro 2 ((canD g).vars.map encVar), .fro 1 (g.params.map encI), .own q.2 q.1]), (q.2, .grow 7 69 ((((canB g).take q.1).map (mapV (posI (vsL g)))).map encBlk).flatten), (i2, .cells 26 [.raw (.slice none 0 0), .raw (.slice none 0 0), .raw (.slice none 0 0)])]) (fun q => q.1 ≤ (canB g).length) (fun q => (canB g).length - q.1) (0, ib) zR1 zLe (qd _) ?_
  rintro ⟨k, ib⟩ hk
  try dsimp only at *
  refine zSr<|zVGvlss Z Z<|z6<|ze<|y2 Z (fun ck=>?_) (fun ck=>?_)
  ·have hk2 : k < (canB g).length := by omega
   obtain ⟨b, hb⟩ : ∃ b, (canB g)[k] = b := ⟨_, rfl⟩
   have hgb : (canB g)[k]? = some b := by rw [qa hk2, hb]
   have hbm : b ∈ canB g := hb ▸ qe hk2
   obtain ⟨q1, q2, q3, q4, q5⟩ := hbs b hbm
   have hv := hbv b hbm
   have hcl7 : (((((canB g).take k).map (mapV (posI (vsL g)))).map encBlk).flatten).length = k * 7 := by rw [grow_len (k := 7) (fun _ => rfl), qh, ql]; omega
   refine zj<|ze<|zi<|zSr<|z8 (zIM k jc jm Z Z Z hgb)<|zVGvloadWF Ze jm Z Z<|zo (cs := [.str ⟨#[]⟩, .raw (.slice none 0 0), .raw (.slice none 0 0), .int .i64 0, .int .i64 0, .int .i64 0, .int .i64 0]) Z0 Z Z<|fun i12 => zh jm Z Z Z Z Z Z .head Z<|zd (yf (t := 12) Z .head)<|z6<|zSr<|zVzFF j7 Z Z1 Z Z<|z8 (yp (c := .str _) Za Z)<|zVzFF j7 Z jv Z Z<|zVGvloadWF Zy jv Z Z<|z8 (y1 (cps := [(0, [_]), (3, [_, _, _, _])]) (rs := [_, .raw (.slice none 0 0), .raw (.slice none 0 0), _, _, _, _]) pl69 Z Z Z)<|zo (cs := [.str ⟨#[]⟩, .raw (.slice none 0 0), .raw (.slice none 0 0), .int .i64 0, .int .i64 0, .int .i64 0, .int .i64 0]) Z0 Z Z<|fun i13 => zh jm Z Z Z Z Z Z .head Z<|z6<|ze<|zSr<|zVzFF j7 Z Z6 Z Z<|zVzLf Zk Z<|zVGvlenM jo Z<|zVzMi Z<|z6<|adoptC_wp (off := 1) (k := 3) (T := 71) (fun _ => .head) Z<|fun ip => y4 (zb (zc .t1))<|zi<|y7 (γ := Nat × Nat) [2, 7, 8, 12, 13, 69, 70, 71, 81, 82] (fun q => [(83, .int .i64 q.1)]) (fun q => [(i13, .cells 69 [.str b.name, .own q.2 q.1, .raw (.slice none 0 0), .int .i64 b.term.kind, .int .i64 b.term.var, .int .i64 b.term.to0, .int .i64 b.term.to1]), (q.2, .grow 3 71 (((b.phis.take q.1).map (phM (posI (vsL g)))).map encPhi).flatten), (i8, .cells 26 [.fro 2 ((canD g).vars.map encVar), .fro 1 (g.params.map encI), .own ib k]), (ib, .grow 7 69 ((((canB g).take k).map (mapV (posI (vsL g)))).map encBlk).flatten), (i2, .cells 26 [.raw (.slice none 0 0), .raw (.slice none 0 0), .raw (.slice none 0 0)])]) (fun q => q.1 ≤ b.phis.length) (fun q => b.phis.length - q.1) (0, ip) zR1 zLe (qd _) ?_
   rintro ⟨m, ip⟩ hm
   try dsimp only at *
   refine zSr<|zVGvlss Z Z<|z6<|ze<|y2 Z (fun cm=>?_) (fun cm=>?_)
   ·have hm2 : m < b.phis.length := by omega
    obtain ⟨p, hp⟩ : ∃ p, b.phis[m] = p := ⟨_, rfl⟩
    have hgp : b.phis[m]? = some p := by rw [qa hm2, hp]
    have hpm : p ∈ b.phis := hp ▸ qe hm2
    have hpl := q4 p hpm
    have hpv2 : ∀ v ∈ phiVars p, v ∈ vsL g := fun v h => hv v (List.mem_append_left _ (List.mem_flatMap.2 ⟨p, hpm, h⟩))
    refine zj<|ze<|zi<|zSr<|z8 (zIM m jo ju Z Z Z hgp)<|zVGvloadWF Zj ju Z Z<|zo (cs := [.int .i64 0, .raw (.slice none 0 0), .raw (.slice none 0 0)]) Z9 Z Z<|fun i15 => zh ju Z Z Z Z Z Z .head Z<|zd (yf (t := 15) Z .head)<|z6<|y6 (fun j => Nat.beq j 19) (by kernel_rfl) Z (yb (.r (.rest _)))<|zTk 0 Z (zf j7 Z Z6 (by decide) Z Z)<|zTk 1 Z (zp (c := .own _ _) Zk Z ⟨_, .head⟩ Z)<|zTk 2 Z (zMg Z)<|zTk 3 Z (Gv.nilCheckF Z)<|zTk 4 Z (zFF Zs Z sizeOf77 Z Z)<|zTk 5 Z (yp (c := mapL (vsL g)) isAgg77 Z)<|zTk 6 Z (zFF jj Z j8 Z Z)<|zTk 7 Z (zLi jl Z)<|zTk 8 Z (Gv.lookupL (hpv2 p.dst (.head _)) Y9 Z8 Z Z)<|zTk 9 Z (zMg Z)<|zTk 10 Z (zFF jj Z ji Z Z)<|zTk 11 Z (zLf jq Z)<|zTk 13 Z (zFF jj Z ji Z Z)<|zTk 14 Z (zLf jq Z)<|zOn 12 Z<|zg (allF_spec (vsL g) p.args (by omega) (fun v h => hpv2 v (.tail _ h))) Z<|z6<|zTk 15 Z (y1 (cps := [(0, [_]), (1, [_]), (2, [_])]) (rs := [_, _, _]) pl71 Z Z Z)<|zOn 16 Z<|zr (rows := [[_, _, _]]) ps67_1 Z Z Z Z Z<|z6<|zOn 17 Z<|zq (k := 3) jo type71 Z Z Z Z Z (fun _ => .head) (by rw [grow_len (k := 3) (fun _ => rfl), qh, ql, Nat.min_eq_left hm]) (by decide) Z (by show (_ + _) * 56 ≤ _; simp <;> omega) (by simp <;> omega)<|fun i104 => z6<|zTk 18 Z (zf j7 Z Z6 (by decide) Z Z)<|zw<|zu (i := 19) Z (by kernel_rfl) (by kernel_rfl)<|ya (l := [_]) (new := [_, _, _, _, _, _, _]) Z6 Z Z Z Z Z Z .head Z Z ?_
    refine z6<|zz (by kernel_rfl)<|zRg<|zVzAd Z Z<|zVzMi Z<|z6 ?_
    exact ⟨(m + 1, i104), ⟨rfl, rfl, rfl, rfl, rfl, rfl, rfl, rfl, rfl, rfl, trivial⟩, zR1, ⟨_, (.refl _), by rw [List.take_add_one, hgp, qk, qk, List.flatten_append]; rfl⟩, hm2, by dsimp only; omega⟩
   ·obtain rfl : m = b.phis.length := by omega
    rw [qf]
    refine y5<|y4 (yn (off := 1) (rows := (b.phis.map (phM (posI (vsL g)))).map encPhi) .t1 .head Z (by intro r hr; obtain ⟨z, _, rfl⟩ := List.mem_map.1 hr; rfl) (by decide) (by simp))<|ze<|zSr<|zVzFF j7 Z Z7 Z Z<|zVzLf Zm Z<|zVGvlenM js Z<|zVzMi Z<|z6<|adoptC_wp (off := 2) (k := 4) (T := 61) (fun _ => .head) Z<|fun ii => y4 (zb (zc .t1))<|zi<|y7 (γ := Nat × Nat) [2, 7, 8, 12, 13, 69, 70, 71, 108, 109] (fun q => [(110, .int .i64 q.1)]) (fun q => [(i13, .cells 69 [.str b.name, .fro 3 ((b.phis.map (phM (posI (vsL g)))).map encPhi), .own q.2 q.1, .int .i64 b.term.kind, .int .i64 b.term.var, .int .i64 b.term.to0, .int .i64 b.term.to1]), (q.2, .grow 4 61 (((b.insts.take q.1).map (insM (posI (vsL g)))).map encInst).flatten), (i8, .cells 26 [.fro 2 ((canD g).vars.map encVar), .fro 1 (g.params.map encI), .own ib k]), (ib, .grow 7 69 ((((canB g).take k).map (mapV (posI (vsL g)))).map encBlk).flatten), (i2, .cells 26 [.raw (.slice none 0 0), .raw (.slice none 0 0), .raw (.slice none 0 0)])]) (fun q => q.1 ≤ b.insts.length) (fun q => b.insts.length - q.1) (0, ii) zR1 zLe (qd _) ?_
    rintro ⟨m, ii⟩ hm
    try dsimp only at *
    refine zSr<|zVGvlss Z Z<|z6<|ze<|y2 Z (fun cm=>?_) (fun cm=>?_)
    ·have hm2 : m < b.insts.length := by omega
     obtain ⟨x, hx⟩ : ∃ x, b.insts[m] = x := ⟨_, rfl⟩
     have hgx : b.insts[m]? = some x := by rw [qa hm2, hx]
     have hxm : x ∈ b.insts := hx ▸ qe hm2
     have hxl := q5 x hxm
     have hxv : ∀ v ∈ instVars x, v ∈ vsL g := fun v h => hv v (List.mem_append_right _ (List.mem_append_left _ (List.mem_flatMap.2 ⟨x, hxm, h⟩)))
     have hil : ((((b.insts.take m).map (insM (posI (vsL g)))).map encInst).flatten).length = m * 4 := by rw [grow_len (k := 4) (fun _ => rfl), qh, ql, Nat.min_eq_left hm]
     have hpush : ∀ y : PInst, insM (posI (vsL g)) x = y → (((b.insts.take m).map (insM (posI (vsL g)))).map encInst).flatten ++ encInst y = (((b.insts.take (m + 1)).map (insM (posI (vsL g)))).map encInst).flatten := fun y h => by
      rw [List.take_add_one, hgx, qk, qk, List.flatten_append, ← h]
      simp
     refine zj<|ze<|zi<|zSr<|z8 (zIM m js jx Z Z Z hgx)<|zVGvloadWF Zn jx Z Z<|zo (cs := [.int .i64 0, .int .i64 0, .raw (.slice none 0 0), .int .i64 0]) Zf Z Z<|fun i17 => zh jx Z Z Z Z Z Z .head Z<|zd (yf (t := 17) Z .head)<|z6<|ze<|yt (γ := Nat) [2, 7, 8, 12, 13, 17, 69, 70, 71, 108, 109, 110] (fun i => [(18, .po i 0)]) (fun i => [(i, .cells 61 (encInst ⟨x.op, x.dst, x.args.map (posI (vsL g)), x.num⟩)), (i13, .cells 69 [.str b.name, .fro 3 ((b.phis.map (phM (posI (vsL g)))).map encPhi), .own ii m, .int .i64 b.term.kind, .int .i64 b.term.var, .int .i64 b.term.to0, .int .i64 b.term.to1]), (ii, .grow 4 61 (((b.insts.take m).map (insM (posI (vsL g)))).map encInst).flatten), (i8, .cells 26 [.fro 2 ((canD g).vars.map encVar), .fro 1 (g.params.map encI), .own ib k]), (ib, .grow 7 69 ((((canB g).take k).map (mapV (posI (vsL g)))).map encBlk).flatten), (i2, .cells 26 [.raw (.slice none 0 0), .raw (.slice none 0 0), .raw (.slice none 0 0)])]) (fun i => True) ?_ (fun _ _ h => h) ?_
     ·refine y6 (fun j => Nat.beq j 12) (by kernel_rfl) Z (yb (.rest _))<|zTk 0 Z (zFF jh Z Zo Z Z)<|zTk 1 Z (zLi Zt Z)<|zTk 2 Z (zFF jh Z j8 Z Z)<|zTk 3 Z (zLi jl Z)<|zTk 4 Z (zMg Z)<|zTk 5 Z (zFF jh Z ji Z Z)<|zTk 6 Z (zLf jq Z)<|zTk 8 Z (zFF jh Z Y5 Z Z)<|zTk 9 Z (zLi Yd Z)<|yg (i := 7) (j := 11) Z Z (by kernel_rfl) ?_ ?_
      ·refine zg (allF_spec (vsL g) x.args (by omega) (fun v h => hxv v (List.mem_append_left _ h))) Z<|z6<|zTk 10 Z (y1 (cps := [(0, [_]), (1, [_]), (2, [_]), (3, [_])]) (rs := [_, _, _, _]) pl61 Z Z Z)<|zOn 11 Z<|zo (cs := [.int .i64 0, .int .i64 0, .raw (.slice none 0 0), .int .i64 0]) Zf Z Z<|fun i18 => z6<|zw<|zu (i := 12) Z (by kernel_rfl) (by kernel_rfl)<|zh jx Z Z Z Z Z Z .head Z<|z6<|zz (by kernel_rfl) ?_
       exact ⟨i18, zR12, zR1, zLe, trivial⟩
      ·refine zo (cs := [.int .i64 0, .int .i64 0, .raw (.slice none 0 0), .int .i64 0]) Zf Z Z<|fun i18 => z6<|zOn 7 Z<|zg (allF_spec (vsL g) x.args (by omega) (fun v h => hxv v (List.mem_append_left _ h))) Z<|z6<|zTk 10 Z (y1 (cps := [(0, [_]), (1, [_]), (2, [_]), (3, [_])]) (rs := [_, _, _, _]) pl61 Z Z Z)<|zw<|zu (i := 12) Z (by kernel_rfl) (by kernel_rfl)<|zh jx Z Z Z Z Z Z .head Z<|z6<|zz (by kernel_rfl) ?_
       exact ⟨i18, zR12, zR1, zLe, trivial⟩
     ·rintro i18 _
      refine ze<|zSr<|zVzFF jh Z j8 Z Z<|zVzLi jl Z<|z8 (Gv.geq Z Z)<|z6<|y2 Z (fun cd=>?_) (fun cd=>?_)
      ·have hd : 0 ≤ x.dst := by first | exact cd | omega
       have hxd : x.dst ∈ vsL g := hxv _ (List.mem_append_right _ (by rw [if_pos hd]; exact .head _))
       refine y6 (fun j => Nat.beq j 8) (by kernel_rfl) Z (yb (.rest _))<|zTk 0 Z (zMg Z)<|zTk 1 Z (Gv.nilCheckF Z)<|zTk 2 Z (zFF Zs Z sizeOf77 Z Z)<|zTk 3 Z (yp (c := mapL (vsL g)) isAgg77 Z)<|zTk 4 Z (zFF jh Z j8 Z Z)<|zTk 5 Z (zLi jl Z)<|zTk 6 Z (Gv.lookupL hxd Y9 Z8 Z Z)<|zTk 7 Z (zf jh Z j8 (by decide) Z Z)<|zw<|zu (i := 8) Z (by kernel_rfl) (by kernel_rfl)<|ya (l := [_]) (new := [_, _, _, _]) j8 Z Z Z Z Z Z .head Z Z<|z6<|zz (by kernel_rfl)<|zRg<|z8 (zf j7 Z Z7 (by decide) Z Z)<|z8 (zp (c := .own _ _) Zm Z ⟨_, .t1⟩ Z)<|z8 (yh Zn jx Z ⟨_, .head⟩ Z)<|zr (rows := [[_, _, _, _]]) ps62_1 Z Z Z Z Z<|zq (k := 4) js type61 Z Z Z Z Z (fun _ => .t2) hil (by decide) Z (by show (_ + _) * 48 ≤ _; simp <;> omega) (by simp <;> omega)<|fun i140 => z8 (zf j7 Z Z7 (by decide) Z Z)<|ya (l := [_]) (new := [_, _, _, _, _, _, _]) Z7 Z Z Z Z Z Z .t1 Z Z<|z6<|zRg<|zVzAd Z Z<|zVzMi Z<|z6 ?_
       exact ⟨(m + 1, i140), ⟨rfl, rfl, rfl, rfl, rfl, rfl, rfl, rfl, rfl, rfl, trivial⟩, zR1, ⟨_, (.drop (.refl _)), by rw [← hpush ⟨x.op, posI (vsL g) x.dst, x.args.map (posI (vsL g)), x.num⟩ (by unfold insM; rw [if_pos hd])]; rfl⟩, hm2, by dsimp only; omega⟩
      ·have hd : ¬ 0 ≤ x.dst := by first | exact cd | omega
       refine zj<|zRg<|z8 (zf j7 Z Z7 (by decide) Z Z)<|z8 (zp (c := .own _ _) Zm Z ⟨_, .t1⟩ Z)<|z8 (yh Zn jx Z ⟨_, .head⟩ Z)<|zr (rows := [[_, _, _, _]]) ps62_1 Z Z Z Z Z<|zq (k := 4) js type61 Z Z Z Z Z (fun _ => .t2) hil (by decide) Z (by show (_ + _) * 48 ≤ _; simp <;> omega) (by simp <;> omega)<|fun i140 => z8 (zf j7 Z Z7 (by decide) Z Z)<|ya (l := [_]) (new := [_, _, _, _, _, _, _]) Z7 Z Z Z Z Z Z .t1 Z Z<|z6<|zRg<|zVzAd Z Z<|zVzMi Z<|z6 ?_
       exact ⟨(m + 1, i140), ⟨rfl, rfl, rfl, rfl, rfl, rfl, rfl, rfl, rfl, rfl, trivial⟩, zR1, ⟨_, (.drop (.refl _)), by rw [← hpush ⟨x.op, x.dst, x.args.map (posI (vsL g)), x.num⟩ (by unfold insM; rw [if_neg hd])]; rfl⟩, hm2, by dsimp only; omega⟩
    ·obtain rfl : m = b.insts.length := by omega
     rw [qf]
     have hpush : ∀ v : Int, (⟨b.term.kind, v, b.term.to0, b.term.to1⟩ : PTerm) = trmM (posI (vsL g)) id b.term → ((((canB g).take k).map (mapV (posI (vsL g)))).map encBlk).flatten ++ [AV.str b.name, .fro 3 ((b.phis.map (phM (posI (vsL g)))).map encPhi), .fro 4 ((b.insts.map (insM (posI (vsL g)))).map encInst), .int .i64 b.term.kind, .int .i64 v, .int .i64 b.term.to0, .int .i64 b.term.to1] = ((((canB g).take (k + 1)).map (mapV (posI (vsL g)))).map encBlk).flatten := fun v h => by
      rw [List.take_add_one, hgb, qk, qk, List.flatten_append]
      congr 1
      show _ = ([encBlk (mapV (posI (vsL g)) b)] : List (List AV)).flatten
      unfold mapV
      rw [← h]; rfl
     refine y5<|y4 (yn (off := 2) (rows := (b.insts.map (insM (posI (vsL g)))).map encInst) .t1 .head Z (by intro r hr; obtain ⟨z, _, rfl⟩ := List.mem_map.1 hr; rfl) (by decide) (by simp))<|ze<|zSr<|zVzFF j7 Z jv Z Z<|zVzFF je Z Zg Z Z<|zVzLi Zl Z<|zVGvneqI Z Z<|z6<|y3 Z (fun ct=>?_) (fun ct=>?_)
     ·have hk0 : ¬ b.term.kind = 0 := by first | exact ct | simpa using ct
      have htv : b.term.var ∈ vsL g := hv _ (List.mem_append_right _ (List.mem_append_right _ (by unfold termVars; rw [if_neg hk0]; exact .head _)))
      refine y6 (fun j => Nat.beq j 10) (by kernel_rfl) Z (yb (.rest _))<|zTk 0 Z (zMg Z)<|zTk 1 Z (Gv.nilCheckF Z)<|zTk 2 Z (zFF Zs Z sizeOf77 Z Z)<|zTk 3 Z (yp (c := mapL (vsL g)) isAgg77 Z)<|zTk 4 Z (zFF j7 Z jv Z Z)<|zTk 5 Z (zFF je Z j8 Z Z)<|zTk 6 Z (zLi jl Z)<|zTk 7 Z (Gv.lookupL htv Y9 Z8 Z Z)<|yx (i := 8) Z (by kernel_rfl) (by kernel_rfl) (by kernel_rfl) (by kernel_rfl) (zf j7 Z jv (by decide) Z Z)<|zTk 9 Z (zf je Z j8 (by decide) Z Z)<|zw<|zu (i := 10) Z (by kernel_rfl) (by kernel_rfl)<|ya (l := [_]) (new := [_, _, _, _, _, _, _]) j8 Z Z Z Z Z Z .head Z Z<|z6<|zz (by kernel_rfl)<|zRg<|z8 (zf jd Z jw (by decide) Z Z)<|z8 (zp (c := .own _ _) Z3 Z ⟨_, .t1⟩ Z)<|z8 (yh Ze jm Z ⟨_, .head⟩ Z)<|zr (rows := [[_, _, _, _, _, _, _]]) ps24_1 Z Z Z Z Z<|zq (k := 7) jc Zd Z Z Z Z Z (fun _ => .t2) hcl7 (by decide) Z (by show (_ + _) * 96 ≤ _; simp <;> omega) (by simp <;> omega)<|fun i161 => z8 (zf jd Z jw (by decide) Z Z)<|ya (l := [_]) (new := [_, _, _]) jw Z Z Z Z Z Z .t1 Z Z<|z6<|zRg<|zVzAd Z Z<|zVzMi Z<|z6 ?_
      exact ⟨(k + 1, i161), zR5, zR1, ⟨_, (.drop (.refl _)), by rw [← hpush (posI (vsL g) b.term.var) (by unfold trmM; rw [if_neg hk0]; split <;> rfl)]; rfl⟩, hk2, by dsimp only; omega⟩
     ·have hk0 : b.term.kind = 0 := by first | exact ct | simpa using ct
      refine zj<|zRg<|z8 (zf jd Z jw (by decide) Z Z)<|z8 (zp (c := .own _ _) Z3 Z ⟨_, .t1⟩ Z)<|z8 (yh Ze jm Z ⟨_, .head⟩ Z)<|zr (rows := [[_, _, _, _, _, _, _]]) ps24_1 Z Z Z Z Z<|zq (k := 7) jc Zd Z Z Z Z Z (fun _ => .t2) hcl7 (by decide) Z (by show (_ + _) * 96 ≤ _; simp <;> omega) (by simp <;> omega)<|fun i161 => z8 (zf jd Z jw (by decide) Z Z)<|ya (l := [_]) (new := [_, _, _]) jw Z Z Z Z Z Z .t1 Z Z<|z6<|zRg<|zVzAd Z Z<|zVzMi Z<|z6 ?_
      exact ⟨(k + 1, i161), zR5, zR1, ⟨_, (.drop (.refl _)), by rw [← hpush b.term.var (by unfold trmM; rw [if_pos hk0]; rfl)]; rfl⟩, hk2, by dsimp only; omega⟩
  ·obtain rfl : k = (canB g).length := by omega
   rw [qf]
   refine y5<|y4 (yn (off := 2) (rows := (canD g).blocks.map encBlk) .t1 .head Z (by intro r hr; obtain ⟨z, _, rfl⟩ := List.mem_map.1 hr; rfl) (by decide) (by rw [qh]; exact qh ..))<|zSr<|z8 (yh jp j9 Z ⟨_, .head⟩ Z)<|zh j9 Z Z Z Z Z Z .t1 Z<|zVzAi Z<|z6<|zk<|afin.c1t (y := .int _ _) Z Z ⟨_, .t1⟩ jp j9 Z ?_
   rfl
end Go.Proofs.YtpojdepccecpgaaGreatDoor
namespace Go.Proofs.YtpojdepccecpgaaGreatDoor
open Go.Proofs.Tryz
open Go.Proofs Go.Lib Go.Shelf Go.RowKit
variable {E : World}
set_option maxRecDepth 20000
theorem canon_bad (f : PFunc) (hf : small f) (hL : Letters E) (h : (typedB f && joinedB f) = false) : AFun prog E 9 [.agg (encF f)] (.tup [.agg [.raw (.slice none 0 0), .raw (.slice none 0 0), .raw (.slice none 0 0)], .int .i64 3]) := by
 have hjo := joinedX_spec (E := E) f hf hL
 rw [h] at hjo
 have hjo : AFun prog E 23 [.agg (encF f)] (.int .i64 3) := hjo
 refine zt func9 Z (by decide) Z<|zSr<|AOps.boxO (cs := _) Z Z Z Z<|fun i1 => zo (cs := [.raw (.slice none 0 0), .raw (.slice none 0 0), .raw (.slice none 0 0)]) jn Z Z<|fun i2 => zVzAi Z<|z6<|ze<|zSr<|z8 (yh jp j9 Z ⟨_, .t1⟩ Z)<|zg (hjo) Z<|zVzAi Z<|z6<|zSr<|zVzMi Z<|zVGvneqI Z Z<|z6<|yq Z Z<|zSr<|z8 (y1 (cps := []) (rs := [.raw (.slice none 0 0), .raw (.slice none 0 0), .raw (.slice none 0 0)]) pl26 Z Z Z)<|zVzMi Z<|zh j9 Z Z Z Z Z Z .head Z<|zVzAi Z<|z6<|zk<|afin.c1t (y := .int _ _) Z Z ⟨_, .head⟩ jp j9 Z ?_
 rfl
theorem equal_good (f g : PFunc) (hf : small f) (hg : small g) (hL : Letters E) (hPw : Pows E) (tf : typedB f = true) (jf : JoinP f) (tg : typedB g = true) (jg : JoinP g) : AFun prog E 22 [.agg (encF f), .agg (encF g)] (.bool (decide (canD f = canD g))) := by
 have hs1 := can_small tf jf hf
 have hs2 := can_small tg jg hg
 refine zt func22 Z (by decide) Z<|zSr<|yc (cs := _) Z Z Z<|yc (cs := _) Z Z Z<|zVzAb Z<|z6<|zSr<|zVGvloadWF jp j9 Z Z<|zg (canon_good f hf hL hPw tf jf) Z<|z8 (zMu Z)<|z8 (yw (v := .agg _) Z Z)<|z8 (zXi Z Z)<|zo (cs := [.raw (.slice none 0 0), .raw (.slice none 0 0), .raw (.slice none 0 0)]) jn Z Z<|fun i5 => zh j9 Z Z Z Z Z Z .head Z<|zd (yf (t := 5) Z .head)<|zVzAi Z<|z6<|zSr<|zVGvloadWF jp j9 Z Z<|zg (canon_good g hg hL hPw tg jg) Z<|z8 (zMu Z)<|z8 (yw (v := .agg _) Z Z)<|z8 (zXi Z Z)<|zo (cs := [.raw (.slice none 0 0), .raw (.slice none 0 0), .raw (.slice none 0 0)]) jn Z Z<|fun i7 => zh j9 Z Z Z Z Z Z .head Z<|zd (yf (t := 7) Z .head)<|zVzAi Z<|z6<|zSr<|zVzMi Z<|zVGveqlI Z Z<|zVzMb Z<|za Z Z Z<|zVzMi Z<|za Z Z Z<|zVGveqlI Z Z<|zVzPt Z Z Z<|zVzMb Z<|za Z Z Z ?_
 refine zVGvloadWF jp j9 Z Z<|za Z Z Z<|zVGvloadWF jp j9 Z Z<|za Z Z Z<|zg (same_spec (canD f) (canD g) hs1.ok) Z<|zVzPt Z Z Z<|zVzAb Z<|z6<|zk<|zm (x := .bool _) Z ?_
 rfl
end Go.Proofs.YtpojdepccecpgaaGreatDoor
namespace Go.Proofs.YtpojdepccecpgaaGreatDoor
open Go.Proofs.Tryz
section
variable {E : World} {P : Program} {ops : Array Oper} {K : AEnv → OL → Prop} {env : AEnv} {O O' : OL} {rest : List Oper}
variable {d ty : Nat} {pos : String} {af : Array Edge} {x y z : Operand} {t u e : TypeId}
end
end Go.Proofs.YtpojdepccecpgaaGreatDoor
namespace Go.Proofs.YtpojdepccecpgaaGreatDoor
open Go.Proofs.Tryz
section
variable {E : World} {P : Program} {ops : Array Oper} {K : AEnv → OL → Prop} {env : AEnv} {O O' : OL} {rest : List Oper}
variable {d ty : Nat} {pos : String} {af : Array Edge} {x y z : Operand} {t u e : TypeId}
end
end Go.Proofs.YtpojdepccecpgaaGreatDoor
namespace Go.Proofs.YtpojdepccecpgaaGreatDoor
open Go.Proofs.Tryz
open Go.Proofs Go.Lib Go.Shelf Go.RowKit
variable {E : World}
set_option maxRecDepth 20000
theorem VisL.seen {E : Int → List Int} {n : Nat} (hE : ∀ b : Int, 0 ≤ b → b < n → ∀ c ∈ E b, 0 ≤ c ∧ c < n) {s s' : List Bool} {cs p : List Int} (h : VisL E s cs s' p) (hs : s.length = n) (hc : ∀ c ∈ cs, 0 ≤ c ∧ c < n) : (∀ x : Int, 0 ≤ x → gb s x = true → gb s' x = true) ∧ (∀ c ∈ cs, gb s' c = true) ∧ p.length + unseen s' = unseen s := by
 induction h with
 | nil => exact ⟨fun _ _ h => h, fun _ h => (by cases h), by simp⟩
 | old h _ ih =>
  obtain ⟨h1, h2, h3⟩ := ih hs fun c h => hc c (.tail _ h)
  refine ⟨h1, fun c hcm => ?_, h3⟩
  rcases List.mem_cons.1 hcm with rfl | hcm
  ·exact h1 _ (hc _ (.head _)).1 h
  ·exact h2 c hcm
 | @new s s1 s' c cs p q h k _ i1 i2 =>
  have hc0 := hc _ (.head _)
  obtain ⟨a1, a2, a3⟩ := i1 (by rw [List.length_set]; exact hs) (hE c hc0.1 hc0.2)
  obtain ⟨b1, b2, b3⟩ := i2 (by rw [k.len, List.length_set]; exact hs) fun c h => hc c (.tail _ h)
  have hg : gb (s.set c.toNat true) c = true := (gb_set hc0.1 (by omega) hc0.1).2 (.inl rfl)
  refine ⟨fun x h0 hx => b1 x h0 (a1 x h0 ((gb_set hc0.1 (by omega) h0).2 (.inr hx))), fun d hd => ?_, ?_⟩
  ·rcases List.mem_cons.1 hd with rfl | hd
   ·exact b1 _ hc0.1 (a1 _ hc0.1 hg)
   ·exact b2 d hd
  ·have hu : unseen (s.set c.toNat true) + 1 = unseen s := unseen_set s c.toNat (by
    have hlt : c.toNat < s.length := by omega
    unfold gb at h
    rw [qa hlt] at h ⊢
    simpa using h)
   rw [qg, List.length_cons]
   omega
end Go.Proofs.YtpojdepccecpgaaGreatDoor
namespace Go.Proofs.YtpojdepccecpgaaGreatDoor
open Go.Proofs.Tryz
open Go.Proofs Go.Lib Go.Shelf Go.RowKit
variable {E : World}
set_option maxRecDepth 20000
end Go.Proofs.YtpojdepccecpgaaGreatDoor
namespace Go.Proofs.YtpojdepccecpgaaGreatDoor
open Go.Proofs.Tryz
open Go.Proofs Go.Lib Go.Shelf Go.RowKit
variable {E : World}
set_option maxRecDepth 20000
end Go.Proofs.YtpojdepccecpgaaGreatDoor
namespace Go.Proofs.YtpojdepccecpgaaGreatDoor
open Go.Proofs.Tryz
open Go.Proofs Go.Lib Go.Shelf Go.RowKit
theorem pl66 : Places prog 66 #[(0, 1), (1, 1), (2, 2)] [.int .i64 0, .int .i64 0, .int .i64 0, .int .i64 0] := ⟨_, _, je, zeroValue66, fun w => by kernel_rfl, rfl⟩
variable {E : World}
set_option maxRecDepth 20000
def GoodS (f : PFunc) (S : List Int) : Prop := S.Nodup ∧ ∀ v ∈ S, v ∈ vsL f
theorem GoodS.len {f : PFunc} {S : List Int} (h : GoodS f S) : S.length ≤ (vsL f).length := List.Nodup.length_le_of_subset h.1 fun v hv => h.2 v hv
end Go.Proofs.YtpojdepccecpgaaGreatDoor
namespace Go.Proofs.YtpojdepccecpgaaGreatDoor
open Go.Proofs.Tryz
open Go.Proofs Go.Lib Go.Shelf Go.RowKit
set_option maxRecDepth 20000
def nl : ByteArray := ⟨#[10]⟩
def colon : ByteArray := ⟨#[58]⟩
theorem takesL_len (op : Int) : (takesL op).length ≤ 3 := by
 rcases kRow_mem op with h | h
 ·unfold takesL; rw [h]; decide
 ·have : ∀ r ∈ kindT, r.2.1.data.toList.length ≤ 3 := by decide
  have := this _ h
  unfold takesL; simpa using this
def eqS : ByteArray := ⟨#[61]⟩
def phiS : ByteArray := ⟨#[112, 104, 105]⟩
def jumpS : ByteArray := ⟨#[106, 117, 109, 112]⟩
def ifS : ByteArray := ⟨#[105, 102]⟩
def retS : ByteArray := ⟨#[114, 101, 116]⟩
def blockS : ByteArray := ⟨#[98, 108, 111, 99, 107]⟩
def varS : ByteArray := ⟨#[118, 97, 114]⟩
def funcS : ByteArray := ⟨#[102, 117, 110, 99]⟩
def lineS (l : List ByteArray) : ByteArray := joinS l ⟨#[32]⟩
def unB : List (List ByteArray) → ByteArray
 | [] => ⟨#[]⟩
 | l :: ls => (lineS l ++ nl) ++ unB ls
def pairW (v : PVar) : ByteArray := (v.name ++ colon) ++ tyWord v.ty
structure FOk (f : PFunc) : Prop where
 vars : ∀ v ∈ f.vars, scanName v.name = true ∧ 0 ≤ v.ty ∧ v.ty ≤ 2
 blks : ∀ b ∈ f.blocks, scanName b.name = true ∧ BlkP f b
def inter : List ByteArray → List ByteArray → List ByteArray
 | a :: l, b :: m => a :: b :: inter l m
 | _, _ => []
def phiL (f : PFunc) (p : PPhi) : List ByteArray := vname f p.dst :: eqS :: phiS :: inter (p.from_.map (bname f)) (p.args.map (vname f))
def termL (f : PFunc) (t : PTerm) : List ByteArray :=
 if t.kind = 0 then [jumpS, bname f t.to0] else if t.kind = 1 then [ifS, vname f t.var, bname f t.to0, bname f t.to1] else [retS, vname f t.var]
def blkL (f : PFunc) (b : PBlock) : List (List ByteArray) := [blockS, b.name] :: (b.phis.map (phiL f) ++ (b.insts.map (wordsOf f) ++ [termL f b.term]))
def headL (f : PFunc) : List ByteArray := funcS :: (f.vars.take f.params.length).map pairW
def varL (v : PVar) : List ByteArray := [varS, pairW v]
def linesF (f : PFunc) : List (List ByteArray) := headL f :: ((f.vars.drop f.params.length).map varL ++ f.blocks.flatMap (blkL f))
def NumsOk (f : PFunc) : Prop := ∀ b ∈ f.blocks, ∀ x ∈ b.insts, -9223372036854775808 ≤ x.num ∧ x.num ≤ 9223372036854775807
def Unlike (ns : List ByteArray) : Prop := ∀ i (h : i < ns.length), ns[i] ∉ ns.take i
theorem shaped_ok {f : PFunc} (h : ShapedP f) : FOk f ∧ Unlike (f.vars.map PVar.name) ∧ Unlike (f.blocks.map PBlock.name) ∧ f.blocks ≠ [] := by
 obtain ⟨h1, h2, h3, h4, h5, h6⟩ := h
 refine ⟨⟨fun v hv => ?_, fun b hb => ?_⟩, fun i hi hm => ?_, fun i hi hm => ?_, fun e=>?_⟩
 ·obtain ⟨i, hi, rfl⟩ := List.getElem_of_mem hv
  obtain ⟨g1, g2, g3, _⟩ := h3 i hi
  exact ⟨by rw [← name_eq]; exact g1, g2, g3⟩
 ·obtain ⟨i, hi, rfl⟩ := List.getElem_of_mem hb
  exact ⟨by rw [← name_eq]; exact (h4 i hi).1, h6 _ hb⟩
 ·have hi2 : i < f.vars.length := by simpa using hi
  rw [List.getElem_map, ← List.map_take] at hm
  exact (h3 i hi2).2.2.2 _ hm rfl
 ·have hi2 : i < f.blocks.length := by simpa using hi
  rw [List.getElem_map, ← List.map_take] at hm
  exact (h4 i hi2).2 _ hm rfl
 ·unfold bad1 at h1; rw [e] at h1; simp at h1
def textF (f : PFunc) : ByteArray := unB (linesF f)
theorem lit_size (a : Array UInt8) : (⟨a⟩ : ByteArray).size = a.size := rfl
theorem unB_app : ∀ (ls : List (List ByteArray)) (l : List ByteArray), unB (ls ++ [l]) = unB ls ++ (lineS l ++ nl)
 | [], l => by show (lineS l ++ nl) ++ unB [] = unB [] ++ (lineS l ++ nl); show (lineS l ++ nl) ++ ByteArray.empty = ByteArray.empty ++ _; rw [ByteArray.append_empty, ByteArray.empty_append]
 | x :: ls, l => by rw [List.cons_append, unB, unB_app ls l, unB]; simp only [ByteArray.append_assoc]
theorem lineS_snoc (w : ByteArray) (ws : List ByteArray) (a : ByteArray) : lineS ((w :: ws) ++ [a]) = (lineS (w :: ws) ++ spc) ++ a := joinS_app w ws a
theorem lineS_one (w : ByteArray) : lineS [w] = w := joinS_one w
theorem lineS_two (a b : ByteArray) : lineS [a, b] = (a ++ spc) ++ b := by rw [show [a, b] = [a] ++ [b] from rfl, lineS_snoc, lineS_one]
theorem lineS_three (a b c : ByteArray) : lineS [a, b, c] = (((a ++ spc) ++ b) ++ spc) ++ c := by rw [show [a, b, c] = [a, b] ++ [c] from rfl, lineS_snoc, lineS_two]
theorem lineS_four (a b c d : ByteArray) : lineS [a, b, c, d] = (((((a ++ spc) ++ b) ++ spc) ++ c) ++ spc) ++ d := by rw [show [a, b, c, d] = [a, b, c] ++ [d] from rfl, lineS_snoc, lineS_three]
theorem ty_size {t : Int} (h : 0 ≤ t ∧ t ≤ 2) : (tyWord t).size ≤ 4 := by
 have : t = 0 ∨ t = 1 ∨ t = 2 := by omega
 rcases this with rfl | rfl | rfl <;> decide
structure TBlk (b : PBlock) : Prop where
 phis : b.phis.length ≤ 2100
 insts : b.insts.length ≤ 2100
 args : ∀ p ∈ b.phis, p.args.length ≤ 2100 ∧ p.from_.length ≤ 2100
structure TOk (f : PFunc) : Prop where
 vars : f.vars.length ≤ 1000
 blks : f.blocks.length ≤ 100
 vn : ∀ v ∈ f.vars, v.name.size ≤ 1000
 bn : ∀ b ∈ f.blocks, b.name.size ≤ 1000
 each : ∀ b ∈ f.blocks, TBlk b
theorem inst_line_eq {f : PFunc} {x : PInst} (h : InstP f x) : refLine f x = lineS (wordsOf f x) := by
 rw [← line_eq h]; unfold instLine; rw [if_pos ((instOK_iff f x).2 h)]; rfl
theorem inter_succ : ∀ {l m : List ByteArray} {k : Nat} {a b : ByteArray}, l[k]? = some a → m[k]? = some b → inter (l.take (k + 1)) (m.take (k + 1)) = inter (l.take k) (m.take k) ++ [a, b]
 | [], _, _, _, _, h, _ => by simp at h
 | _ :: _, [], _, _, _, _, h => by simp at h
 | x :: l, y :: m, 0, a, b, h1, h2 => by
  simp at h1 h2; subst h1 h2
  simp [inter]
 | x :: l, y :: m, k + 1, a, b, h1, h2 => by
  rw [List.take_succ_cons, List.take_succ_cons, List.take_succ_cons, List.take_succ_cons, inter, inter, inter_succ (by simpa using h1) (by simpa using h2)]; rfl
def phiLk (f : PFunc) (p : PPhi) (k : Nat) : List ByteArray := vname f p.dst :: eqS :: phiS :: inter ((p.from_.map (bname f)).take k) ((p.args.map (vname f)).take k)
def headLk (f : PFunc) (k : Nat) : List ByteArray := funcS :: (f.vars.take k).map pairW
theorem vname_sz {f : PFunc} (hT : TOk f) {v : Int} (h : hasV f v = true) : (vname f v).size ≤ 1000 := by
 obtain ⟨h1, _, _, h2⟩ := has_get h
 rw [h2]; exact hT.vn _ (qe h1)
theorem bname_sz {f : PFunc} (hT : TOk f) {v : Int} (h : hasB f v = true) : (bname f v).size ≤ 1000 := by
 obtain ⟨h1, _, _, h2⟩ := hasB_get h
 rw [h2]; exact hT.bn _ (qe h1)
theorem refLine_sz {f : PFunc} (hT : TOk f) {x : PInst} (hx : InstP f x) (hI : -9223372036854775808 ≤ x.num ∧ x.num ≤ 9223372036854775807) : x.args.length ≤ 3 ∧ (refLine f x).size ≤ 20000 := by
 have hF := instP_F hx
 have h3 := takesL_len x.op
 have hl := hF.len
 have hs := refArgs_size hT.vn x x.args.length (Nat.le_refl _)
 have hi := itoa_length_le x.num hI.1 hI.2
 refine ⟨by omega, ?_⟩
 unfold refLine
 split
 ·rw [app_size, app_size, strL_size]
  have : spc.size = 1 := rfl
  omega
 ·omega
theorem Left.none0 : ∀ O : OL, Left O []
 | [] => ⟨_, .refl _, rfl⟩
 | x :: O => let ⟨_, h1, h2⟩ := Left.none0 O; ⟨_, .drop h1, h2⟩
end Go.Proofs.YtpojdepccecpgaaGreatDoor
namespace Go.Proofs.YtpojdepccecpgaaGreatDoor
open Go.Proofs.Tryz
open Go Go.Shelf Go.RowKit Go.Proofs Go.Lib
variable {P : Program} {ρ : Ren}
set_option maxHeartbeats 1000000 in
set_option maxRecDepth 100000 in
theorem string_raw (L : Lays.n169 P ρ) (X : Builder.Extra P ρ) (b g cap : Nat) (p : Value) (cur : Array Value) (l : List UInt8) (w : World) (hbk : w.heap[b]? = some (.cells #[p, .slice (some ⟨g, 0, none⟩) l.length cap] (ρ.t 72) (0, 0)))
  (hg : w.heap[g]? = some (.cells cur (ρ.t 5) (0, 0))) (hnc : l.length ≤ cap) (hcs : cap ≤ cur.size) (hsm : l.length ≤ 9223372036854775807) (hcell : ∀ (j : Nat) (x : UInt8), l[j]? = some x → cur[j]? = some (Value.int .u8 x.toNat)) (h0 : l ≠ []) :
  Calls P (ρ.f 169) #[.pointer (some ⟨b, 0, none⟩)] w fun e w' => e = .returned (.string ⟨l.toArray⟩) ∧ w' = w.drew.freeze ⟨g, 0, none⟩ l.length := by
 have hl0 : l.length ≠ 0 := by simpa using h0
 have c1 : w.drew.cell? ⟨b, 1, none⟩ = some (.slice (some ⟨g, 0, none⟩) l.length cap) := by
  have : w.drew.heap[b]? = some (.cells #[p, .slice (some ⟨g, 0, none⟩) l.length cap] (ρ.t 72) (0, 0)) := hbk
  rw [Lib.cell_of_heap this]; rfl
 have hSD : (Builtin.unsafeSliceData_ #[(ρ.t 37)] (ρ.t 127) #[.slice (some ⟨g, 0, none⟩) l.length cap]).run P w.drew = .ok (.pointer (some ⟨g, 0, none⟩)) w.drew :=
  Lib.run_unsafeSliceData_row _ _ _ _ _ _ (by omega)
 have hg' : w.drew.heap[g]? = some (.cells cur (ρ.t 5) (0, 0)) := hg
 have hUS : (Builtin.unsafeString_ #[(ρ.t 127), (ρ.t 3)] (ρ.t 9) #[.pointer (some ⟨g, 0, none⟩), .int .i64 l.length]).run P w.drew = .ok (.string ⟨l.toArray⟩) (w.drew.freeze ⟨g, 0, none⟩ l.length) := by
  refine Lib.run_unsafeString_row w.drew (ρ.t 127) (ρ.t 3) (ρ.t 9) (ρ.t 5) L.t127 X.cellsByte g cur.size (by simp [World.shape?, hg']) l h0 (by omega) (by omega) ?_
  intro j x hx
  have ha : (⟨g, 0, none⟩ : Addr).add j = ⟨g, j, none⟩ := by unfold Addr.add; split <;> simp_all
  rw [ha, Lib.cell_of_heap hg']
  exact hcell j x hx
 have mixed := L.mixed
 have t72 := L.t72; have a72 := L.a72; have z72 := L.z72; have v72 := L.v72; have u72 := run_underlying L.t72
 have t70 := L.t70; have a70 := L.a70; have z70 := L.z70; have v70 := L.v70; have u70 := run_underlying L.t70
 have t37 := L.t37; have a37 := L.a37; have z37 := L.z37; have v37 := L.v37; have u37 := run_underlying L.t37
 have t127 := L.t127; have a127 := L.a127; have z127 := L.z127; have v127 := L.v127; have u127 := run_underlying L.t127
 have t3 := L.t3; have a3 := L.a3; have z3 := L.z3; have v3 := L.v3; have u3 := run_underlying L.t3
 have t9 := L.t9; have a9 := L.a9; have z9 := L.z9; have v9 := L.v9; have u9 := run_underlying L.t9
 have t5 := X.t5; have a5 := X.a5; have z5 := X.z5; have v5 := X.v5; have u5 := run_underlying X.t5
 go_enter L.f169, Body.n169_ntmps ρ
 go_wp2
 go_region_o
 all_goals (go_wp2; go_ret; exact ⟨rfl, rfl⟩)
end Go.Proofs.YtpojdepccecpgaaGreatDoor
namespace Go.Proofs.YtpojdepccecpgaaGreatDoor
open Go.Proofs.Tryz
open Go.Proofs Go.Lib Go.Shelf Go.RowKit
set_option maxRecDepth 20000
variable {E : World}
theorem check_new {i : Nat} {x : AV} : ACall prog E 98 [.po i 0] [(i, .cells 106 [.raw (.pointer none), x])] (fun z O' => z = .tup [] ∧ O' = [(i, .cells 106 [.po i 0, x])]) := by
 refine zt func98 Z (by decide) Z<|zSr<|z8 (zMp Z)<|z8 (ym Z)<|z8 (zf Zq Z sizeOf103 (by decide) Z Z)<|z8 (zp (c := .raw _) isAgg103 Z ⟨_, .head⟩ Z)<|z8 (Gv.eqlNilR (by kernel_rfl) Z)<|z6<|yq Z Z<|zRg<|z8 (zMp Z)<|z8 (zMp Z)<|z8 (Gv.toUnsafe underlying103 underlying194 type106 (by decide) Z ⟨_, .head⟩ (by show 0 < 2; omega))<|z8 (Gv.noEscape func139 Z Z (by kernel_rfl) (by kernel_rfl) Z)<|z8 (Gv.fromUnsafe underlying194 underlying103 type106 Z ⟨_, .head⟩ (by kernel_rfl))<|z8 (ym Z)<|z8 (zf Zq Z sizeOf103 (by decide) Z Z)<|ya (l := [_]) (new := [_, _]) sizeOf103 Z Z Z Z Z Z .head Z Z<|z6<|afin.t0 ?_
 exact ⟨rfl, rfl⟩
theorem check_used {i : Nat} {x : AV} : ACall prog E 98 [.po i 0] [(i, .cells 106 [.po i 0, x])] (fun z O' => z = .tup [] ∧ O' = [(i, .cells 106 [.po i 0, x])]) := by
 refine zt func98 Z (by decide) Z<|zSr<|z8 (zMp Z)<|z8 (ym Z)<|z8 (zf Zq Z sizeOf103 (by decide) Z Z)<|z8 (zp (c := .po _ _) isAgg103 Z ⟨_, .head⟩ Z)<|z8 (Gv.eqlNilO (by kernel_rfl) Z)<|z6<|yl Z Z<|zSr<|z8 (zMp Z)<|z8 (ym Z)<|z8 (zf Zq Z sizeOf103 (by decide) Z Z)<|z8 (zp (c := .po _ _) isAgg103 Z ⟨_, .head⟩ Z)<|z8 (zMp Z)<|z8 (Gv.neqPO underlying103 type106 Z Z)<|z6<|yl Z Z<|zj<|afin.t0 ?_
 exact ⟨rfl, rfl⟩
def bldO (i j : Nat) (p0 : AV) (acc : ByteArray) : OL := [(i, .cells 106 [p0, .own j acc.size]), (j, .grow 1 5 (strAV acc))]
theorem bld_push {i j : Nat} {acc s : ByteArray} : [(i, AObj.cells 106 [.po i 0, .own j (acc.size + s.size)]), (j, .grow 1 5 (strAV acc ++ strAV s))] = bldO i j (.po i 0) (acc ++ s) := by
 unfold bldO; rw [strAV_app, ByteArray.size_append]
theorem write_new {i j : Nat} (acc s : ByteArray) (hb : acc.size + s.size ≤ 140737488355328) : ACall prog E 59 [.po i 0, .str s] (bldO i j (.raw (.pointer none)) acc)
  (fun z O' => ∃ j' : Nat, z = .tup [.int .i64 s.size, .raw .nilIface] ∧ Left O' (bldO i j' (.po i 0) (acc ++ s)) ∧ True) := by
 have hl := strAV_len acc
 refine zt func59 Z (by decide) Z<|zSr<|zVzAi Z<|z8 (zAr Z)<|z6<|zSr<|z8 (zMp Z)<|yv Z (yb (.l (.r (.rest _)))) (check_new) ?_
 rintro r7 O7 ⟨rfl, rfl⟩
 refine z6<|zSr<|z8 (zMp Z)<|z8 (zMp Z)<|z8 (ym Z)<|z8 (zf Zq Z Y4 (by decide) Z Z)<|z8 (zp (c := .own _ _) isAgg104 Z ⟨_, .head⟩ Z)<|z8 (ye (v := .str _) Z)<|AOps.appendT Zv Z4 type5 Z Z Z Z Z (fun _ => .t1) (by omega) (by omega)<|fun i14 => z8 (ym Z)<|z8 (zf Zq Z Y4 (by decide) Z Z)<|ya (l := [_]) (new := [_, _]) Y4 Z Z Z Z Z Z .head Z Z<|z6<|zSr<|z8 (ye (v := .str _) Z)<|z8 (Gv.lenT Z4 Z)<|zVzAi Z<|z8 (zAr Z)<|z6<|zk<|afin.t2 (x := .int _ _) (y := .raw _) Z Z ?_
 exact ⟨i14, rfl, ⟨_, .refl _, bld_push⟩, trivial⟩
theorem write_used {i j : Nat} (acc s : ByteArray) (hb : acc.size + s.size ≤ 140737488355328) : ACall prog E 59 [.po i 0, .str s] (bldO i j (.po i 0) acc)
  (fun z O' => ∃ j' : Nat, z = .tup [.int .i64 s.size, .raw .nilIface] ∧ Left O' (bldO i j' (.po i 0) (acc ++ s)) ∧ True) := by
 have hl := strAV_len acc
 refine zt func59 Z (by decide) Z<|zSr<|zVzAi Z<|z8 (zAr Z)<|z6<|zSr<|z8 (zMp Z)<|yv Z (yb (.l (.r (.rest _)))) (check_used) ?_
 rintro r7 O7 ⟨rfl, rfl⟩
 refine z6<|zSr<|z8 (zMp Z)<|z8 (zMp Z)<|z8 (ym Z)<|z8 (zf Zq Z Y4 (by decide) Z Z)<|z8 (zp (c := .own _ _) isAgg104 Z ⟨_, .head⟩ Z)<|z8 (ye (v := .str _) Z)<|AOps.appendT Zv Z4 type5 Z Z Z Z Z (fun _ => .t1) (by omega) (by omega)<|fun i14 => z8 (ym Z)<|z8 (zf Zq Z Y4 (by decide) Z Z)<|ya (l := [_]) (new := [_, _]) Y4 Z Z Z Z Z Z .head Z Z<|z6<|zSr<|z8 (ye (v := .str _) Z)<|z8 (Gv.lenT Z4 Z)<|zVzAi Z<|z8 (zAr Z)<|z6<|zk<|afin.t2 (x := .int _ _) (y := .raw _) Z Z ?_
 exact ⟨i14, rfl, ⟨_, .refl _, bld_push⟩, trivial⟩
theorem line_new {i j : Nat} (acc : ByteArray) (ws : List ByteArray) (hw : ws.length ≤ 100000000) (hz : (lineS ws).size ≤ 10000000000000) (hb : acc.size ≤ 10000000000000) : ACall prog E 58 ([.fro 1 (ws.map encS)] ++ [.po i 0]) (bldO i j (.raw (.pointer none)) acc)
  (fun z O' => ∃ j' : Nat, z = .tup [] ∧ Left O' (bldO i j' (.po i 0) (acc ++ (lineS ws ++ nl))) ∧ True) := by
 have hjs : (Lib.join (ws.map (·.data.toList)) [32]).length = (lineS ws).size := (strL_size _).symm
 refine zt func58 Z (by decide) Z<|zRg<|zVzMf Z<|zg (join_spec ws _ (by omega) (by show (Lib.join _ [32]).length ≤ _; omega)) Z<|z8 (Gv.addT Z Z (by show (lineS ws).size + 1 ≤ _; omega))<|yv Z (yb (.l (.l (.rest _)))) ((write_new acc (lineS ws ++ nl) (by rw [app_size]; show _ + (_ + 1) ≤ _; omega)).exact) ?_
 rintro r6 O6 ⟨j2, rfl, rfl, _⟩
 refine z6<|afin.t0 ?_
 exact ⟨j2, rfl, ⟨_, .refl _, rfl⟩, trivial⟩
theorem line_used {i j : Nat} (acc : ByteArray) (ws : List ByteArray) (hw : ws.length ≤ 100000000) (hz : (lineS ws).size ≤ 10000000000000) (hb : acc.size ≤ 10000000000000) : ACall prog E 58 ([.fro 1 (ws.map encS)] ++ [.po i 0]) (bldO i j (.po i 0) acc)
  (fun z O' => ∃ j' : Nat, z = .tup [] ∧ Left O' (bldO i j' (.po i 0) (acc ++ (lineS ws ++ nl))) ∧ True) := by
 have hjs : (Lib.join (ws.map (·.data.toList)) [32]).length = (lineS ws).size := (strL_size _).symm
 refine zt func58 Z (by decide) Z<|zRg<|zVzMf Z<|zg (join_spec ws _ (by omega) (by show (Lib.join _ [32]).length ≤ _; omega)) Z<|z8 (Gv.addT Z Z (by show (lineS ws).size + 1 ≤ _; omega))<|yv Z (yb (.l (.l (.rest _)))) ((write_used acc (lineS ws ++ nl) (by rw [app_size]; show _ + (_ + 1) ≤ _; omega)).exact) ?_
 rintro r6 O6 ⟨j2, rfl, rfl, _⟩
 refine z6<|afin.t0 ?_
 exact ⟨j2, rfl, ⟨_, .refl _, rfl⟩, trivial⟩
theorem bldLen_spec {i j : Nat} {p0 : AV} (acc : ByteArray) : ACall prog E 65 [.po i 0] (bldO i j p0 acc) (fun z O' => z = .int .i64 acc.size ∧ O' = bldO i j p0 acc) := by
 refine zt func65 Z (by decide) Z<|zSr<|zVzAi Z<|z6<|zSr<|z8 (zMp Z)<|z8 (ym Z)<|z8 (zf Zq Z Y4 (by decide) Z Z)<|z8 (zp (c := .own _ _) isAgg104 Z ⟨_, .head⟩ Z)<|z8 (Gv.lenO Zv Z)<|zVzAi Z<|z6<|zk<|zm (x := .int _ _) Z ?_
 exact ⟨rfl, rfl⟩
theorem bldString_spec {i j : Nat} {p0 : AV} (acc : ByteArray) (h0 : acc.size ≠ 0) (hb : acc.size ≤ 140737488355328) : ACall prog E 66 [.po i 0] (bldO i j p0 acc) (fun z O' => z = .str acc ∧ O' = []) := fun I F w vs h1 h2 => by
 obtain ⟨v, us, rfl, ⟨b, c, e1, rfl⟩, h3⟩ := h1
 have h3 : us = [] := h3
 subst h3
 obtain ⟨ht, L, hL, hS⟩ := h2
 obtain ⟨A, B0, rfl, hA, B, C, rfl, hB, hC⟩ := hL
 have hC : C = [] := hC
 subst hC
 obtain ⟨b', c', ws, e2, hws, hwc, rfl⟩ := hA
 simp only at e2
 rw [e1] at e2
 cases e2
 obtain ⟨v0, us, rfl, hv0, v1, us2, rfl, ⟨g, cg, e3, rfl⟩, hz⟩ := hws
 have hz : us2 = [] := hz
 subst hz
 obtain ⟨g', cg', n', bs, e4, hbs, hbc, h5, h6, h7⟩ := hB
 simp only at e4
 rw [e3] at e4
 simp only [Option.some.injEq, Prod.mk.injEq] at e4
 obtain ⟨rfl, rfl⟩ := e4
 have hv := strAV_un hbs
 subst hv
 have hlen := strCells_length acc
 have hl2 : acc.data.toList.length = acc.size := Array.length_toList
 rcases h7 with ⟨ea, hc0, _⟩ | ⟨g2, junk, ea, rfl, hj⟩
 ·omega
 ·cases g with
  | none => simp [adr] at ea
  | some g =>
   simp [adr] at ea
   subst ea
   have hS1 : SL I.k ((b, .cells #[v0, .slice (some ⟨g, 0, none⟩) acc.size cg] 106 (0, 0)) :: (g, .cells (strCells acc ++ junk).toArray 5 (0, 0)) :: F) E w := by simpa [adr] using hS
   have hbk := hS1.own _ (.head _)
   have hgk := hS1.own _ (.tail _ (.head _))
   simp only at hbk hgk
   refine Fn.ofCalls func66 Z (by decide) ?_
   have hcall := string_raw Tryz.lays169 Tryz.Builder_Extra_169 b g cg v0 (strCells acc ++ junk).toArray acc.data.toList w (by rw [hl2]; exact hbk) hgk (by rw [hl2]; omega) (by rw [List.size_toArray, hj]; omega) (by omega) (fun k x hx => by
    have hk : k < (strCells acc).length := by rw [hlen, ← hl2]; exact (List.getElem?_eq_some_iff.1 hx).1
    rw [List.getElem?_toArray, List.getElem?_append_left hk]
    unfold strCells
    rw [qi, hx]; rfl) (fun e => h0 (by rw [← hl2, e]; rfl))
   refine hcall.mono fun e w' ⟨he, hw⟩ => ⟨_, he, I, .str acc, [], .refl _, Z, ⟨ht, [], Z, ?_⟩, Z, Z⟩
   subst hw
   have hl0 : ¬ acc.data.toList.length = 0 := by rw [hl2]; exact h0
   refine hS1.drop.drew.scrap ?_ ?_ ?_ fun k hk => ?_
   ·unfold World.freeze; rw [if_neg hl0]
   ·unfold World.freeze; rw [if_neg hl0]
   ·unfold World.freeze; rw [if_neg hl0]
   ·unfold World.freeze; rw [if_neg hl0]
    simp only [Array.getElem?_modify]
    rw [if_neg (by omega)]
end Go.Proofs.YtpojdepccecpgaaGreatDoor
