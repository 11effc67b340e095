/- A program without what is not reached, as the program makes it. Of typed and joined programs that are little. -/
import Derived.Test.YtbkgklpihnfnjaaGreatDoorJl
import Derived.Test.YtbkgklpihnfnjaaGreatDoorJj
import Derived.Test.YtbkgklpihnfnjaaGreatDoorJh
set_option linter.unusedVariables false
set_option linter.unusedSimpArgs false
set_option linter.unusedSectionVars false
namespace Go.Proofs.YtbkgklpihnfnjaaGreatDoor
open Go.Proofs.Tryz
open Go.Proofs Go.Lib Go.Shelf Go.RowKit
variable {E : World}
set_option maxRecDepth 20000
theorem itoa_spec (n : Int) (hn : -9223372036854775808 ≤ n ∧ n ≤ 9223372036854775807) (hT : Pows E) : AFun prog E 18 [.int .i64 n] (.str ⟨(Lib.itoa n).toArray⟩) := fun I F w vs h1 h2 => by
 obtain ⟨v, us, rfl, h3, h5⟩ := h1
 have h3 : v = .int .i64 n := h3
 have h5 : us = [] := h5
 subst h3 h5
 obtain ⟨ht, L, hL, hS⟩ := h2
 have hL : L = [] := hL
 subst hL
 refine Fn.ofCalls func18 Z (by decide) ?_
 exact (Tryz.strconv_Itoa n hn.1 hn.2 w (tab_up hT hS)).mono fun e w' ⟨he, k, os, hw⟩ => ⟨_, he, I, .str ⟨(Lib.itoa n).toArray⟩, [], .refl _, rfl, ⟨ht, [], rfl, by
  subst hw
  exact hS.more rfl rfl rfl (fun k hk => Array.getElem?_append_left hk)⟩, rfl⟩
theorem itoa_nat (k : Nat) : Lib.itoa (k : Int) = decDigits k := by
 unfold Lib.itoa; rw [if_neg (by omega)]; simp
theorem nameK_itoa (c : UInt8) (k : Nat) : strL [c] ++ ⟨(Lib.itoa (k : Int)).toArray⟩ = nameK c k := by
 rw [itoa_nat]; exact strL_app [c] _
def plL (f : PFunc) (k : Nat) : List Int := (List.range f.blocks.length).map fun (b : Nat) => if (b : Int) ∈ (ord f).take k then posI (ord f) b else 0
theorem plL_len (f : PFunc) (k : Nat) : (plL f k).length = f.blocks.length := by simp [plL]
theorem plL_zero (f : PFunc) : plL f 0 = List.replicate f.blocks.length 0 := by
 apply List.ext_getElem
 ·simp [plL]
 ·intro i h1 h2; simp [plL]
theorem plL_idx {f : PFunc} {k i : Nat} (h : i < (plL f k).length) : (plL f k)[i] = if (i : Int) ∈ (ord f).take k then posI (ord f) i else 0 := by simp [plL]
theorem plL_set {f : PFunc} {k : Nat} {x : Int} (hn : (ord f).Nodup) (h : (ord f)[k]? = some x) (h0 : 0 ≤ x) : (plL f k).set x.toNat (k : Int) = plL f (k + 1) := by
 apply List.ext_getElem
 ·simp [plL]
 ·intro i h1 h2
  rw [List.getElem_set, plL_idx, plL_idx, List.take_add_one, h]
  by_cases e : x.toNat = i
  ·have : (i : Int) = x := by omega
   rw [if_pos e, this, if_pos (by simp), pos_at hn h]
  ·rw [if_neg e]
   have : (i : Int) ≠ x := by omega
   simp [this]
theorem plL_get {f : PFunc} {x : Int} (hx : x ∈ ord f) (h0 : 0 ≤ x) (h1 : x < f.blocks.length) : (plL f (ord f).length)[x.toNat]? = some (posI (ord f) x) := by
 unfold plL
 rw [ql, List.getElem?_range (by omega)]
 show some (if (x.toNat : Int) ∈ _ then posI (ord f) (x.toNat : Int) else 0) = _
 rw [qt h0, qi, if_pos hx]
set_option maxHeartbeats 8000000 in
theorem turned_spec (f : PFunc) (hf : small f) (hL : Letters E) (hPw : Pows E) (ht : typedB f = true) (hJ : JoinP f) (hA : ∀ x : Int, 0 ≤ x → x < f.blocks.length → x ∈ ord f) : AFun prog E 15 [.agg (encF f)] (.fro 7 ((canB f).map encBlk)) := by
 have hn := hf.2.2.1
 have hE := typedE ht
 have hS := typedS ht
 have hnd : (ord f).Nodup := order_nodup hE.grph.toEOk
 have hrg : ∀ {x : Int}, x ∈ ord f → 0 ≤ x ∧ x < f.blocks.length := fun hx => order_rng hE.grph.toEOk hx
 have hol : (ord f).length ≤ f.blocks.length := order_len hE.grph
 have ho : orderT (EndsOf f) f.blocks.length = ord f := rfl
 have hor := orderX_spec (E := E) f hf hL ht
 rw [ho] at hor
 refine zk func15 Z (by decide) Z<|zSr<|y6 (cs := _) Z Z Z<|zVzAr Z<|z6<|zSr<|zVGvloadWF ju jj Z Z<|zd (hor) Z<|z8 (zAf Z)<|z6<|zSr<|zVzFF jc Z Z2 Z Z<|zVzLf Ze Z<|zVGvlenM jo Z<|AOps.makeI (m := f.blocks.length) j9 Yx Z Z Z Z Z (by simp) (by simp) (by show (8 : Int) * _ ≤ _; omega) (by omega)<|fun i19 => zVzAo Z<|z6<|zb<|zSr<|zVzMf Z<|zVGvlenM j9 Z<|zVzMi Z<|z6<|zg<|y3 (γ := Nat) [1, 3, 4, 20, 21] (fun g => [(22, .int .i64 g)]) (fun g => [(i19, .grow 1 3 (cI (plL f g)))]) (fun g => g ≤ (ord f).length) (fun g => (ord f).length - g) 0 zR1 ⟨_, (.refl _), by rw [plL_zero]⟩ (qg _) ?_
 rintro k hk
 refine zSr<|zVGvlss Z Z<|z6<|zb<|zr Z (fun ck=>?_) (fun ck=>?_)
 ·have hk2 : k < (ord f).length := by omega
  obtain ⟨x, hx⟩ : ∃ x, (ord f)[k] = x := ⟨_, rfl⟩
  have hgx : (ord f)[k]? = some x := by rw [qd hk2, hx]
  have hxr := hrg (hx ▸ qh hk2)
  refine zf<|zb<|zg<|zSr<|zVzMi Z<|z8 (zIM k j9 jd Z Z Z hgx)<|zVzLi jr Z<|zVzAi Z<|zVzAi Z<|z6<|zRg<|zVzMo Z<|zVzMi Z<|zVzMi Z<|z8 (Gv.idxI (j := x.toNat) j9 jd Z Z (by omega) ⟨_, .head⟩ (by rw [cI_len, plL_len]) (by omega))<|AOps.storeI (j := x.toNat) jd Z Z .head (by rw [plL_len]; omega)<|z6<|zRg<|zVzAd Z Z<|zVzMi Z<|z6 ?_
  exact ⟨k + 1, zR5, zR1, ⟨_, (.refl _), by rw [← plL_set hnd hgx hxr.1]⟩, hk2, by omega⟩
 ·obtain rfl : k = (ord f).length := by omega
  refine zt (GStep.knowI (t := 4) Z .head (plL_len _ _))<|y2<|zSr<|zVzAr Z<|z6<|adopt_wp (t := 7) (k := 7) (T := 49) Z<|fun i7 => zb<|zSr<|zVzMf Z<|zVGvlenM j9 Z<|zVzMi Z<|z6<|zg<|y3 (γ := Nat × Nat) [1, 4, 32, 33] (fun g => [(34, .int .i64 g.1), (7, .own g.2 g.1)]) (fun g => [(g.2, .grow 7 49 (((canB f).take g.1).map encBlk).flatten)]) (fun g => g.1 ≤ (ord f).length) (fun g => (ord f).length - g.1) (0, i7) zR2 zLe (qg _) ?_
  rintro ⟨k, jb⟩ hk
  try dsimp only at *
  refine zSr<|zVGvlss Z Z<|z6<|zb<|zr Z (fun ck=>?_) (fun ck=>?_)
  ·have hk2 : k < (ord f).length := by omega
   obtain ⟨x, hx⟩ : ∃ x, (ord f)[k] = x := ⟨_, rfl⟩
   have hgx : (ord f)[k]? = some x := by rw [qd hk2, hx]
   have hxm : x ∈ ord f := hx ▸ qh hk2
   have hxr := hrg hxm
   obtain ⟨b, hb⟩ : ∃ b, f.blocks[x.toNat]'(by omega) = b := ⟨_, rfl⟩
   have hgb : f.blocks[x.toNat]? = some b := by rw [qd (by omega), hb]
   have hbk : blkX f x = b := by unfold blkX; rw [hgb]; rfl
   obtain ⟨hb0, hb1, hb2, hb3, hb4⟩ := hf.2.2.2.2 b (hb ▸ qh (by omega))
   have hcl : ((((canB f).take k).map encBlk).flatten).length = k * 7 := by rw [grow_len (k := 7) (fun _ => rfl), qp, canB_len]; omega
   refine zf<|zb<|zg<|zSr<|zVzMi Z<|z8 (zIM k j9 jd Z Z Z hgx)<|zVzLi jr Z<|zVzAi Z<|zVzAi Z<|z6<|zSr<|zVzFF jc Z Z2 Z Z<|zVzLf Ze Z<|zVzMi Z<|z8 (zIM x.toNat jo jt Z Z (by omega) hgb)<|zVGvloadWF Zq jt Z Z<|zq (cs := [.str ⟨#[]⟩, .raw (.slice none 0 0), .raw (.slice none 0 0), .int .i64 0, .int .i64 0, .int .i64 0, .int .i64 0]) Zb Z Z<|fun i10 => zm jt Z Z Z Z Z Z .head Z<|y1 (yj (t := 10) Z .head)<|z6<|zb<|yn (γ := Nat) [1, 4, 7, 10, 32, 33, 34] (fun i => [(11, .po i 0)]) (fun i => [(i, .cells 49 [.str (nameK 98 k), .raw (.slice none 0 0), .fro 4 (b.insts.map encInst), .int .i64 b.term.kind, .int .i64 b.term.var, .int .i64 b.term.to0, .int .i64 b.term.to1]), (jb, .grow 7 49 (((canB f).take k).map encBlk).flatten)]) (fun i => True) ?_ (fun _ _ h => h) ?_
   ·have hsz : (⟨#[98]⟩ : ByteArray).size + (⟨(Lib.itoa (k : Int)).toArray⟩ : ByteArray).size ≤ 100 := by
     have := Lib.itoa_length_le (k : Int) (by omega) (by omega)
     show 1 + (List.toArray _).size ≤ _
     rw [List.size_toArray]; omega
    refine zw (fun j => Nat.beq j 9) (by kernel_rfl) Z (zu (.rest _))<|zTk 0 Z (zMi Z)<|zTk 3 Z (zFF ja Z Zi Z Z)<|zTk 4 Z (zLf Y1 Z)<|zTk 5 Z (zFF ja Z Z4 Z Z)<|zTk 6 Z (yq Ym Z4 Z Z)<|yy (i := 1) (j := 8) Z Z (by kernel_rfl) ?_ ?_
    ·refine zd (itoa_spec k ⟨by omega, by omega⟩ hPw) Z<|z6<|zTk 2 Z (Gv.addT Z Z (by omega))<|zTk 7 Z (y4 (cps := [(0, [_]), (2, [_]), (3, [_, _, _, _])]) (rs := [_, .raw (.slice none 0 0), _, _, _, _, _]) pl49 Z Z Z)<|zOn 8 Z<|zq (cs := [.str ⟨#[]⟩, .raw (.slice none 0 0), .raw (.slice none 0 0), .int .i64 0, .int .i64 0, .int .i64 0, .int .i64 0]) Zb Z Z<|fun i11 => z6<|yb<|y7 (i := 9) Z (by kernel_rfl) (by kernel_rfl)<|zm jt Z Z Z Z Z Z .head Z<|z6<|yf (by kernel_rfl) ?_
     exact ⟨i11, zR7, zR1, ⟨_, (.refl _), by rw [← nameK_itoa]; rfl⟩, trivial⟩
    ·refine zq (cs := [.str ⟨#[]⟩, .raw (.slice none 0 0), .raw (.slice none 0 0), .int .i64 0, .int .i64 0, .int .i64 0, .int .i64 0]) Zb Z Z<|fun i11 => z6<|zOn 1 Z<|zd (itoa_spec k ⟨by omega, by omega⟩ hPw) Z<|z6<|zTk 2 Z (Gv.addT Z Z (by omega))<|zTk 7 Z (y4 (cps := [(0, [_]), (2, [_]), (3, [_, _, _, _])]) (rs := [_, .raw (.slice none 0 0), _, _, _, _, _]) pl49 Z Z Z)<|yb<|y7 (i := 9) Z (by kernel_rfl) (by kernel_rfl)<|zm jt Z Z Z Z Z Z .head Z<|z6<|yf (by kernel_rfl) ?_
     exact ⟨i11, zR7, zR1, ⟨_, (.refl _), by rw [← nameK_itoa]; rfl⟩, trivial⟩
   ·rintro i11 _
    refine zb<|zSr<|zVzFF ja Z Za Z Z<|zVzLf Zu Z<|zVGvlenM jw Z<|zVzMi Z<|z6<|adoptC_wp (off := 1) (k := 3) (T := 60) (fun _ => .head) Z<|fun ip => zt (zn (zp .t1))<|zg<|y3 (γ := Nat × Nat) [1, 4, 7, 10, 11, 32, 33, 34, 53, 54] (fun g => [(55, .int .i64 g.1)]) (fun g => [(i11, .cells 49 [.str (nameK 98 k), .own g.2 g.1, .fro 4 (b.insts.map encInst), .int .i64 b.term.kind, .int .i64 b.term.var, .int .i64 b.term.to0, .int .i64 b.term.to1]), (g.2, .grow 3 60 (((b.phis.take g.1).map (phD (ord f))).map encPhi).flatten), (jb, .grow 7 49 (((canB f).take k).map encBlk).flatten)]) (fun g => g.1 ≤ b.phis.length) (fun g => b.phis.length - g.1) (0, ip) zR1 zLe (qg _) ?_
    rintro ⟨m, ip⟩ hm
    try dsimp only at *
    refine zSr<|zVGvlss Z Z<|z6<|zb<|zr Z (fun cm=>?_) (fun cm=>?_)
    ·have hm2 : m < b.phis.length := by omega
     obtain ⟨p, hp⟩ : ∃ p, b.phis[m] = p := ⟨_, rfl⟩
     have hgp : b.phis[m]? = some p := by rw [qd hm2, hp]
     have hpm : p ∈ (blkX f x).phis := by rw [hbk, ← hp]; exact qh hm2
     have hps := phi_shape hS hxr.1 hxr.2 hpm
     have hD := phi_dist hS hJ hxr.1 hxr.2 hpm
     have hpl := hb3 p (by rw [← hp]; exact qh hm2)
     have hng : ∀ c ∈ p.from_, 0 ≤ c ∧ c ∈ ord f ∧ (plL f (ord f).length)[c.toNat]? = some (posI (ord f) c) := fun c hc => by
      have h7 := List.all_eq_true.1 hps.2.2.2.2 c hc
      unfold hasB at h7
      simp only [qs, qu] at h7
      have h8 := hA c h7.1 h7.2
      exact ⟨h7.1, h8, plL_get h8 h7.1 h7.2⟩
     refine zf<|zb<|zg<|zSr<|z8 (zIM m jw Z0 Z Z Z hgp)<|zVGvloadWF Zv Z0 Z Z<|zq (cs := [.int .i64 0, .raw (.slice none 0 0), .raw (.slice none 0 0)]) Zk Z Z<|fun i13 => zm Z0 Z Z Z Z Z Z .head Z<|y1 (yj (t := 13) Z .head)<|z6<|zw (fun j => Nat.beq j 8) (by kernel_rfl) Z (zu (.r (.rest _)))<|zTk 0 Z (zc ja Z Za (by decide) Z Z)<|zTk 1 Z (zj (c := .own _ _) Zu Z ⟨_, .head⟩ Z)<|zTk 2 Z (yq Zv Z0 Z Z)<|zTk 3 Z (zMf Z)<|zOn 4 Z<|zd (sorted_spec p (ord f) (plL f (ord f).length) hnd hD hps.2.1.symm hpl.1 hng) Z<|z6<|zOn 5 Z<|zl (rows := [[_, _, _]]) ps47_1 Z Z Z Z Z<|z6<|zOn 6 Z<|zy (k := 3) jw type60 Z Z Z Z Z (fun _ => .head) (by rw [grow_len (k := 3) (fun _ => rfl), qk, qp, Nat.min_eq_left hm]) (by decide) Z (by show (_ + _) * 56 ≤ _; simp <;> omega) (by simp <;> omega)<|fun i65 => z6<|zTk 7 Z (zc ja Z Za (by decide) Z Z)<|yb<|y7 (i := 8) Z (by kernel_rfl) (by kernel_rfl)<|y5 (l := [_]) (new := [_, _, _, _, _, _, _]) Za Z Z Z Z Z Z .head Z Z<|z6<|yf (by kernel_rfl)<|zRg<|zVzAd Z Z<|zVzMi Z<|z6 ?_
     exact ⟨(m + 1, i65), ⟨rfl, rfl, rfl, rfl, rfl, rfl, rfl, rfl, rfl, rfl, trivial⟩, zR1, ⟨_, (.refl _), by rw [List.take_add_one, hgp, qo, qo, List.flatten_append]; rfl⟩, hm2, by dsimp only; omega⟩
    ·obtain rfl : m = b.phis.length := by omega
     rw [qi]
     have hpush : ∀ t0 t1 : Int, (⟨b.term.kind, b.term.var, t0, t1⟩ : PTerm) = trmM id (posI (ord f)) b.term → (((canB f).take k).map encBlk).flatten ++ [AV.str (nameK 98 k), .fro 3 ((b.phis.map (phD (ord f))).map encPhi), .fro 4 (b.insts.map encInst), .int .i64 b.term.kind, .int .i64 b.term.var, .int .i64 t0, .int .i64 t1] = (((canB f).take (k + 1)).map encBlk).flatten := fun t0 t1 h => by
      rw [List.take_add_one, canB_get hgx, qo, List.flatten_append, hbk]
      congr 1
      show _ = ([encBlk (turnB (ord f) k b)] : List (List AV)).flatten
      unfold turnB
      rw [← h]; rfl
     have her := hE.rng b (hb ▸ qh (by omega))
     have hto : ∀ c ∈ endsL b.term, 0 ≤ c ∧ (plL f (ord f).length)[c.toNat]? = some (posI (ord f) c) := fun c hc => by
      have h7 := her c hc
      exact ⟨h7.1, plL_get (hA c h7.1 h7.2) h7.1 h7.2⟩
     refine y2<|zt (ym (off := 1) (rows := (b.phis.map (phD (ord f))).map encPhi) .t1 .head Z (by intro r hr; obtain ⟨z, _, rfl⟩ := List.mem_map.1 hr; rfl) (by decide) (by simp))<|zb<|zSr<|zVzFF ja Z Z4 Z Z<|zVzFF je Z Zl Z Z<|zVzLi Y0 Z<|zVGvneqI Z Z<|z6<|zz Z (fun c1=>?_) (fun c1=>?_)
     ·have hk2' : ¬ b.term.kind = 2 := by first | exact c1 | simpa using c1
      have htk := (hS.2.2.2.2.2 b (hb ▸ qh (by omega))).2.2
      have hkk : b.term.kind = 0 ∨ b.term.kind = 1 := by
       unfold termOK at htk
       by_cases h0 : b.term.kind = 0
       ·exact .inl h0
       ·by_cases h1 : b.term.kind = 1
        ·exact .inr h1
        ·rw [if_neg h0, if_neg h1, if_neg hk2'] at htk; cases htk
      have h0 := hto b.term.to0 (by unfold endsL; rcases hkk with h | h <;> simp [h]; split <;> simp)
      refine zRg<|zVzMf Z<|zVzFF ja Z Z4 Z Z<|zVzFF je Z Z8 Z Z<|z8 (yo (j := 0) jy jd Z Z Z (by decide) Z)<|zVzLi jr Z<|z8 (zIM b.term.to0.toNat j9 jd Z Z (by omega) h0.2)<|zVzLi jr Z<|z8 (zc ja Z Z4 (by decide) Z Z)<|z8 (zc je Z Z8 (by decide) Z Z)<|z8 (Gv.idxAO (j := 0) jy jd Z Z Z (by decide) Z)<|y5 (l := [_]) (new := [_, _, _, _, _, _, _]) jd Z Z Z Z Z Z .head Z Z<|z6<|zb<|zSr<|zVzFF ja Z Z4 Z Z<|zVzFF je Z Zl Z Z<|zVzLi Y0 Z<|zVGveqlI Z Z<|z6<|zz Z (fun c2=>?_) (fun c2=>?_)
      ·have hk1 : b.term.kind = 1 := by simpa using c2
       have h1 := hto b.term.to1 (by unfold endsL; simp [hk1]; split <;> simp [*])
       refine zRg<|zVzMf Z<|zVzFF ja Z Z4 Z Z<|zVzFF je Z Z8 Z Z<|z8 (yo (j := 1) jy jd Z Z Z (by decide) Z)<|zVzLi jr Z<|z8 (zIM b.term.to1.toNat j9 jd Z Z (by omega) h1.2)<|zVzLi jr Z<|z8 (zc ja Z Z4 (by decide) Z Z)<|z8 (zc je Z Z8 (by decide) Z Z)<|z8 (Gv.idxAO (j := 1) jy jd Z Z Z (by decide) Z)<|y5 (l := [_]) (new := [_, _, _, _, _, _, _]) jd Z Z Z Z Z Z .head Z Z<|z6<|zRg<|zVzMo Z<|z8 (yg Zq jt Z ⟨_, .head⟩ Z)<|zl (rows := [[_, _, _, _, _, _, _]]) ps24_1 Z Z Z Z Z<|zy (k := 7) jo type49 Z Z Z Z Z (fun _ => .t1) hcl (by decide) Z (by show (_ + _) * 96 ≤ _; simp <;> omega) (by simp <;> omega)<|fun i99 => zVzAo Z<|z6<|zRg<|zVzAd Z Z<|zVzMi Z<|z6 ?_
       exact ⟨(k + 1, i99), zR4, zR2, ⟨_, (.drop (.refl _)), by rw [← hpush _ _ (show _ = trmM id (posI (ord f)) b.term by unfold trmM; rw [if_neg (show ¬ b.term.kind = 0 by omega), if_pos hk1]; rfl)]; rfl⟩, hk2, by dsimp only; omega⟩
      ·have hk1 : b.term.kind = 0 := hkk.resolve_right (by first | exact c2 | simpa using c2)
       refine zf<|zRg<|zVzMo Z<|z8 (yg Zq jt Z ⟨_, .head⟩ Z)<|zl (rows := [[_, _, _, _, _, _, _]]) ps24_1 Z Z Z Z Z<|zy (k := 7) jo type49 Z Z Z Z Z (fun _ => .t1) hcl (by decide) Z (by show (_ + _) * 96 ≤ _; simp <;> omega) (by simp <;> omega)<|fun i99 => zVzAo Z<|z6<|zRg<|zVzAd Z Z<|zVzMi Z<|z6 ?_
       exact ⟨(k + 1, i99), zR4, zR2, ⟨_, (.drop (.refl _)), by rw [← hpush _ _ (show _ = trmM id (posI (ord f)) b.term by unfold trmM; rw [if_pos hk1])]; rfl⟩, hk2, by dsimp only; omega⟩
     ·have hk2' : b.term.kind = 2 := by first | exact c1 | simpa using c1
      refine zf<|zb<|zSr<|zVzFF ja Z Z4 Z Z<|zVzFF je Z Zl Z Z<|zVzLi Y0 Z<|zVGveqlI Z Z<|z6<|zz Z (fun c2=>?_) (fun c2=>?_)
      ·exfalso
       have hk1 : b.term.kind = 1 := by simpa using c2
       omega
      ·refine zf<|zRg<|zVzMo Z<|z8 (yg Zq jt Z ⟨_, .head⟩ Z)<|zl (rows := [[_, _, _, _, _, _, _]]) ps24_1 Z Z Z Z Z<|zy (k := 7) jo type49 Z Z Z Z Z (fun _ => .t1) hcl (by decide) Z (by show (_ + _) * 96 ≤ _; simp <;> omega) (by simp <;> omega)<|fun i99 => zVzAo Z<|z6<|zRg<|zVzAd Z Z<|zVzMi Z<|z6 ?_
       exact ⟨(k + 1, i99), zR4, zR2, ⟨_, (.drop (.refl _)), by rw [← hpush _ _ (show _ = trmM id (posI (ord f)) b.term by unfold trmM; rw [if_neg (show ¬ b.term.kind = 0 by omega), if_neg (show ¬ b.term.kind = 1 by omega)]; rfl)]; rfl⟩, hk2, by dsimp only; omega⟩
  ·obtain rfl : k = (ord f).length := by omega
   rw [List.take_of_length_le (by rw [canB_len]; exact Nat.le_refl _)]
   refine y2<|zSr<|zVzMo Z<|zVzAo Z<|z6<|ze ?_
   repeat (first | refine aseqQ_ret ?_ | refine ablockQ_ret ?_)
   refine GStep.fin (yw (t := 2) (rows := (canB f).map encBlk) Z .head (by first | (intro r hr; obtain ⟨x, _, rfl⟩ := List.mem_map.1 hr; rfl) | simp [encI, encVar, encPhi, encInst, encBlk]) (by decide) (by rw [qk, canB_len]))<|zi (x := .fro _ _) Z ?_
   rfl
end Go.Proofs.YtbkgklpihnfnjaaGreatDoor
namespace Go.Proofs.YtbkgklpihnfnjaaGreatDoor
open Go.Proofs.Tryz
open Go.Proofs Go.Lib Go.Shelf Go.RowKit
set_option maxRecDepth 20000
def MapL (l : List Int) (J : Ghost) (v : Value) : Prop := ∃ b arr clock, v = .map (some b) ∧ J b = some (.map arr clock) ∧ ∀ k ∈ l, ∃ j, Instr.findNow (.int .i64) (kv k) arr.toList 0 = some (some (j, .int .i64 (posI l k)))
def mapL (l : List Int) : AV := .ext (MapL l)
section
variable {E : World} {P : Program} {env : AEnv} {O O' O'' : OL} {d ty : Nat} {pos : String} {af : Array Edge} {x y : Operand} {t u kt T : TypeId}
theorem Gv.lookupL {k : Int} {l : List Int} (hk0 : k ∈ l) (ht : P.underlying t = some (.map kt u)) (hk : P.underlying kt = some (.int .i64)) (hx : aev env x = mapL l) (hy : aev env y = .int .i64 k) :
  Gv P env O (Oper.mk (some d) (.lookup t x y false) ty pos af none) (.int .i64 (posI l k)) := fun I L E ρ h1 hL => by
 have hx2 := h1.ev x
 rw [hx] at hx2
 obtain ⟨_, hp⟩ := hx2
 have hy := evI h1 hy
 obtain ⟨b, arr, clock, ev, hJ, hf⟩ := hp I.k (Ghost.le.refl _)
 obtain ⟨j, hj⟩ := hf k hk0
 refine ⟨.int .i64 (posI l k), Z, fun w J L' hl hS hin => ?_⟩
 have hb : w.heap[b]? = some (.map arr clock) := hS.pers _ _ (hl _ _ hJ)
 have hc : (Instr.checkKey arr.isEmpty 10000 kt (kv k)).run P w = .ok () w := MapKept.run_checkKey (k := kv k) hk (kv_key k) _ 9999
 simp only [kv] at hc hj
 simp [execOp, Instr.lookup, run_underlying ht, ev, hy, MapKept.run_getObj_map hb, hc, MapKept.run_findKey hk hj, Result.andThen]
theorem GStep.knowMap {o off m b : Nat} {cs : List AV} {l : List Int} {es : List (Int × AV)} (hO : Pick O m (mapAO b es) O') (hP : Put O' o (.cells T cs) (.cells T (cs.set off (mapL l))) O'') (hc : cs[off]? = some (mref b)) (hM : MapOf l es) : GStep E env O env O'' := fun I F ρ w h1 ⟨ht, L, hL, hS⟩ => by
 obtain ⟨A, B, hp, ⟨arr, clock, rfl, he⟩, hB⟩ := hO.rep hL
 have hS' : SL I.k ((b, .map arr clock) :: (B ++ F)) E w := hS.perm ((hp.append_right F).symm)
 obtain ⟨hl, hS3⟩ := SL.freeze hS'
 obtain ⟨J, hJ⟩ : ∃ J : G, (⟨I.k.put b (.map arr clock), I.h⟩ : G) = J := ⟨_, rfl⟩
 have hle : I.le J := by rw [← hJ]; exact ⟨hl, fun _ _ h => h⟩
 have hJk : J.k = I.k.put b (.map arr clock) := by rw [← hJ]
 rw [← hJk] at hS3
 obtain ⟨L', h3, h4⟩ := Put.same (F := F) (E := E) (w := w) hle (.inr trivial) hP hc (fun v hv => by
  have hv : v = .map (some b) := hv
  subst hv
  refine ⟨Z, fun K hK => ⟨b, arr, clock, Z, hK _ _ (by rw [hJk]; exact Ghost.put_same _ _ _), fun k hk => ?_⟩⟩
  have hg := hM k
  rw [if_pos hk] at hg
  rcases EntR.get (k := k) 0 he with ⟨g1, g2, _⟩ | ⟨j, e0, v, x1, g1, _, _, g4, g5, _⟩
  ·rw [hg] at g2; cases g2
  ·rw [hg] at g4
   cases g4
   have g5 : v = .int .i64 (posI l k) := g5
   rw [g5] at g1
   exact ⟨_, g1⟩) hB
 exact ⟨J, hle, h1.mono hle, by rw [← hJ]; exact ht, L', h3, hS3.perm (h4.symm.append_right F)⟩
end
variable {E : World}
theorem allF_spec (l vs : List Int) (hl : vs.length ≤ 1000000) (hv : ∀ v ∈ vs, v ∈ l) :
  AFun prog E 19 [.pf [.fro 1 (l.map encI), mapL l], .fro 1 (vs.map encI)] (.fro 1 ((vs.map (posI l)).map encI)) := by
 refine zk func19 Z (by decide) Z<|zSr<|zVzAr Z<|z6<|zSr<|zVzAr Z<|z6<|zb<|zSr<|zVzMf Z<|zVGvlenM j9 Z<|zVzMi Z<|z6<|adopt_wp (t := 5) (k := 1) (T := 3) Z<|fun i5 => zg<|y3 (γ := Nat × Nat) [0, 8, 9] (fun g => [(10, .int .i64 g.1), (5, .own g.2 g.1)]) (fun g => [(g.2, .grow 1 3 (cI ((vs.take g.1).map (posI l))))]) (fun g => g.1 ≤ vs.length) (fun g => vs.length - g.1) (0, i5) zR2 zLe (qg _) ?_
 rintro ⟨k, i⟩ hk
 try dsimp only at *
 refine zSr<|zVGvlss Z Z<|z6<|zb<|zr Z (fun ck=>?_) (fun ck=>?_)
 ·have hk2 : k < vs.length := by omega
  obtain ⟨v, hv1⟩ : ∃ v, vs[k] = v := ⟨_, rfl⟩
  have hvl : v ∈ l := hv v (hv1 ▸ qh hk2)
  have hpush : cI ((vs.take k).map (posI l)) ++ [AV.int .i64 (posI l v)] = cI ((vs.take (k + 1)).map (posI l)) := by
   rw [qe hk2, qo, ← cI_app, hv1]; rfl
  refine zf<|zb<|zg<|zSr<|z8 (zIM k j9 jd Z Z Z (show vs[k]? = some v by rw [qd hk2, hv1]))<|zVzLi jr Z<|zVzAi Z<|z6<|zRg<|zVzMo Z<|z8 (zMg Z)<|z8 (Gv.nilCheckF Z)<|zVzFF Y4 Z sizeOf55 Z Z<|z8 (ya (c := mapL l) isAgg55 Z)<|zVzMi Z<|z8 (Gv.lookupL hvl X2 Zg Z Z)<|zl (rows := [[_]]) ps23_1 Z Z Z Z Z<|zy (k := 1) j9 Yx Z Z Z Z Z (fun _ => .head) (by rw [cI_len, qk, qp]; omega) (by decide) Z (by show (_ + _) * 8 ≤ _; simp <;> omega) (by simp <;> omega)<|fun i22 => zVzAo Z<|z6<|zRg<|zVzAd Z Z<|zVzMi Z<|z6 ?_
  exact ⟨(k + 1, i22), zR3, zR2, ⟨_, (.refl _), by rw [← hpush]; rfl⟩, hk2, by dsimp only; omega⟩
 ·obtain rfl : k = vs.length := by omega
  rw [qi]
  refine zt (GStep.knowI (t := 5) Z .head (by rw [qk]))<|y2<|zSr<|zVzMf Z<|z8 (zAf Z)<|z6<|ze<|zi (x := .fro _ _) Z ?_
  rfl
end Go.Proofs.YtbkgklpihnfnjaaGreatDoor
namespace Go.Proofs.YtbkgklpihnfnjaaGreatDoor
open Go.Proofs.Tryz
open Go.Proofs
end Go.Proofs.YtbkgklpihnfnjaaGreatDoor
namespace Go.Proofs.YtbkgklpihnfnjaaGreatDoor
open Go.Proofs.Tryz
open Go.Proofs
end Go.Proofs.YtbkgklpihnfnjaaGreatDoor
namespace Go.Proofs.YtbkgklpihnfnjaaGreatDoor
open Go.Proofs.Tryz
def bag (X : OL) : AObj := .heapG (fun I L => ∃ L', RepOs I X L' ∧ L.Perm L') fun I J L h hp => by obtain ⟨L', h1, h2⟩ := hp; exact ⟨L', h1.mono h, h2⟩
section
variable {E : World} {env : AEnv} {O O1 O' : OL} {m i : Nat} {o : AObj} {X X' : OL}
theorem GStep.bagNew : GStep E env O env ((0, bag []) :: O) := fun I F ρ w h1 ⟨ht, L, hL, hS⟩ => ⟨I, .refl _, h1, ht, L, ⟨[], L, rfl, ⟨[], rfl, .refl _⟩, hL⟩, hS⟩
theorem GStep.bagOut (hX : X.Perm ((i, o) :: X')) (hO : Put O m (bag X) (bag X') O') : GStep E env O env ((i, o) :: O') := fun I F ρ w h1 ⟨ht, L, hL, hS⟩ => by
 obtain ⟨A, B, hp, ⟨L', hA, hpA⟩, hback⟩ := hO.rep hL
 obtain ⟨L2, h2, h3⟩ := hA.perm hX
 obtain ⟨C, D, rfl, h4, h5⟩ := h2
 obtain ⟨L3, h6, h7⟩ := hback (qa I) (A' := D) ⟨D, h5, .refl _⟩
 refine ⟨I, .refl _, h1, ht, C ++ L3, ⟨C, L3, Z, h4, h6⟩, hS.perm (List.Perm.append_right F ?_)⟩
 refine (h7.append_left C).trans ?_
 rw [← qf]
 exact (((hpA.trans h3).append_right B).symm).trans hp.symm
theorem GStep.bagIn (hP : Pick O i o O1) (hX : ((i, o) :: X).Perm X') (hO : Put O1 m (bag X) (bag X') O') : GStep E env O env O' := fun I F ρ w h1 ⟨ht, L, hL, hS⟩ => by
 obtain ⟨A, B, hp, hA, hB⟩ := hP.rep hL
 obtain ⟨A2, B2, hp2, ⟨L', h3, h4⟩, hback⟩ := hO.rep hB
 obtain ⟨L4, h5, h6⟩ := (show RepOs I ((i, o) :: X) (A ++ L') from ⟨A, L', rfl, hA, h3⟩).perm hX
 obtain ⟨L5, h7, h8⟩ := hback (qa I) (A' := A ++ A2) ⟨L4, h5, (h4.append_left A).trans h6⟩
 refine ⟨I, .refl _, h1, ht, L5, h7, hS.perm (List.Perm.append_right F ?_)⟩
 refine h8.trans ?_
 rw [qf]
 exact ((hp2.append_left A).symm).trans hp.symm
end
section
variable {E : World} {env : AEnv} {O O1 O' : OL} {m i k : Nat} {T : TypeId} {cs cs' : List AV} {X : OL}
end
end Go.Proofs.YtbkgklpihnfnjaaGreatDoor
namespace Go.Proofs.YtbkgklpihnfnjaaGreatDoor
open Go.Proofs.Tryz
open Go.Proofs Go.Lib Go.Shelf Go.RowKit
set_option maxRecDepth 20000
variable {E : World}
theorem zip_push {α β γ : Type} (g : α → β → γ) {xs : List α} {ys : List β} {k : Nat} (a : α) (h : xs.length = k) (hk : k < ys.length) : List.zipWith g (xs ++ [a]) (ys.take (k + 1)) = List.zipWith g xs (ys.take k) ++ [g a ys[k]] := by
 rw [qe hk, List.zipWith_append (by rw [qp]; omega)]; rfl
end Go.Proofs.YtbkgklpihnfnjaaGreatDoor
namespace Go.Proofs.YtbkgklpihnfnjaaGreatDoor
open Go.Proofs.Tryz
open Go.Proofs Go.Lib Go.Shelf Go.RowKit
set_option maxRecDepth 20000
variable {E : World}
def blkP (i : Nat) (b : PBlock) : List AV := [.str b.name, .own i b.phis.length, .fro 4 (b.insts.map encInst), .int .i64 b.term.kind, .int .i64 b.term.var, .int .i64 b.term.to0, .int .i64 b.term.to1]
def blkPs (ids : List Nat) (bs : List PBlock) : List AV := (List.zipWith blkP ids bs).flatten
def phiO (i : Nat) (b : PBlock) : Nat × AObj := (i, .grow 3 60 (b.phis.map encPhi).flatten)
def bagPs (ids : List Nat) (bs : List PBlock) : OL := List.zipWith phiO ids bs
theorem blkPs_push {ids : List Nat} {bs : List PBlock} {k : Nat} (a : Nat) (h : ids.length = k) (hk : k < bs.length) : blkPs ids (bs.take k) ++ [blkP a bs[k]].flatten = blkPs (ids ++ [a]) (bs.take (k + 1)) := by
 unfold blkPs; rw [zip_push blkP a h hk, List.flatten_append]
theorem bagPs_push {ids : List Nat} {bs : List PBlock} {k : Nat} (a : Nat) (h : ids.length = k) (hk : k < bs.length) : (phiO a bs[k] :: bagPs ids (bs.take k)).Perm (bagPs (ids ++ [a]) (bs.take (k + 1))) := by
 unfold bagPs; rw [zip_push phiO a h hk]; exact (List.perm_append_comm (l₁ := [_]))
theorem blkPs_cons (i : Nat) (ids : List Nat) (b : PBlock) (bs : List PBlock) : blkPs (i :: ids) (b :: bs) = blkP i b ++ blkPs ids bs := by unfold blkPs; rw [List.zipWith_cons_cons, List.flatten_cons]
theorem blkPs_len : ∀ {ids : List Nat} {bs : List PBlock}, ids.length = bs.length → (blkPs ids bs).length = bs.length * 7
 | [], [], _ => rfl
 | i :: ids, b :: bs, h => by
  have := blkPs_len (ids := ids) (bs := bs) (by simpa using h)
  rw [blkPs_cons, qj, this, List.length_cons, Nat.add_mul]
  show 7 + _ = _
  omega
theorem blkPs_row : ∀ {ids : List Nat} {bs : List PBlock} {p i : Nat} {b : PBlock}, ids[p]? = some i → bs[p]? = some b → ((blkPs ids bs).drop (p * 7)).take 7 = blkP i b
 | [], _, p, _, _, h, _ => by simp at h
 | _ :: _, [], p, _, _, _, h => by simp at h
 | j :: ids, c :: bs, 0, i, b, h1, h2 => by
  simp at h1 h2
  subst h1 h2
  rw [blkPs_cons]; rfl
 | j :: ids, c :: bs, p + 1, i, b, h1, h2 => by
  have h := blkPs_row (ids := ids) (bs := bs) (p := p) (i := i) (b := b) (by simpa using h1) (by simpa using h2)
  rw [blkPs_cons, show (p + 1) * 7 = (p * 7) + 7 by omega]
  exact h
set_option maxHeartbeats 4000000 in
theorem copyP_own (f : PFunc) (hf : small f) : ACall prog E 34 [.agg (encF f)] [] (fun x O' => ∃ g : Nat × List Nat, x = .agg [.fro 2 (f.vars.map encVar), .fro 1 (f.params.map encI), .own g.1 f.blocks.length] ∧ O' = [(g.1, .grow 7 49 (blkPs g.2 f.blocks)), (0, bag (bagPs g.2 f.blocks))] ∧ g.2.length = f.blocks.length) := by
 refine ACall.exact (γ := Nat × List Nat) (x := fun g => .agg [.fro 2 (f.vars.map encVar), .fro 1 (f.params.map encI), .own g.1 f.blocks.length]) (M := fun g => [(g.1, .grow 7 49 (blkPs g.2 f.blocks)), (0, bag (bagPs g.2 f.blocks))]) (p := fun g => g.2.length = f.blocks.length) ?_
 obtain ⟨hf1, hf2, hf3, hf4, hf5⟩ := hf
 refine zk func34 Z (by decide) Z<|zSr<|y6 (cs := _) Z Z Z<|zq (cs := [.raw (.slice none 0 0), .raw (.slice none 0 0), .raw (.slice none 0 0)]) Zh Z Z<|fun i2 => z6<|zb<|yn (γ := Nat) [1, 2] (fun i => [(3, .po i 0)]) (fun i => [(i, .cells 26 [.fro 2 (f.vars.map encVar), .fro 1 (f.params.map encI), .raw (.slice none 0 0)]), (i2, .cells 26 [.raw (.slice none 0 0), .raw (.slice none 0 0), .raw (.slice none 0 0)])]) (fun i => True) ?_ (fun _ _ h => h) ?_
 ·refine zw (fun j => Nat.beq j 8) (by kernel_rfl) Z (zu (.rest _))<|zTk 0 Z (zFF jc Z Z9 Z Z)<|zTk 1 Z (zLf Zn Z)<|zTk 3 Z (zFF jc Z jn Z Z)<|zTk 4 Z (zLf jz Z)<|yy (i := 2) (j := 7) Z Z (by kernel_rfl) ?_ ?_
  ·refine zd (cloneV_spec _ (by omega)) Z<|z6<|yy (i := 5) (j := 7) Z Z (by kernel_rfl) ?_ ?_
   ·refine zd (cloneI_spec _ (by omega)) Z<|z6<|zTk 6 Z (y4 (cps := [(0, [_]), (1, [_])]) (rs := [_, _, .raw (.slice none 0 0)]) pl26 Z Z Z)<|zOn 7 Z<|zq (cs := [.raw (.slice none 0 0), .raw (.slice none 0 0), .raw (.slice none 0 0)]) Zh Z Z<|fun i3 => z6<|yb<|y7 (i := 8) Z (by kernel_rfl) (by kernel_rfl)<|zm jj Z Z Z Z Z Z .head Z<|z6<|yf (by kernel_rfl) ?_
    exact ⟨i3, zR2, zR1, zLe, trivial⟩
   ·refine zq (cs := [.raw (.slice none 0 0), .raw (.slice none 0 0), .raw (.slice none 0 0)]) Zh Z Z<|fun i3 => z6<|zOn 5 Z<|zd (cloneI_spec _ (by omega)) Z<|z6<|zTk 6 Z (y4 (cps := [(0, [_]), (1, [_])]) (rs := [_, _, .raw (.slice none 0 0)]) pl26 Z Z Z)<|yb<|y7 (i := 8) Z (by kernel_rfl) (by kernel_rfl)<|zm jj Z Z Z Z Z Z .head Z<|z6<|yf (by kernel_rfl) ?_
    exact ⟨i3, zR2, zR1, zLe, trivial⟩
  ·refine zq (cs := [.raw (.slice none 0 0), .raw (.slice none 0 0), .raw (.slice none 0 0)]) Zh Z Z<|fun i3 => z6<|zOn 2 Z<|zd (cloneV_spec _ (by omega)) Z<|z6<|zOn 5 Z<|zd (cloneI_spec _ (by omega)) Z<|z6<|zTk 6 Z (y4 (cps := [(0, [_]), (1, [_])]) (rs := [_, _, .raw (.slice none 0 0)]) pl26 Z Z Z)<|yb<|y7 (i := 8) Z (by kernel_rfl) (by kernel_rfl)<|zm jj Z Z Z Z Z Z .head Z<|z6<|yf (by kernel_rfl) ?_
   exact ⟨i3, zR2, zR1, zLe, trivial⟩
 ·rintro i3 _
  refine zb<|zSr<|zVzFF jc Z Z2 Z Z<|zVzLf Ze Z<|zVGvlenM jo Z<|zVzMi Z<|z6<|adoptC_wp (off := 2) (k := 7) (T := 49) (fun _ => .head) Z<|fun ib => zt GStep.bagNew<|zt (zn (zp .t1))<|zg<|y3 (γ := Nat × Nat × List Nat) [2, 3, 19, 20] (fun g => [(21, .int .i64 g.1)]) (fun g => [(g.2.1, .grow 7 49 (blkPs g.2.2 (f.blocks.take g.1))), (0, bag (bagPs g.2.2 (f.blocks.take g.1))), (i3, .cells 26 [.fro 2 (f.vars.map encVar), .fro 1 (f.params.map encI), .own g.2.1 g.1]), (i2, .cells 26 [.raw (.slice none 0 0), .raw (.slice none 0 0), .raw (.slice none 0 0)])]) (fun g => g.1 ≤ f.blocks.length ∧ g.2.2.length = g.1) (fun g => f.blocks.length - g.1) (0, ib, []) zR1 zLe (⟨qg _, Z⟩) ?_
  rintro ⟨k, ib, ids⟩ ⟨hk, hids⟩
  try dsimp only at *
  refine zSr<|zVGvlss Z Z<|z6<|zb<|zr Z (fun ck=>?_) (fun ck=>?_)
  ·have hk2 : k < f.blocks.length := by omega
   obtain ⟨hb0, hb1, hb2, hb3, hb4⟩ := hf5 _ (qh hk2)
   refine zf<|zb<|zg<|zSr<|z8 (yi jo jt Z Z Z (qd (by omega)))<|zVGvloadWF Zq jt Z Z<|zq (cs := [.str ⟨#[]⟩, .raw (.slice none 0 0), .raw (.slice none 0 0), .int .i64 0, .int .i64 0, .int .i64 0, .int .i64 0]) Zb Z Z<|fun i5 => zm jt Z Z Z Z Z Z .head Z<|z6<|zSr<|z8 (zc ja Z jx (by decide) Z Z)<|z8 (zj (c := .str _) Z5 Z ⟨_, .head⟩ Z)<|z8 (zc ja Z Z4 (by decide) Z Z)<|z8 (Gv.loadAC (l := [_, _, _, _]) Ym Z4 Z ⟨_, .head⟩ Z Z)<|z8 (y4 (cps := [(0, [_]), (3, [_, _, _, _])]) (rs := [_, .raw (.slice none 0 0), .raw (.slice none 0 0), _, _, _, _]) pl49 Z Z Z)<|zq (cs := [.str ⟨#[]⟩, .raw (.slice none 0 0), .raw (.slice none 0 0), .int .i64 0, .int .i64 0, .int .i64 0, .int .i64 0]) Zb Z Z<|fun i6 => zm jt Z Z Z Z Z Z .head Z<|z6<|zb<|zSr<|z8 (zc ja Z Za (by decide) Z Z)<|z8 (zj (c := .fro _ _) Zu Z ⟨_, .t1⟩ Z)<|zVGvlenM jw Z<|zVzMi Z<|z6<|adoptC_wp (off := 1) (k := 3) (T := 60) (fun _ => .head) Z<|fun ip => zt (zn (zp .t1))<|zg<|y3 (γ := Nat × Nat) [2, 3, 5, 6, 19, 20, 21, 31, 32] (fun g => [(33, .int .i64 g.1)]) (fun g => [(i6, .cells 49 [.str f.blocks[k].name, .own g.2 g.1, .raw (.slice none 0 0), .int .i64 f.blocks[k].term.kind, .int .i64 f.blocks[k].term.var, .int .i64 f.blocks[k].term.to0, .int .i64 f.blocks[k].term.to1]), (g.2, .grow 3 60 ((f.blocks[k].phis.take g.1).map encPhi).flatten), (i5, .cells 49 (encBlk f.blocks[k])), (ib, .grow 7 49 (blkPs ids (f.blocks.take k))), (0, bag (bagPs ids (f.blocks.take k))), (i3, .cells 26 [.fro 2 (f.vars.map encVar), .fro 1 (f.params.map encI), .own ib k]), (i2, .cells 26 [.raw (.slice none 0 0), .raw (.slice none 0 0), .raw (.slice none 0 0)])]) (fun g => g.1 ≤ f.blocks[k].phis.length) (fun g => f.blocks[k].phis.length - g.1) (0, ip) zR1 zLe (qg _) ?_
   rintro ⟨m, ip⟩ hm
   try dsimp only at *
   refine zSr<|zVGvlss Z Z<|z6<|zb<|zr Z (fun cm=>?_) (fun cm=>?_)
   ·have hm2 : m < f.blocks[k].phis.length := by omega
    obtain ⟨hp1, hp2⟩ := hb3 _ (qh hm2)
    refine zf<|zb<|zg<|zSr<|z8 (yi jw Z0 Z Z Z (qd (by omega)))<|zVGvloadWF Zv Z0 Z Z<|zq (cs := [.int .i64 0, .raw (.slice none 0 0), .raw (.slice none 0 0)]) Zk Z Z<|fun i8 => zm Z0 Z Z Z Z Z Z .head Z<|z6<|zw (fun j => Nat.beq j 14) (by kernel_rfl) Z (zu (.r (.r (.rest _))))<|zTk 0 Z (zc ja Z Za (by decide) Z Z)<|zTk 1 Z (zj (c := .own _ _) Zu Z ⟨_, .t1⟩ Z)<|zTk 2 Z (zc jm Z jd (by decide) Z Z)<|zTk 3 Z (zj (c := .int _ _) jr Z ⟨_, .head⟩ Z)<|zTk 4 Z (zc jm Z jn (by decide) Z Z)<|zTk 5 Z (zj (c := .fro _ _) jz Z ⟨_, .head⟩ Z)<|zTk 7 Z (zc jm Z jn (by decide) Z Z)<|zTk 8 Z (zj (c := .fro _ _) jz Z ⟨_, .head⟩ Z)<|zOn 6 Z<|zd (cloneI_spec _ (by omega)) Z<|z6<|zOn 9 Z<|zd (cloneI_spec _ (by omega)) Z<|z6<|zTk 10 Z (y4 (cps := [(0, [_]), (1, [_]), (2, [_])]) (rs := [_, _, _]) pl60 Z Z Z)<|zOn 11 Z<|zl (rows := [[_, _, _]]) ps47_1 Z Z Z Z Z<|z6<|zOn 12 Z<|zy (k := 3) jw type60 Z Z Z Z Z (fun _ => .head) (by rw [grow_len (k := 3) (fun _ => rfl), qp, Nat.min_eq_left hm]) (by decide) Z (by show (_ + _) * 56 ≤ _; simp <;> omega) (by simp <;> omega)<|fun i49 => z6<|zTk 13 Z (zc ja Z Za (by decide) Z Z)<|yb<|y7 (i := 14) Z (by kernel_rfl) (by kernel_rfl)<|y5 (l := [_]) (new := [_, _, _, _, _, _, _]) Za Z Z Z Z Z Z .t1 Z Z<|z6<|yf (by kernel_rfl)<|zRg<|zVzAd Z Z ?_
    refine zVzMi Z<|z6 ?_
    exact ⟨(m + 1, i49), zR9, zR1, ⟨_, (.drop (.refl _)), by rw [← grow_push (qe hm2)]; rfl⟩, hm2, by dsimp only; omega⟩
   ·obtain rfl : m = f.blocks[k].phis.length := by omega
    refine y2<|zb<|zSr<|z8 (zc ja Z Zi (by decide) Z Z)<|z8 (zj (c := .fro _ _) Y1 Z ⟨_, .t2⟩ Z)<|zVGvlenM Z1 Z<|zVzMi Z<|z6<|adoptC_wp (off := 2) (k := 4) (T := 41) (fun _ => .head) Z<|fun ii => zg<|y3 (γ := Nat × Nat) [2, 3, 6, 19, 20, 21, 53, 54] (fun g => [(55, .int .i64 g.1)]) (fun g => [(g.2, .grow 4 41 ((f.blocks[k].insts.take g.1).map encInst).flatten), (i6, .cells 49 [.str f.blocks[k].name, .own ip f.blocks[k].phis.length, .own g.2 g.1, .int .i64 f.blocks[k].term.kind, .int .i64 f.blocks[k].term.var, .int .i64 f.blocks[k].term.to0, .int .i64 f.blocks[k].term.to1]), (ip, .grow 3 60 (f.blocks[k].phis.map encPhi).flatten), (i5, .cells 49 (encBlk f.blocks[k])), (ib, .grow 7 49 (blkPs ids (f.blocks.take k))), (0, bag (bagPs ids (f.blocks.take k))), (i3, .cells 26 [.fro 2 (f.vars.map encVar), .fro 1 (f.params.map encI), .own ib k]), (i2, .cells 26 [.raw (.slice none 0 0), .raw (.slice none 0 0), .raw (.slice none 0 0)])]) (fun g => g.1 ≤ f.blocks[k].insts.length) (fun g => f.blocks[k].insts.length - g.1) (0, ii) zR1 ⟨_, (.refl _), by rw [qi]; rfl⟩ (qg _) ?_
    rintro ⟨m, ii⟩ hm
    try dsimp only at *
    refine zSr<|zVGvlss Z Z<|z6<|zb<|zr Z (fun cm=>?_) (fun cm=>?_)
    ·have hm2 : m < f.blocks[k].insts.length := by omega
     have hp1 := hb4 _ (qh hm2)
     refine zf<|zb<|zg<|zSr<|z8 (yi Z1 Z7 Z Z Z (qd (by omega)))<|zVGvloadWF Y3 Z7 Z Z<|zq (cs := [.int .i64 0, .int .i64 0, .raw (.slice none 0 0), .int .i64 0]) Zt Z Z<|fun i10 => zm Z7 Z Z Z Z Z Z .head Z<|z6<|zSr<|z8 (zc jk Z jn (by decide) Z Z)<|z8 (zj (c := .fro _ _) jz Z ⟨_, .head⟩ Z)<|zd (cloneI_spec _ (by omega)) Z<|z8 (zc jk Z jn (by decide) Z Z)<|y5 (l := [_]) (new := [_, _, _, _]) jn Z Z Z Z Z Z .head Z Z<|z6<|zRg<|z8 (zc ja Z Zi (by decide) Z Z)<|z8 (zj (c := .own _ _) Y1 Z ⟨_, .t2⟩ Z)<|z8 (yg Y3 Z7 Z ⟨_, .head⟩ Z)<|zl (rows := [[_, _, _, _]]) ps42_1 Z Z Z Z Z<|zy (k := 4) Z1 type41 Z Z Z Z Z (fun _ => .t1) (by rw [grow_len (k := 4) (fun _ => rfl), qp, Nat.min_eq_left hm]) (by decide) Z (by show (_ + _) * 48 ≤ _; simp <;> omega) (by simp <;> omega)<|fun i67 => z8 (zc ja Z Zi (by decide) Z Z)<|y5 (l := [_]) (new := [_, _, _, _, _, _, _]) Zi Z Z Z Z Z Z .t2 Z Z<|z6<|zRg<|zVzAd Z Z<|zVzMi Z<|z6 ?_
     exact ⟨(m + 1, i67), zR8, zR1, ⟨_, (.drop (.refl _)), by rw [← grow_push (qe hm2)]; rfl⟩, hm2, by dsimp only; omega⟩
    ·obtain rfl : m = f.blocks[k].insts.length := by omega
     rw [qi]
     refine y2<|zt (ym (off := 2) (rows := f.blocks[k].insts.map encInst) .head .head Z (by simp [encI, encVar, encPhi, encInst, encBlk]) (by decide) (by simp))<|zRg<|z8 (zc jc Z Z2 (by decide) Z Z)<|z8 (zj (c := .own _ _) Ze Z ⟨_, .t5⟩ Z)<|z8 (yg Zq jt Z ⟨_, .head⟩ Z)<|zl (rows := [[_, _, _, _, _, _, _]]) ps24_1 Z Z Z Z Z<|zy (k := 7) jo type49 Z Z Z Z Z (fun _ => .t3) (by rw [blkPs_len (by rw [qp]; omega), qp, Nat.min_eq_left hk]) (by decide) Z (by show (_ + _) * 96 ≤ _; simp <;> omega) (by simp <;> omega)<|fun i74 => z8 (zc jc Z Z2 (by decide) Z Z)<|y5 (l := [_]) (new := [_, _, _]) Z2 Z Z Z Z Z Z .t5 Z Z<|z6<|zt (GStep.bagIn (X' := bagPs (ids ++ [ip]) (f.blocks.take (k + 1))) .t1 (bagPs_push ip hids hk2) .t3)<|zRg<|zVzAd Z Z<|zVzMi Z<|z6 ?_
     exact ⟨(k + 1, i74, ids ++ [ip]), zR4, zR1, ⟨_, (.drop (.drop (.refl _))), by rw [← blkPs_push ip hids hk2]; rfl⟩, ⟨hk2, by simp [hids]⟩, by dsimp only; omega⟩
  ·obtain rfl : k = f.blocks.length := by omega
   rw [qi]
   refine y2<|zSr<|z8 (yg ju jj Z ⟨_, .t2⟩ Z)<|zm jj Z Z Z Z Z Z .t3 Z<|z6<|ze<|afin.c1 Z ⟨_, .t3⟩ ju jj Z ?_
   exact ⟨(ib, ids), rfl, ⟨_, .keep (.keep (.drop (.drop (.refl _)))), rfl⟩, hids⟩
end Go.Proofs.YtbkgklpihnfnjaaGreatDoor
namespace Go.Proofs.YtbkgklpihnfnjaaGreatDoor
open Go.Proofs.Tryz
open Go.Proofs Go.Lib Go.Shelf Go.RowKit
variable {E : World}
set_option maxRecDepth 20000
def cntR (f : PFunc) (k : Nat) : Nat := ((List.range k).filter fun (b : Nat) => decide ((b : Int) ∈ ord f)).length
theorem cntR_succ (f : PFunc) (k : Nat) : cntR f (k + 1) = cntR f k + if (k : Int) ∈ ord f then 1 else 0 := by
 unfold cntR
 rw [List.range_succ, List.filter_append, qj, List.filter_cons]
 congr 1
 by_cases h : (k : Int) ∈ ord f
 ·rw [if_pos h, if_pos (qq h)]; rfl
 ·rw [if_neg h, if_neg (by simpa using h)]; rfl
theorem cntR_le (f : PFunc) (k : Nat) : cntR f k ≤ k := by unfold cntR; refine Nat.le_trans (List.length_filter_le _ _) ?_; rw [List.length_range]; omega
theorem rl_cnt {f : PFunc} (hE : EndsOk f) {k : Nat} (h : (k : Int) ∈ ord f) : (rlL f)[cntR f k]? = some k := by
 have hk := order_rng hE.grph.toEOk h
 obtain ⟨d, hd⟩ : ∃ d, f.blocks.length = k + (d + 1) := ⟨f.blocks.length - k - 1, by omega⟩
 unfold rlL cntR
 rw [hd, List.range_add, List.filter_append, List.getElem?_append_right (Nat.le_refl _), Nat.sub_self, List.range_succ_eq_map, List.map_cons, List.filter_cons, if_pos (by simpa using h)]; rfl
theorem nmb_cnt {f : PFunc} (hE : EndsOk f) (k : Nat) : nmb f k = if (k : Int) ∈ ord f then (cntR f k : Int) else -1 := by
 by_cases h : (k : Int) ∈ ord f
 ·rw [if_pos h]; exact nmb_row hE (rl_cnt hE h)
 ·rw [if_neg h]; unfold nmb; rw [if_neg h]
def numL (f : PFunc) (k : Nat) : List Int := (List.range f.blocks.length).map fun (b : Nat) => if b < k then nmb f b else 0
theorem numL_len (f : PFunc) (k : Nat) : (numL f k).length = f.blocks.length := by unfold numL; simp
theorem numL_zero (f : PFunc) : numL f 0 = List.replicate f.blocks.length 0 := by
 apply List.ext_getElem
 ·simp [numL]
 ·intro i h1 h2; simp [numL]
theorem numL_idx {f : PFunc} {k i : Nat} (h : i < (numL f k).length) : (numL f k)[i] = if i < k then nmb f i else 0 := by
 simp [numL]
theorem numL_set {f : PFunc} {k : Nat} (h : k < f.blocks.length) : (numL f k).set k (nmb f k) = numL f (k + 1) := by
 apply List.ext_getElem
 ·simp [numL]
 ·intro i h1 h2
  rw [List.getElem_set, numL_idx, numL_idx]
  by_cases e : k = i
  ·subst e; rw [if_pos rfl, if_pos (by omega)]
  ·rw [if_neg e]
   by_cases hl : i < k
   ·rw [if_pos hl, if_pos (by omega)]
   ·rw [if_neg hl, if_neg (by omega)]
theorem numL_get {f : PFunc} {b : Int} (h0 : 0 ≤ b) (h1 : b < f.blocks.length) : (numL f f.blocks.length)[b.toNat]? = some (nmb f b) := by
 unfold numL
 rw [ql, List.getElem?_range (by omega)]
 show some (if b.toNat < _ then nmb f (b.toNat : Int) else 0) = _
 rw [if_pos (by omega), qt h0]
def prT (f : PFunc) (k : Nat) : List PBlock := ((List.range k).filter fun (b : Nat) => decide ((b : Int) ∈ ord f)).map fun b => pruneB (nmb f) (frL f b) (blkX f b)
theorem prT_len (f : PFunc) (k : Nat) : (prT f k).length = cntR f k := qk ..
theorem prT_succ (f : PFunc) (k : Nat) : prT f (k + 1) = prT f k ++ if (k : Int) ∈ ord f then [pruneB (nmb f) (frL f k) (blkX f k)] else [] := by
 unfold prT
 rw [List.range_succ, List.filter_append, qo, List.filter_cons]
 congr 1
 by_cases h : (k : Int) ∈ ord f
 ·rw [if_pos h, if_pos (qq h)]; rfl
 ·rw [if_neg h, if_neg (by simpa using h)]; rfl
def eT (f : PFunc) (b : PBlock) (g : Nat) : Int × Int := (if 0 < g then nmb f (((endsL b.term)[0]?).getD 0) else b.term.to0, if 1 < g then nmb f (((endsL b.term)[1]?).getD 0) else b.term.to1)
def phT (f : PFunc) (k : Nat) (b : PBlock) (m : Nat) : List PPhi := (b.phis.take m).map (pruneP (nmb f) (frL f k)) ++ b.phis.drop m
theorem eT_same {f : PFunc} {b : PBlock} (h1 : b.term.kind = 1) (h2 : b.term.to0 = b.term.to1) : (⟨b.term.kind, b.term.var, (eT f b (endsL b.term).length).1, (eT f b (endsL b.term).length).1⟩ : PTerm) = trmM id (nmb f) b.term := by
 have e : endsL b.term = [b.term.to0] := by unfold endsL; rw [if_neg (by omega), if_pos h1, if_pos h2]
 unfold eT trmM
 rw [e, if_neg (show ¬ b.term.kind = 0 by omega), if_pos h1, ← h2]; rfl
theorem eT_two {f : PFunc} {b : PBlock} (h1 : b.term.kind = 1) (h2 : ¬ b.term.to0 = b.term.to1) : (⟨b.term.kind, b.term.var, (eT f b (endsL b.term).length).1, (eT f b (endsL b.term).length).2⟩ : PTerm) = trmM id (nmb f) b.term := by
 have e : endsL b.term = [b.term.to0, b.term.to1] := by unfold endsL; rw [if_neg (by omega), if_pos h1, if_neg h2]
 unfold eT trmM
 rw [e, if_neg (show ¬ b.term.kind = 0 by omega), if_pos h1]; rfl
theorem eT_one {f : PFunc} {b : PBlock} (h1 : ¬ b.term.kind = 1) : (⟨b.term.kind, b.term.var, (eT f b (endsL b.term).length).1, (eT f b (endsL b.term).length).2⟩ : PTerm) = trmM id (nmb f) b.term := by
 unfold trmM
 by_cases h0 : b.term.kind = 0
 ·have e : endsL b.term = [b.term.to0] := by unfold endsL; rw [if_pos h0]
  unfold eT
  rw [e, if_pos h0]; rfl
 ·have e : endsL b.term = [] := by unfold endsL; rw [if_neg h0, if_neg h1]
  unfold eT
  rw [e, if_neg h0, if_neg h1]; rfl
theorem phT_flat {f : PFunc} {k : Nat} {b : PBlock} {m : Nat} (hm : m < b.phis.length) : ((phT f k b m).map encPhi).flatten = (((b.phis.take m).map (pruneP (nmb f) (frL f k))).map encPhi).flatten ++ (encPhi b.phis[m] ++ ((b.phis.drop (m + 1)).map encPhi).flatten) := by
 unfold phT
 rw [List.drop_eq_getElem_cons hm, qo, List.flatten_append, List.map_cons, List.flatten_cons]
theorem phA_len {f : PFunc} {k : Nat} {b : PBlock} {m : Nat} (hm : m < b.phis.length) : ((((b.phis.take m).map (pruneP (nmb f) (frL f k))).map encPhi).flatten).length = m * 3 := by
 rw [grow_len (k := 3) (fun _ => rfl), qk, qp, Nat.min_eq_left (by omega)]
theorem phT_row {f : PFunc} {k : Nat} {b : PBlock} {m : Nat} (hm : m < b.phis.length) : ((((phT f k b m).map encPhi).flatten).drop (m * 3)).take 3 = encPhi b.phis[m] := by
 rw [phT_flat hm, List.drop_left' (phA_len hm)]
 exact List.take_left' rfl
theorem phT_set {f : PFunc} {k : Nat} {b : PBlock} {m : Nat} (hm : m < b.phis.length) : (((phT f k b m).map encPhi).flatten).take (m * 3) ++ encPhi (pruneP (nmb f) (frL f k) b.phis[m]) ++ (((phT f k b m).map encPhi).flatten).drop (m * 3 + 3) = ((phT f k b (m + 1)).map encPhi).flatten := by
 rw [phT_flat hm, List.take_left' (phA_len hm), ← List.drop_drop, List.drop_left' (phA_len hm), List.drop_left' (show (encPhi b.phis[m]).length = 3 from rfl)]
 unfold phT
 rw [qe hm]
 simp only [qo, List.map_cons, List.map_nil, List.flatten_append, List.flatten_cons, List.flatten_nil, List.append_nil, qf]
set_option maxHeartbeats 8000000 in
theorem prune_spec (f : PFunc) (hf : small f) (hL : Letters E) (ht : typedB f = true) (hJ : JoinP f) : AFun prog E 14 [.agg (encF f)] (.tup [.agg (encF (pruneF f)), .int .i64 0]) := by
 have hn := hf.2.2.1
 have hE := typedE ht
 have hS := typedS ht
 have hfr : ∀ {k : Nat}, (frL f k).length ≤ 100000 := fun {k} => by
  have h1 := List.Nodup.length_le_of_subset (l₂ := intsTo f.blocks.length) (predsT_nodup (fun b => EndsOf_nodup f b) f.blocks.length k).1 fun x hx => by
   have h2 := (mem_predsT hE.grph.toEOk hE.grph.out).1 hx
   refine mem_intsTo.2 (Classical.byContradiction fun hn=>?_)
   rw [hE.grph.out x hn] at h2; cases h2
  rw [intsTo_len] at h1
  show (predsT _ _ _).length ≤ _
  omega
 have hright := right_spec (E := E) f hf hL
 rw [ht] at hright
 have hpt := prune_typed ht hJ
 have hjo := joinedX_spec (E := E) (pruneF f) (prune_small hf) hL
 rw [hpt.1, (joinedB_iff _).2 hpt.2] at hjo
 have hjo : AFun prog E 13 [.agg (encF (pruneF f))] (.int .i64 0) := hjo
 refine zk func14 Z (by decide) Z<|zSr<|y6 (cs := _) Z Z Z<|zq (cs := [.raw (.slice none 0 0), .raw (.slice none 0 0), .raw (.slice none 0 0)]) Zh Z Z<|fun i2 => zVzAi Z<|z6<|zb<|zSr<|zVGvloadWF ju jj Z Z<|zd (hright) Z<|zVGvnot Z<|z6<|yc Z Z<|zf<|zb<|zw (fun j => false) (by kernel_rfl) Z (zu (.rest _))<|zTk 0 Z (yq ju jj Z Z)<|zTk 2 Z (yq ju jj Z Z)<|zOn 1 Z<|zd (reach_spec f hE hn) Z<|z6<|zOn 3 Z<|zd (preds_spec f hE (by omega)) Z<|z6<|zTk 4 Z (zAf Z)<|zTk 5 Z (zAf Z)<|zDn<|zSr<|zVzFF jc Z Z2 Z Z<|zVzLf Ze Z<|zVGvlenM jo Z<|AOps.makeI (m := f.blocks.length) j9 Yx Z Z Z Z Z (by simp) (by simp) (by show (8 : Int) * _ ≤ _; omega) (by omega)<|fun i27 => zVzAo Z<|zVzAi Z<|z6<|zb<|zSr<|zVzMo Z<|z8 (q7 j9 Z) ?_
 refine zVzMi Z<|z6<|zg<|y3 (γ := Nat) [1, 2, 4, 5, 6, 29] (fun g => [(30, .int .i64 g), (7, .int .i64 (cntR f g))]) (fun g => [(i27, .grow 1 3 (cI (numL f g))), (i2, .cells 26 [.raw (.slice none 0 0), .raw (.slice none 0 0), .raw (.slice none 0 0)])]) (fun g => g ≤ f.blocks.length) (fun g => f.blocks.length - g) 0 zR2 ⟨_, (.refl _), by rw [numL_zero]; rfl⟩ (qg _) ?_
 rintro k hk
 refine zSr<|zVGvlss Z Z<|z6<|zb<|zr Z (fun ck=>?_) (fun ck=>?_)
 ·have hk2 : k < f.blocks.length := by omega
  have hcl := cntR_le f k
  have hgb := reachB_get (E := EndsOf f) hE.grph.toEOk hk2
  refine zf<|zb<|zg<|zSr<|zVzMi Z<|zVzAi Z<|z6<|zSr<|zVzMo Z<|zVzMi Z<|z8 (Gv.idxI (j := k) j9 jd Z Z Z ⟨_, .head⟩ (by rw [cI_len, numL_len]) hk2)<|AOps.storeI (j := k) jd Z Z .head (by rw [numL_len]; exact hk2)<|z6<|zSr<|zVzMf Z<|zVzMi Z<|z8 (zIM k Yq Zj Z Z Z hgb)<|z8 (ya (c := .bool _) Yo Z)<|z6<|zr Z (fun cr=>?_) (fun cr=>?_)
  ·have cr : (k : Int) ∈ ord f := by first | exact cr | (have h := cr; simp at h; exact h)
   have hset : ((numL f k).set k (-1)).set k (cntR f k : Int) = numL f (k + 1) := by rw [List.set_set, ← numL_set hk2, nmb_cnt hE, if_pos cr]
   refine zSr<|zVzMo Z<|zVzMi Z<|zVzMi Z<|z8 (Gv.idxI (j := k) j9 jd Z Z Z ⟨_, .head⟩ (by rw [cI_len, List.length_set, numL_len]) hk2)<|AOps.storeI (j := k) jd Z Z .head (by rw [List.length_set, numL_len]; exact hk2)<|z6<|zRg<|zVzMi Z<|zVzAd Z Z<|zVzAi Z<|z6<|zRg<|zVzAd Z Z<|zVzMi Z<|z6 ?_
   exact ⟨k + 1, zR6, ⟨rfl, congrArg (AV.int .i64) (by rw [cntR_succ, if_pos cr]; push_cast; rfl), trivial⟩, ⟨_, (.refl _), by rw [← hset]⟩, hk2, by omega⟩
  ·have cr : ¬ (k : Int) ∈ ord f := by first | exact cr | (have h := cr; simp at h; exact h)
   have hset : (numL f k).set k (-1) = numL f (k + 1) := by rw [← numL_set hk2, nmb_cnt hE, if_neg cr]
   refine zf<|zRg<|zVzAd Z Z<|zVzMi Z<|z6 ?_
   exact ⟨k + 1, zR6, ⟨rfl, congrArg (AV.int .i64) (by rw [cntR_succ, if_neg cr]; push_cast; omega), trivial⟩, ⟨_, (.refl _), by rw [← hset]⟩, hk2, by omega⟩
 ·obtain rfl : k = f.blocks.length := by omega
  refine zt (GStep.knowI (t := 6) Z .head (numL_len f _))<|y2<|zSr<|zVGvloadWF ju jj Z Z<|zd (copyF_spec f hf) Z<|zq (cs := [.raw (.slice none 0 0), .raw (.slice none 0 0), .raw (.slice none 0 0)]) Zh Z Z<|fun i9 => zm jj Z Z Z Z Z Z .head Z<|z6<|zSr<|z8 (zc jc Z Z2 (by decide) Z Z)<|y5 (l := [_]) (new := [_, _, _]) Z2 Z Z Z Z Z Z .head Z Z<|z6<|zb<|zSr<|zVGvloadWF ju jj Z Z<|ye Z (zu (.r (.r (.rest _)))) (copyP_own f hf) ?_
  rintro r51 O51 ⟨⟨ib, ids⟩, rfl, rfl, hids⟩
  refine z8 (Gv.field1 (v := .own _ _) jc Z Ze Z Z)<|z8 (q7 jo Z)<|zVzMi Z<|z6<|adoptC_wp (off := 2) (k := 7) (T := 49) (fun _ => .t2) Z<|fun jb => zt (zn (zp .t4))<|zt (zn (zp .t3))<|zt (zn (zp .t3))<|zt (zn (zp .t3))<|zt (zn (zp .t4))<|zg<|y3 (γ := Nat × Nat) [1, 2, 4, 5, 6, 9, 52, 53] (fun g => [(54, .int .i64 g.1)]) (fun g => [(i9, .cells 26 [.fro 2 (f.vars.map encVar), .fro 1 (f.params.map encI), .own g.2 (cntR f g.1)]), (g.2, .grow 7 49 ((prT f g.1).map encBlk).flatten), (ib, .grow 7 49 (blkPs ids f.blocks)), (0, bag (bagPs (ids.drop g.1) (f.blocks.drop g.1))), (i2, .cells 26 [.raw (.slice none 0 0), .raw (.slice none 0 0), .raw (.slice none 0 0)])]) (fun g => g.1 ≤ f.blocks.length) (fun g => f.blocks.length - g.1) (0, jb) zR1 zLe (qg _) ?_
  rintro ⟨k, jb⟩ hk
  try dsimp only at *
  refine zSr<|zVGvlss Z Z<|z6<|zb<|zr Z (fun ck=>?_) (fun ck=>?_)
  ·have hk2 : k < f.blocks.length := by omega
   obtain ⟨b, hb⟩ : ∃ b, f.blocks[k] = b := ⟨_, rfl⟩
   have hgb : f.blocks[k]? = some b := by rw [qd hk2, hb]
   obtain ⟨ip, hip⟩ : ∃ ip, ids[k]? = some ip := ⟨_, qd (by omega)⟩
   have hne : blkPs ids f.blocks ≠ [] := fun h => by have := congrArg List.length h; rw [blkPs_len hids] at this; simp at this; omega
   have hout : bagPs (ids.drop k) (f.blocks.drop k) = phiO ip b :: bagPs (ids.drop (k + 1)) (f.blocks.drop (k + 1)) := by
    obtain ⟨hi1, hi2⟩ := List.getElem?_eq_some_iff.1 hip
    rw [List.drop_eq_getElem_cons hi1, List.drop_eq_getElem_cons hk2, hi2, hb]; rfl
   refine zf<|zb<|zg<|zSr<|zVzMi Z<|z8 (Gv.idxO (j := k) jo jt Z Z Z ⟨_, .t2⟩ hne hk2)<|z8 (Gv.loadAG (l := [_, _, _, _, _, _, _]) Zq jt Z ⟨_, .t2⟩ hne (by rw [blkPs_len hids]; show k * 7 + 7 ≤ _; omega) (blkPs_row hip hgb))<|zq (cs := [.str ⟨#[]⟩, .raw (.slice none 0 0), .raw (.slice none 0 0), .int .i64 0, .int .i64 0, .int .i64 0, .int .i64 0]) Zb Z Z<|fun i11 => zVzAi Z<|zm jt Z Z Z Z Z Z .head Z<|z6<|zb<|zSr<|zVzMf Z<|zVzMi Z<|z8 (zIM k Yq Zj Z Z Z (reachB_get (E := EndsOf f) hE.grph.toEOk hk2))<|z8 (ya (c := .bool _) Yo Z)<|zVGvnot Z<|z6<|zt (GStep.bagOut (i := ip) (o := .grow 3 60 (b.phis.map encPhi).flatten) (X' := bagPs (ids.drop (k + 1)) (f.blocks.drop (k + 1))) ((by rw [hout]; exact List.Perm.refl _)) .t4)<|zz Z (fun cr=>?_) (fun cr=>?_)
   ·have cr : ¬ (k : Int) ∈ ord f := by first | exact cr | (have h := cr; simp at h; exact h)
    refine zt (GStep.drop .head)<|y2<|zRg<|zVzAd Z Z<|zVzMi Z<|z6 ?_
    exact ⟨(k + 1, jb), zR8, zR1, ⟨_, (.drop (.refl _)), by rw [prT_succ, cntR_succ, if_neg cr, if_neg cr, List.append_nil]; rfl⟩, hk2, by dsimp only; omega⟩
   ·have cr : (k : Int) ∈ ord f := by first | exact cr | (have h := cr; simp at h; exact h)
    refine zf<|zb<|zSr<|z8 (zc ja Z Za (by decide) Z Z)<|z8 (zj (c := .own _ _) Zu Z ⟨_, .t1⟩ Z)<|z8 (q7 jw Z)<|zVzMi Z<|z6 ?_
    have hbk : blkX f k = b := blkX_get hgb
    obtain ⟨hb0, hb1, hb2, hb3, hb4⟩ := hf.2.2.2.2 b (hb ▸ qh hk2)
    have hphl : ∀ m, (phT f k b m).length = b.phis.length := fun m => by unfold phT; rw [qj, qk, qp, List.length_drop]; omega
    have hpcl : ∀ m, (((phT f k b m).map encPhi).flatten).length = b.phis.length * 3 := fun m => by rw [grow_len (k := 3) (fun _ => rfl), hphl]
    refine zg<|y3 (γ := Nat) [1, 2, 4, 5, 6, 9, 10, 11, 52, 53, 54, 65, 66] (fun g => [(67, .int .i64 g)]) (fun g => [(ip, .grow 3 60 ((phT f k b g).map encPhi).flatten), (i11, .cells 49 [.str b.name, .own ip b.phis.length, .fro 4 (b.insts.map encInst), .int .i64 b.term.kind, .int .i64 b.term.var, .int .i64 b.term.to0, .int .i64 b.term.to1]), (i9, .cells 26 [.fro 2 (f.vars.map encVar), .fro 1 (f.params.map encI), .own jb (cntR f k)]), (jb, .grow 7 49 ((prT f k).map encBlk).flatten), (ib, .grow 7 49 (blkPs ids f.blocks)), (0, bag (bagPs (ids.drop (k + 1)) (f.blocks.drop (k + 1)))), (i2, .cells 26 [.raw (.slice none 0 0), .raw (.slice none 0 0), .raw (.slice none 0 0)])]) (fun g => g ≤ b.phis.length) (fun g => b.phis.length - g) 0 zR1 zLe (qg _) ?_
    rintro m hm
    refine zSr<|zVGvlss Z Z<|z6<|zb<|zr Z (fun cm=>?_) (fun cm=>?_)
    ·have hm2 : m < b.phis.length := by omega
     obtain ⟨p, hp⟩ : ∃ p, b.phis[m] = p := ⟨_, rfl⟩
     have hpm : p ∈ (blkX f k).phis := by rw [hbk, ← hp]; exact qh hm2
     have hps := phi_shape hS (x := k) (by omega) (by omega) hpm
     have hpl := hb3 p (by rw [← hp]; exact qh hm2)
     have hpn : ((phT f k b m).map encPhi).flatten ≠ [] := fun h => by have := hpcl m; rw [h] at this; simp at this; omega
     have hrow : ((((phT f k b m).map encPhi).flatten).drop (m * 3)).take 3 = encPhi p := by rw [← hp]; exact phT_row hm2
     have hset : (((phT f k b m).map encPhi).flatten).take (m * 3) ++ encPhi (pruneP (nmb f) (frL f k) p) ++ (((phT f k b m).map encPhi).flatten).drop (m * 3 + 3) = ((phT f k b (m + 1)).map encPhi).flatten := by rw [← hp]; exact phT_set hm2
     have hng : ∀ c ∈ p.from_, 0 ≤ c ∧ (numL f f.blocks.length)[c.toNat]? = some (nmb f c) := fun c hc => by
      have h7 := List.all_eq_true.1 hps.2.2.2.2 c hc
      unfold hasB at h7
      simp only [qs, qu] at h7
      exact ⟨h7.1, numL_get h7.1 h7.2⟩
     refine zf<|zb<|zg<|zSr<|zVzMi Z<|z8 (Gv.idxO (j := m) jw Z0 Z Z Z ⟨_, .head⟩ hpn hm2)<|z8 (Gv.loadAG (l := [_, _, _]) Zv Z0 Z ⟨_, .head⟩ hpn (by rw [hpcl]; show m * 3 + 3 ≤ _; omega) hrow)<|zq (cs := [.int .i64 0, .raw (.slice none 0 0), .raw (.slice none 0 0)]) Zk Z Z<|fun i13 => zVzAi Z<|zm Z0 Z Z Z Z Z Z .head Z<|z6<|zw (fun j => Nat.beq j 11) (by kernel_rfl) Z (zu (.r (.l (.r (.rest _)))))<|zTk 0 Z (zc ja Z Za (by decide) Z Z)<|zTk 1 Z (zj (c := .own _ _) Zu Z ⟨_, .t1⟩ Z)<|zTk 2 Z (zMi Z)<|zTk 3 Z (yg Zv Z0 Z ⟨_, .head⟩ Z)<|zTk 4 Z (zMf Z)<|zTk 5 Z (zMi Z)<|zTk 6 Z (zIM k underlying76 jn Z Z Z (predsR_row f hk2))<|zTk 7 Z (zLf jz Z)<|zTk 8 Z (zMf Z)<|zOn 9 Z<|zd (gphi_spec p (frL f k) (numL f f.blocks.length) (nmb f) hps.2.1.symm hpl.1 hfr hng) Z<|z6<|zOn 10 Z<|z8 (Gv.idxO (j := m) jw Z0 Z Z Z ⟨_, .head⟩ hpn hm2)<|z6<|yb<|y7 (i := 11) Z (by kernel_rfl) (by kernel_rfl)<|AOps.storeG (l := [_, _, _]) (new := ((phT f k b (m + 1)).map encPhi).flatten) Z0 Z Z Z Z Z Z .t2 (by rw [hpcl]; show m * 3 + 3 ≤ _; omega) (by decide) hset<|z6<|yf (by kernel_rfl)<|zt (zn (zp .t7))<|zt (zn (zp .t7))<|zt (zn (zp .t7))<|zt (zn (zp .t7))<|zt (zn (zp .t7))<|zt (zn (zp .t6))<|zt (zn (zp .t7))<|zRg ?_
     refine zVzAd Z Z<|zVzMi Z<|z6 ?_
     exact ⟨m + 1, ⟨rfl, rfl, rfl, rfl, rfl, rfl, rfl, rfl, rfl, rfl, rfl, rfl, rfl, trivial⟩, zR1, ⟨_, (.keep (.keep (.keep (.keep (.keep (.keep (.keep (.drop (.refl _))))))))), rfl⟩, hm2, by omega⟩
    ·obtain rfl : m = b.phis.length := by omega
     have hpe : phT f k b b.phis.length = b.phis.map (pruneP (nmb f) (frL f k)) := by unfold phT; rw [qi, List.drop_length, List.append_nil]
     rw [hpe]
     have hel := endsL_len b.term
     have her := hE.rng b (hb ▸ qh hk2)
     refine zt (ym (off := 1) (rows := (b.phis.map (pruneP (nmb f) (frL f k))).map encPhi) .head .head Z (by intro r hr; obtain ⟨z, _, rfl⟩ := List.mem_map.1 hr; rfl) (by decide) (by rw [qk, qk]))<|y2<|zb<|zSr<|z8 (zc ja Z Z4 (by decide) Z Z)<|z8 (Gv.loadAC (l := [_, _, _, _]) Ym Z4 Z ⟨_, .head⟩ Z Z)<|zd (ends_spec b.term) Z<|zVGvlenM j9 Z<|zVzMi Z<|z6<|zg<|y3 (γ := Nat) [1, 2, 4, 5, 6, 9, 10, 11, 52, 53, 54, 86, 87] (fun g => [(88, .int .i64 g)]) (fun g => [(i11, .cells 49 [.str b.name, .fro 3 ((b.phis.map (pruneP (nmb f) (frL f k))).map encPhi), .fro 4 (b.insts.map encInst), .int .i64 b.term.kind, .int .i64 b.term.var, .int .i64 (eT f b g).1, .int .i64 (eT f b g).2]), (i9, .cells 26 [.fro 2 (f.vars.map encVar), .fro 1 (f.params.map encI), .own jb (cntR f k)]), (jb, .grow 7 49 ((prT f k).map encBlk).flatten), (ib, .grow 7 49 (blkPs ids f.blocks)), (0, bag (bagPs (ids.drop (k + 1)) (f.blocks.drop (k + 1)))), (i2, .cells 26 [.raw (.slice none 0 0), .raw (.slice none 0 0), .raw (.slice none 0 0)])]) (fun g => g ≤ (endsL b.term).length) (fun g => (endsL b.term).length - g) 0 zR1 zLe (qg _) ?_
     rintro j hj
     refine zSr<|zVGvlss Z Z<|z6<|zb<|zr Z (fun cj=>?_) (fun cj=>?_)
     ·have hj2 : j < (endsL b.term).length := by omega
      obtain ⟨x, hx⟩ : ∃ x, (endsL b.term)[j] = x := ⟨_, rfl⟩
      have hgx : (endsL b.term)[j]? = some x := by rw [qd hj2, hx]
      have hxr := her x (hx ▸ qh hj2)
      have hj01 : j = 0 ∨ j = 1 := by omega
      refine zf<|zb<|zg<|zSr<|zVzMi Z<|z8 (zIM j j9 jd Z Z Z hgx)<|zVzLi jr Z<|zVzAi Z<|zVzAi Z<|z6 ?_
      rcases hj01 with rfl | rfl
      ·have he1 : eT f b (0 + 1) = (nmb f x, (eT f b 0).2) := by unfold eT; rw [hgx]; rfl
       refine zRg<|zVzMi Z<|zVzMf Z<|zVzMi Z<|z8 (zIM x.toNat j9 jd Z Z (by omega) (numL_get hxr.1 hxr.2))<|zVzLi jr Z<|z8 (zc ja Z Z4 (by decide) Z Z)<|z8 (zc je Z Z8 (by decide) Z Z)<|z8 (Gv.idxAO (j := 0) jy jd Z Z Z (by decide) Z)<|y5 (l := [_]) (new := [_, _, _, _, _, _, _]) jd Z Z Z Z Z Z .head Z Z<|z6<|zRg<|zVzAd Z Z<|zVzMi Z<|z6 ?_
       exact ⟨0 + 1, ⟨rfl, rfl, rfl, rfl, rfl, rfl, rfl, rfl, rfl, rfl, rfl, rfl, rfl, trivial⟩, zR1, ⟨_, (.refl _), by rw [he1]; rfl⟩, hj2, by omega⟩
      ·have he2 : eT f b (1 + 1) = ((eT f b 1).1, nmb f x) := by unfold eT; rw [hgx]; rfl
       refine zRg<|zVzMi Z<|zVzMf Z<|zVzMi Z<|z8 (zIM x.toNat j9 jd Z Z (by omega) (numL_get hxr.1 hxr.2))<|zVzLi jr Z<|z8 (zc ja Z Z4 (by decide) Z Z)<|z8 (zc je Z Z8 (by decide) Z Z)<|z8 (Gv.idxAO (j := 1) jy jd Z Z Z (by decide) Z)<|y5 (l := [_]) (new := [_, _, _, _, _, _, _]) jd Z Z Z Z Z Z .head Z Z<|z6<|zRg<|zVzAd Z Z<|zVzMi Z<|z6 ?_
       exact ⟨1 + 1, ⟨rfl, rfl, rfl, rfl, rfl, rfl, rfl, rfl, rfl, rfl, rfl, rfl, rfl, trivial⟩, zR1, ⟨_, (.refl _), by rw [he2]; rfl⟩, hj2, by omega⟩
     ·obtain rfl : j = (endsL b.term).length := by omega
      have hpush : ∀ t0 t1 : Int, (⟨b.term.kind, b.term.var, t0, t1⟩ : PTerm) = trmM id (nmb f) b.term → ((prT f k).map encBlk).flatten ++ [AV.str b.name, .fro 3 ((b.phis.map (pruneP (nmb f) (frL f k))).map encPhi), .fro 4 (b.insts.map encInst), .int .i64 b.term.kind, .int .i64 b.term.var, .int .i64 t0, .int .i64 t1] = ((prT f (k + 1)).map encBlk).flatten := fun t0 t1 h => by
       rw [prT_succ, if_pos cr, qo, List.flatten_append, hbk]
       congr 1
       show _ = ([encBlk (pruneB (nmb f) (frL f k) b)] : List (List AV)).flatten
       unfold pruneB
       rw [← h]; rfl
      have hcl := cntR_le f k
      have hcn : cntR f (k + 1) = cntR f k + 1 := by rw [cntR_succ, if_pos cr]
      have hjl : (((prT f k).map encBlk).flatten).length = cntR f k * 7 := by rw [grow_len (k := 7) (fun _ => rfl), prT_len]
      refine y2<|zb<|zb<|zw (fun j => false) (by kernel_rfl) Z (zu (.r (.rest _)))<|zTk 0 Z (zc ja Z Z4 (by decide) Z Z)<|zTk 1 Z (zc je Z Zl (by decide) Z Z)<|zTk 2 Z (zj (c := .int _ _) Y0 Z ⟨_, .head⟩ Z)<|zTk 3 Z (Gv.eqlI Z Z)<|zTk 4 Z (zMb Z)<|qb (s := 106) Z (fun c5=>?_) (fun c5=>?_)
      ·have hk1 : b.term.kind = 1 := by simpa using c5
       refine zTt 5 Z Z Z c5 (zFF jc Z Z2 Z Z)<|zTt 6 Z Z Z c5 (zLf Ze Z)<|zTt 7 Z Z Z c5 (zMi Z)<|zTt 8 Z Z Z c5 (zIM k jo jt Z Z Z hgb)<|zTt 9 Z Z Z c5 (zFF ja Z Z4 Z Z)<|zTt 10 Z Z Z c5 (zFF je Z Z8 Z Z)<|zTt 11 Z Z Z c5 (yo (j := 0) jy jd Z Z Z (by decide) Z)<|zTt 12 Z Z Z c5 (zLi jr Z)<|zTt 13 Z Z Z c5 (zFF jc Z Z2 Z Z)<|zTt 14 Z Z Z c5 (zLf Ze Z)<|zTt 15 Z Z Z c5 (zMi Z)<|zTt 16 Z Z Z c5 (zIM k jo jt Z Z Z hgb)<|zTt 17 Z Z Z c5 (zFF ja Z Z4 Z Z)<|zTt 18 Z Z Z c5 (zFF je Z Z8 Z Z)<|zTt 19 Z Z Z c5 (yo (j := 1) jy jd Z Z Z (by decide) Z)<|zTt 20 Z Z Z c5 (zLi jr Z)<|zTt 21 Z Z Z c5 (Gv.eqlI Z Z)<|zTk 22 Z (zPt Z c5 Z)<|zDn<|zz Z (fun c6=>?_) (fun c6=>?_)
       ·refine zRg<|z8 (zc ja Z Z4 (by decide) Z Z)<|z8 (zc je Z Z8 (by decide) Z Z)<|z8 (Gv.idxAO (j := 0) jy jd Z Z Z (by decide) Z)<|z8 (zj (c := .int _ _) jr Z ⟨_, .head⟩ Z)<|z8 (zc ja Z Z4 (by decide) Z Z)<|z8 (zc je Z Z8 (by decide) Z Z)<|z8 (Gv.idxAO (j := 1) jy jd Z Z Z (by decide) Z)<|y5 (l := [_]) (new := [_, _, _, _, _, _, _]) jd Z Z Z Z Z Z .head Z Z<|z6<|zRg<|z8 (zc jc Z Z2 (by decide) Z Z)<|z8 (zj (c := .own _ _) Ze Z ⟨_, .t1⟩ Z)<|z8 (yg Zq jt Z ⟨_, .head⟩ Z)<|zl (rows := [[_, _, _, _, _, _, _]]) ps24_1 Z Z Z Z Z<|zy (k := 7) jo type49 Z Z Z Z Z (fun _ => .t2) hjl (by decide) Z (by show (_ + _) * 96 ≤ _; simp <;> omega) (by simp <;> omega)<|fun i136 => z8 (zc jc Z Z2 (by decide) Z Z)<|y5 (l := [_]) (new := [_, _, _]) Z2 Z Z Z Z Z Z .t1 Z Z<|z6<|zRg<|zVzAd Z Z<|zVzMi Z<|z6 ?_
        exact ⟨(k + 1, i136), zR8, zR1, ⟨_, (.drop (.refl _)), by rw [hcn, ← hpush _ _ (eT_same hk1 (by simpa using c6))]; rfl⟩, hk2, by dsimp only; omega⟩
       ·refine zf<|zRg<|z8 (zc jc Z Z2 (by decide) Z Z)<|z8 (zj (c := .own _ _) Ze Z ⟨_, .t1⟩ Z)<|z8 (yg Zq jt Z ⟨_, .head⟩ Z)<|zl (rows := [[_, _, _, _, _, _, _]]) ps24_1 Z Z Z Z Z<|zy (k := 7) jo type49 Z Z Z Z Z (fun _ => .t2) hjl (by decide) Z (by show (_ + _) * 96 ≤ _; simp <;> omega) (by simp <;> omega)<|fun i136 => z8 (zc jc Z Z2 (by decide) Z Z)<|y5 (l := [_]) (new := [_, _, _]) Z2 Z Z Z Z Z Z .t1 Z Z<|z6<|zRg<|zVzAd Z Z<|zVzMi Z<|z6 ?_
        exact ⟨(k + 1, i136), zR8, zR1, ⟨_, (.drop (.refl _)), by rw [hcn, ← hpush _ _ (eT_two hk1 (by simpa using c6))]; rfl⟩, hk2, by dsimp only; omega⟩
      ·have hk1 : ¬ b.term.kind = 1 := by simpa using c5
       refine zTf 5 Z Z Z c5<|zTf 6 Z Z Z c5<|zTf 7 Z Z Z c5<|zTf 8 Z Z Z c5<|zTf 9 Z Z Z c5<|zTf 10 Z Z Z c5<|zTf 11 Z Z Z c5<|zTf 12 Z Z Z c5<|zTf 13 Z Z Z c5<|zTf 14 Z Z Z c5<|zTf 15 Z Z Z c5<|zTf 16 Z Z Z c5<|zTf 17 Z Z Z c5<|zTf 18 Z Z Z c5<|zTf 19 Z Z Z c5<|zTf 20 Z Z Z c5<|zTf 21 Z Z Z c5<|zTk 22 Z (zPf Z c5 Z)<|zDn<|yc Z Z<|zf<|zRg<|z8 (zc jc Z Z2 (by decide) Z Z)<|z8 (zj (c := .own _ _) Ze Z ⟨_, .t1⟩ Z)<|z8 (yg Zq jt Z ⟨_, .head⟩ Z)<|zl (rows := [[_, _, _, _, _, _, _]]) ps24_1 Z Z Z Z Z<|zy (k := 7) jo type49 Z Z Z Z Z (fun _ => .t2) hjl (by decide) Z (by show (_ + _) * 96 ≤ _; simp <;> omega) (by simp <;> omega)<|fun i136 => z8 (zc jc Z Z2 (by decide) Z Z)<|y5 (l := [_]) (new := [_, _, _]) Z2 Z Z Z Z Z Z .t1 Z Z<|z6<|zRg<|zVzAd Z Z<|zVzMi Z<|z6 ?_
       exact ⟨(k + 1, i136), zR8, zR1, ⟨_, (.drop (.refl _)), by rw [hcn, ← hpush _ _ (eT_one hk1)]; rfl⟩, hk2, by dsimp only; omega⟩
  ·obtain rfl : k = f.blocks.length := by omega
   have hpr : prT f f.blocks.length = (pruneF f).blocks := rfl
   rw [hpr]
   refine zt (ym (off := 2) (rows := (pruneF f).blocks.map encBlk) .t1 .head Z (by intro r hr; obtain ⟨z, _, rfl⟩ := List.mem_map.1 hr; rfl) (by decide) (by rw [qk, ← hpr, prT_len]))<|y2<|zb<|zSr<|z8 (yg ju jj Z ⟨_, .head⟩ Z)<|zd (hjo) Z<|zVGvneqI Z Z<|z6<|yc Z Z<|zf<|zSr<|z8 (yg ju jj Z ⟨_, .head⟩ Z)<|zm jj Z Z Z Z Z Z .t3 Z<|zVzAi Z<|z6<|ze<|afin.c1t (y := .int _ _) Z Z ⟨_, .t3⟩ ju jj Z ?_
   rfl
end Go.Proofs.YtbkgklpihnfnjaaGreatDoor
