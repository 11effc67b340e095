/- The document's text of a program, walked; without the parser. No conditions but bounds. -/
import Derived.Test.YtpojdepccecpgaaGreatDoorZp
import Derived.Test.YtpojdepccecpgaaGreatDoorZd
import Derived.Test.YtpojdepccecpgaaGreatDoorZo
set_option linter.unusedVariables false
set_option linter.unusedSimpArgs false
set_option linter.unusedSectionVars false
namespace Go.Proofs.YtpojdepccecpgaaGreatDoor
open Go.Proofs.Tryz
open Go.Proofs Go.Lib Go.Shelf Go.RowKit
theorem ps84_3 : PlacesS prog 84 9 3 1 [.str ⟨#[]⟩, .str ⟨#[]⟩, .str ⟨#[]⟩] := ⟨_, Z5, ju, Y3, by decide, by decide, by kernel_rfl⟩
set_option maxRecDepth 20000
variable {E : World}
theorem variable_spec (v : PVar) (hv : v.name.size ≤ 1000) (ht : 0 ≤ v.ty ∧ v.ty ≤ 2) : AFun prog E 61 [.agg (encVar v)] (.str (pairW v)) := by
 have hts := ty_size ht
 refine zl func61 Z (by decide) Z<|zSr<|y4 (cs := _) Z Z Z<|z7 (zq (v := .str _) Z)<|z6<|zb<|zw (fun j => false) (by kernel_rfl) Z (zy (.rest _))<|zTk 0 Z (zFF jv Z ju Z Z)<|zTk 1 Z (ye (c := .str _) jy Z)<|zTk 2 Z (yb Z Z (by (try simp only [app_size]); (try simp only [lit_size, List.size_toArray, List.length_cons, List.length_nil]); omega))<|zTk 3 Z (zFF jv Z Y6 Z Z)<|zTk 4 Z (zLi Yb Z)<|zOn 5 Z<|ze (tyWord_spec _) Z<|z6<|zTk 6 Z (yb Z Z (by (try simp only [app_size]); (try simp only [lit_size, List.size_toArray, List.length_cons, List.length_nil]); omega))<|zTk 7 Z (zq (v := .str _) Z)<|zDn<|zh<|zj (x := .str _) Z ?_
 rfl
theorem phiLk_app {f : PFunc} {p : PPhi} {k : Nat} (h1 : k < p.from_.length) (h2 : k < p.args.length) : phiLk f p (k + 1) = phiLk f p k ++ [bname f p.from_[k], vname f p.args[k]] := by
 have e1 : (p.from_.map (bname f))[k]? = some (bname f p.from_[k]) := by rw [qh, q9 h1]; rfl
 have e2 : (p.args.map (vname f))[k]? = some (vname f p.args[k]) := by rw [qh, q9 h2]; rfl
 unfold phiLk
 rw [inter_succ e1 e2]; simp
theorem grow_push2 {α : Type} {enc : α → List AV} {xs ys : List α} {x y : α} (h : ys = xs ++ [x, y]) : (xs.map enc).flatten ++ [enc x, enc y].flatten = (ys.map enc).flatten := by subst h; simp
theorem inter_len : ∀ l m : List ByteArray, (inter l m).length ≤ l.length + m.length
 | [], _ => by simp [inter]
 | _ :: _, [] => by simp [inter]
 | a :: l, b :: m => by have := inter_len l m; simp [inter]; omega
theorem inter_in : ∀ {l m : List ByteArray} {x : ByteArray}, x ∈ inter l m → x ∈ l ∨ x ∈ m
 | [], _, _, h => by simp [inter] at h
 | _ :: _, [], _, h => by simp [inter] at h
 | a :: l, b :: m, x, h => by
  simp only [inter, List.mem_cons] at h
  rcases h with rfl | rfl | h
  ·simp
  ·simp
  ·rcases inter_in h with h | h <;> simp [h]
theorem phiLk_len {f : PFunc} {p : PPhi} {k : Nat} (h1 : k ≤ p.from_.length) (h2 : k ≤ p.args.length) : (phiLk f p k).length ≤ 3 + 2 * k := by
 have := inter_len ((p.from_.map (bname f)).take k) ((p.args.map (vname f)).take k)
 unfold phiLk
 simp only [List.length_cons]
 rw [qk, qk] at this
 omega
theorem lineS_size {ws : List ByteArray} {m : Nat} (h : ∀ x ∈ ws, x.size ≤ m) : (lineS ws).size ≤ ws.length * (m + 1) := by
 have := join_len ws m h
 have e : (Lib.join (ws.map (·.data.toList)) [32]).length = (lineS ws).size := (strL_size _).symm
 omega
theorem phiL_sz {f : PFunc} (hT : TOk f) {p : PPhi} (hp : PhiP f p) : ∀ x ∈ phiL f p, x.size ≤ 1000 := by
 obtain ⟨g1, g2, g3, g4, g5⟩ := hp
 have g4 := List.all_eq_true.1 g4
 have g5 := List.all_eq_true.1 g5
 intro x hx
 unfold phiL at hx
 simp only [List.mem_cons] at hx
 rcases hx with rfl | rfl | rfl | hx
 ·exact vname_sz hT g1
 ·decide
 ·decide
 ·rcases inter_in hx with hx | hx
  ·obtain ⟨v, hv, rfl⟩ := List.mem_map.1 hx; exact bname_sz hT (g5 v hv)
  ·obtain ⟨v, hv, rfl⟩ := List.mem_map.1 hx; exact vname_sz hT (g4 v hv)
theorem phiLk_full {f : PFunc} {p : PPhi} (h : p.args.length = p.from_.length) : phiLk f p p.args.length = phiL f p := by
 unfold phiLk phiL
 rw [List.take_of_length_le (by simp; omega), List.take_of_length_le (by simp)]
theorem phiL_len {f : PFunc} {p : PPhi} (h : p.args.length = p.from_.length) (hp : p.args.length ≤ 2100) : (phiL f p).length ≤ 5000 := by
 have := phiLk_len (f := f) (p := p) (k := p.args.length) (by omega) (by omega)
 rw [phiLk_full h] at this; omega
theorem joinedT_spec (f : PFunc) (p : PPhi) (hT : TOk f) (hp : PhiP f p) (hl : p.args.length ≤ 2100) : AFun prog E 62 [.agg (encF f), .agg (encPhi p)] (.str (lineS (phiL f p))) := by
 have hps := phiL_sz hT hp
 obtain ⟨g1, g2, g3, g4, g5⟩ := id hp
 have g4 := List.all_eq_true.1 g4
 have g5 := List.all_eq_true.1 g5
 obtain ⟨d1, d2, d3, d4⟩ := has_get g1
 have hjs : (Lib.join ((phiL f p).map (·.data.toList)) [32]).length = (lineS (phiL f p)).size := (strL_size _).symm
 have hls := lineS_size hps
 have hll := phiL_len (f := f) g2 hl
 have hmul : (phiL f p).length * (1000 + 1) ≤ 5000 * 1001 := Nat.mul_le_mul hll (Nat.le_refl _)
 refine zl func62 Z (by decide) Z<|zSr<|y4 (cs := _) Z Z Z<|y4 (cs := _) Z Z Z<|z7 (zq (v := .str _) Z)<|z6<|zSr<|zVzFF j6 Z Z1 Z Z<|zVzLf Z7 Z<|zVzFF jd Z j8 Z Z<|zVzLi jh Z<|z7 (zIM p.dst.toNat jn Z0 Z Z (by omega) d2)<|zVzFF jv Z ju Z Z<|z7 (ye (c := .str _) jy Z)<|AOps.buildSliceO (cps := [(0, [_]), (1, [_]), (2, [_])]) (rs := [_, _, _]) ps84_3 Z Z Z Z Z<|fun i15 => z7 (zAo Z)<|z6<|zb<|zSr<|zVzFF jd Z jc Z Z<|zVzLf jm Z<|zVGvlenM j4 Z<|zVzMi Z<|z6<|zd<|zt (γ := Nat × Nat) [2, 3, 17, 18] (fun g => [(5, .own g.2 (phiLk f p g.1).length), (19, .int .i64 g.1)]) (fun g => [(g.2, .grow 1 9 ((phiLk f p g.1).map encS).flatten)]) (fun g => g.1 ≤ p.args.length) (fun g => p.args.length - g.1) (0, i15) zR2 ⟨_, (.refl _), by rw [show phiLk f p 0 = [f.vars[p.dst.toNat].name, eqS, phiS] by unfold phiLk; rw [d4]; rfl]; rfl⟩ (qc _) ?_
 rintro ⟨k, i⟩ hk
 try dsimp only at *
 refine zSr<|zVGvlss Z Z<|z6<|zb<|zn Z (fun ck=>?_) (fun ck=>?_)
 ·have hk2 : k < p.args.length := by simp at ck; omega
  have hk3 : k < p.from_.length := by omega
  obtain ⟨b1, b2, b3, b4⟩ := hasB_get (g5 _ (qd hk3))
  obtain ⟨v1, v2, v3, v4⟩ := has_get (g4 _ (qd hk2))
  have hkl := phiLk_len (f := f) (p := p) (k := k) (by omega) (by omega)
  refine zf<|zb<|zd<|zSr<|zVzMi Z<|z7 (zIM k j4 j8 Z Z Z (q9 hk2))<|zVzLi jh Z<|zVzAi Z<|zVzAi Z<|z6<|zw (fun j => false) (by kernel_rfl) Z (zy (.rest _))<|zTk 0 Z (zMo Z)<|zTk 1 Z (zFF j6 Z jo Z Z)<|zTk 2 Z (zLf jw Z)<|zTk 3 Z (zFF jd Z jc Z Z)<|zTk 4 Z (zLf jm Z)<|zTk 5 Z (zMi Z)<|zTk 6 Z (zIM k j4 j8 Z Z Z (q9 hk3))<|zTk 7 Z (zLi jh Z)<|zTk 8 Z (yi (j := (p.from_[k]).toNat) je jj Z Z (by omega) b2)<|zTk 9 Z (zFF j5 Z ju Z Z)<|zTk 10 Z (ye (c := .str _) jy Z)<|zTk 11 Z (zFF j6 Z Z1 Z Z)<|zTk 12 Z (zLf Z7 Z)<|zTk 13 Z (zMi Z)<|zTk 14 Z (yi (j := (p.args[k]).toNat) jn Z0 Z Z (by omega) v2)<|zTk 15 Z (zFF jv Z ju Z Z)<|zTk 16 Z (ye (c := .str _) jy Z)<|zOn 17 Z<|zk (rows := [[_], [_]]) ps84_2 Z Z Z Z Z<|z6<|zOn 18 Z<|zu (k := 1) Z5 type9 Z Z Z Z Z (fun _ => .head) (by rw [grow_len (k := 1) (fun _ => rfl)]) (by decide) Z (by show (_ + 2) * 16 ≤ _; omega) (by show _ + 2 ≤ _; omega)<|fun i42 => z6<|zTk 19 Z (zAo Z)<|zDn<|zRg<|zVzAd Z Z<|zVzMi Z<|z6 ?_
  exact ⟨(k + 1, i42), zR4, ⟨congrArg (AV.own i42) (by dsimp only; rw [phiLk_app hk3 hk2]; simp), rfl, trivial⟩, ⟨_, (.refl _), by dsimp only; rw [← grow_push2 (enc := encS) (phiLk_app hk3 hk2), b4, v4]; rfl⟩, hk2, by dsimp only; omega⟩
 ·have hkn : k = p.args.length := by simp at ck; omega
  subst hkn
  rw [phiLk_full g2]
  refine y2 (GStep.know (t := 5) (rows := (phiL f p).map encS) Z .head (by intro r hr; obtain ⟨x, _, rfl⟩ := List.mem_map.1 hr; rfl) (by decide) (by simp))<|zr<|zSr<|zVzMf Z<|ze (join_spec (phiL f p) _ (by omega) (by show (Lib.join _ [32]).length ≤ _; omega)) Z<|z7 (zq (v := .str _) Z)<|z6<|zh<|zj (x := .str _) Z ?_
  rfl
theorem term_eq {f : PFunc} {t : PTerm} (h : termOK f t = true) : termLine f t = lineS (termL f t) := by
 unfold termLine termL
 rw [if_pos h]
 by_cases k0 : t.kind = 0
 ·rw [if_pos k0, if_pos k0, lineS_two, show (⟨#[106, 117, 109, 112, 32]⟩ : ByteArray) = jumpS ++ spc by decide]
 ·rw [if_neg k0, if_neg k0]
  by_cases k1 : t.kind = 1
  ·rw [if_pos k1, if_pos k1, lineS_four, show (⟨#[105, 102, 32]⟩ : ByteArray) = ifS ++ spc by decide]
  ·rw [if_neg k1, if_neg k1, lineS_two, show (⟨#[114, 101, 116, 32]⟩ : ByteArray) = retS ++ spc by decide]
theorem termL_sz {f : PFunc} (hT : TOk f) {t : PTerm} (h : termOK f t = true) : (lineS (termL f t)).size ≤ 5000 := by
 have hb : ∀ x ∈ termL f t, x.size ≤ 1000 := by
  intro x hx
  unfold termL at hx
  by_cases k0 : t.kind = 0
  ·rw [if_pos k0] at hx
   simp only [List.mem_cons, List.not_mem_nil, or_false] at hx
   rcases hx with rfl | rfl
   ·decide
   ·exact bname_sz hT (termOK_0 h k0)
  ·rw [if_neg k0] at hx
   by_cases k1 : t.kind = 1
   ·rw [if_pos k1] at hx
    obtain ⟨t1, t2, t3⟩ := termOK_1 h k1
    simp only [List.mem_cons, List.not_mem_nil, or_false] at hx
    rcases hx with rfl | rfl | rfl | rfl
    ·decide
    ·exact vname_sz hT t1
    ·exact bname_sz hT t2
    ·exact bname_sz hT t3
   ·rw [if_neg k1] at hx
    simp only [List.mem_cons, List.not_mem_nil, or_false] at hx
    rcases hx with rfl | rfl
    ·decide
    ·exact vname_sz hT (termOK_2 h k0 k1)
 have hl : (termL f t).length ≤ 4 := by unfold termL; split <;> (try split) <;> simp
 have := lineS_size hb
 have h2 : (termL f t).length * (1000 + 1) ≤ 4 * 1001 := Nat.mul_le_mul hl (Nat.le_refl _)
 omega
theorem pairW_sz {v : PVar} (hv : v.name.size ≤ 1000) (ht : 0 ≤ v.ty ∧ v.ty ≤ 2) : (pairW v).size ≤ 1100 := by
 have := ty_size ht
 unfold pairW
 rw [app_size, app_size]
 have : colon.size = 1 := rfl
 omega
theorem headLk_app {f : PFunc} {k : Nat} (h : k < f.vars.length) : headLk f (k + 1) = headLk f k ++ [pairW f.vars[k]] := by
 unfold headLk; rw [qa h, qj]; rfl
def capT (s : ByteArray) : ByteArray := if 16384 < s.size then ⟨#[]⟩ else s
def capE (s : ByteArray) : Int := if 16384 < s.size then 4 else 0
set_option maxHeartbeats 4000000 in
theorem text_good (f : PFunc) (hS : ShapedP f) (hT : TOk f) (hN : NumsOk f) (hsm : small f) (hP : Pows E) (hL : Letters E) :
  ACall prog E 30 [.agg (encF f)] [] (fun x O => ∃ _ : Unit, x = .tup [.str (capT (textF f)), .int .i64 (capE (textF f))] ∧ Left O [] ∧ True) := by
 have hfo := hsm.ok
 have hn := hsm.names
 obtain ⟨s1, s2, s3, _, _⟩ := id hsm
 obtain ⟨hf, hu, hb, hne⟩ := shaped_ok hS
 have hpl : f.params.length ≤ f.vars.length := by have s1 := hS.1; unfold bad1 at s1; simp at s1; omega
 have hvl := hT.vars
 have hbl := hT.blks
 have hsh : shapedB f = true := by rw [shapedB_eq]; exact ql hS
 have ssp : spc.size = 1 := rfl
 have snl : nl.size = 1 := rfl
 refine zl func30 Z (by decide) Z<|zSr<|y4 (cs := _) Z Z Z<|z7 (zq (v := .str _) Z)<|zVzAi Z<|z6<|zb<|zSr<|zVGvloadWF jk jg Z Z<|ze (Shaped_spec _ (by assumption) (by omega) (by omega) (by omega) (by assumption) hL) Z<|zVGvnot Z<|z6<|yf Z (by simp [hsh])<|zf<|zSr<|zo (cs := [.raw (.pointer none), .raw (.slice none 0 0)]) zeroValue106 Z Z<|fun i4 => z6<|adoptC_wp (off := 1) (k := 1) (T := 5) (fun _ => .head) Z<|fun jb => zSr<|z7 (Gv.func Z Z)<|z7 (zq (v := .fn _ _ _) Z)<|z6<|zSr<|AOps.buildSliceO (cps := [(0, [_])]) (rs := [_]) ps84_1 Z Z Z Z Z<|fun i20 => z7 (zAo Z)<|z6<|zb<|zSr<|zVzFF j6 Z jc Z Z<|zVzLf jm Z<|zVGvlenM j4 Z<|zVzMi Z<|z6<|zd<|zt (γ := Nat × Nat) [1, 4, 5, 23] (fun g => [(6, .own g.2 (1 + g.1)), (24, .int .i64 g.1)]) (fun g => [(g.2, .grow 1 9 ((headLk f g.1).map encS).flatten), (jb, .grow 1 5 []), (i4, .cells 106 [.raw (.pointer none), .own jb 0])]) (fun g => g.1 ≤ f.params.length) (fun g => f.params.length - g.1) (0, i20) zR2 zLe (qc _) ?_
 rintro ⟨k, i⟩ hk
 try dsimp only at *
 refine zSr<|zVGvlss Z Z<|z6<|zb<|zn Z (fun ck=>?_) (fun ck=>?_)
 ·have hk2 : k < f.params.length := by simp at ck; omega
  have hk3 : k < f.vars.length := by omega
  have hv := hf.vars _ (qd hk3)
  have hvs := hT.vn _ (qd hk3)
  have hkl : (headLk f k).length = 1 + k := by unfold headLk; rw [List.length_cons, qg, qk]; omega
  refine zf<|zb<|zd<|zSr<|zVzMi Z<|zVzAi Z<|z6<|zRg<|z7 (zMo Z)<|zVzFF j6 Z Z1 Z Z<|zVzLf Z7 Z<|zVzMi Z<|z7 (zIM k jn Z0 Z Z Z (q9 hk3))<|zVGvloadWF isAgg58 Z0 Z Z<|ze (variable_spec _ hvs hv.2) Z<|zk (rows := [[_]]) ps84_1 Z Z Z Z Z<|zu (k := 1) Z5 type9 Z Z Z Z Z (fun _ => .head) (by rw [grow_len (k := 1) (fun _ => rfl), hkl]) (by decide) Z (by show (_ + 1) * 16 ≤ _; omega) (by show _ + 1 ≤ _; omega)<|fun i35 => z7 (zAo Z)<|z6<|zRg<|zVzAd Z Z<|zVzMi Z<|z6 ?_
  exact ⟨(k + 1, i35), zR4, zR2, ⟨_, (.refl _), by dsimp only; rw [← grow_push (enc := encS) (headLk_app hk3)]; rfl⟩, hk2, by dsimp only; omega⟩
 ·have hkn : k = f.params.length := by simp at ck; omega
  subst hkn
  have hhead : headLk f f.params.length = headL f := rfl
  rw [hhead]
  have hhl : (headL f).length = 1 + f.params.length := by rw [← hhead]; unfold headLk; rw [List.length_cons, qg, qk]; omega
  have hhs := lineS_size (ws := headL f) (m := 1100) (fun x hx => by
   unfold headL at hx
   rcases List.mem_cons.1 hx with rfl | hx
   ·decide
   ·obtain ⟨v, hv, rfl⟩ := List.mem_map.1 hx
    have hv := List.mem_of_mem_take hv
    exact pairW_sz (hT.vn v hv) (hf.vars v hv).2)
  have hhm : (headL f).length * (1100 + 1) ≤ 1001 * 1101 := Nat.mul_le_mul (by omega) (Nat.le_refl _)
  refine y2 (GStep.know (t := 6) (rows := (headL f).map encS) Z .head (by intro r hr; obtain ⟨x, _, rfl⟩ := List.mem_map.1 hr; rfl) (by decide) (by rw [qg]; exact hhl))<|y2 (y7 (yd .t1))<|zr<|zSr<|z7 (y3 (v := .fn _ _ _) Z)<|zVzMf Z<|AOps.callVA Z Z (zy (.l (.l (.rest _)))) ((line_new ⟨#[]⟩ (headL f) (by omega) (by omega) (by decide)).exact) ?_
  rintro r39 O39 ⟨j0, rfl, rfl, _⟩
  obtain ⟨ds, hds⟩ : ∃ ds, f.vars.drop f.params.length = ds := ⟨_, rfl⟩
  have hdl : ds.length ≤ 1000 := by rw [← hds, List.length_drop]; omega
  obtain ⟨a0, ha0⟩ : ∃ a0, (⟨#[]⟩ : ByteArray) ++ (lineS (headL f) ++ nl) = a0 := ⟨_, rfl⟩
  rw [ha0]
  have ha0s : a0.size ≤ 1102103 ∧ 1 ≤ a0.size := by rw [← ha0, app_size, app_size]; have : (⟨#[]⟩ : ByteArray).size = 0 := rfl; omega
  have ha0u : a0 = unB [headL f] := by rw [← ha0]; show _ = (lineS (headL f) ++ nl) ++ unB []; show _ = (lineS (headL f) ++ nl) ++ ByteArray.empty; rw [ByteArray.append_empty]; exact ByteArray.empty_append
  refine z6<|zb<|zSr<|zVzFF j6 Z Z1 Z Z<|zVzLf Z7 Z<|zVzFF j6 Z jc Z Z<|zVzLf jm Z<|zVGvlenM j4 Z<|z7 (Gv.cutLoM (j := f.params.length) jn Z0 Z Z Z hpl)<|zVGvlenM jn Z<|zVzMi Z ?_
  rw [hds]
  refine z6<|zd<|zt (γ := Nat × Nat × ByteArray) [1, 4, 5, 45, 46] (fun g => [(47, .int .i64 g.1)]) (fun g => [(i4, .cells 106 [.po i4 0, .own g.2.1 g.2.2.size]), (g.2.1, .grow 1 5 (strAV g.2.2))]) (fun g => g.1 ≤ ds.length ∧ g.2.2 = unB (headL f :: (ds.take g.1).map varL) ∧ g.2.2.size ≤ 1102103 + g.1 * 3000 ∧ 1 ≤ g.2.2.size) (fun g => ds.length - g.1) (0, j0, a0) zR1 zLe (⟨qc _, ha0u, by dsimp only; omega, by dsimp only; omega⟩) ?_
  rintro ⟨k, j, acc⟩ ⟨hk, hacc, hsz, hnz0⟩
  try dsimp only at *
  refine zSr<|zVGvlss Z Z<|z6<|zb<|zn Z (fun ck=>?_) (fun ck=>?_)
  ·have hk2 : k < ds.length := by simp at ck; omega
   have hvm : ds[k] ∈ f.vars := List.mem_of_mem_drop (by rw [hds]; exact qd hk2)
   have hv := hf.vars _ hvm
   have hvs := hT.vn _ hvm
   have hvl2 := lineS_size (ws := varL ds[k]) (m := 1100) (fun x hx => by
    unfold varL at hx
    simp only [List.mem_cons, List.not_mem_nil, or_false] at hx
    rcases hx with rfl | rfl
    ·decide
    ·exact pairW_sz hvs hv.2)
   have hvl3 : (varL ds[k]).length = 2 := rfl
   rw [hvl3] at hvl2
   refine zf<|zb<|zd<|zSr<|z7 (zIM k jn Z0 Z Z Z (q9 hk2))<|zVGvloadWF isAgg58 Z0 Z Z<|zo (cs := [.str ⟨#[]⟩, .int .i64 0]) Ya Z Z<|fun i9 => zm Z0 Z Z Z Z Z Z .head Z<|z6<|zRg<|z7 (y3 (v := .fn _ _ _) Z)<|z7 (yk isAgg58 Z0 Z ⟨_, .head⟩ Z)<|ze (variable_spec _ hvs hv.2) Z<|zk (rows := [[_], [_]]) ps84_2 Z Z Z Z Z<|AOps.callVA Z Z (zy (.r (.l (.l (.rest _))))) ((line_used acc (varL ds[k]) (by omega) (by omega) (by omega)).exact) ?_
   rintro r55 O55 ⟨j2, rfl, rfl, _⟩
   refine z6<|zRg<|zVzAd Z Z<|zVzMi Z<|z6 ?_
   exact ⟨(k + 1, j2, acc ++ (lineS (varL ds[k]) ++ nl)), zR5, zR1, ⟨_, (.keep (.keep (.drop (.refl _)))), rfl⟩, ⟨hk2, by dsimp only; rw [qa hk2, qj, List.map_cons, List.map_nil, ← List.cons_append, unB_app, ← hacc], by dsimp only; rw [app_size, app_size]; omega, by dsimp only; rw [app_size]; omega⟩, by dsimp only; omega⟩
  ·have hkn : k = ds.length := by simp at ck; omega
   subst hkn
   rw [qe] at hacc
   obtain ⟨P0, hP0⟩ : ∃ P0, headL f :: ds.map varL = P0 := ⟨_, rfl⟩
   have hlines : linesF f = P0 ++ f.blocks.flatMap (blkL f) := by rw [← hP0, ← hds]; rfl
   rw [hP0] at hacc
   refine zr<|zb<|zSr<|zVzFF j6 Z jo Z Z<|zVzLf jw Z<|zVGvlenM je Z<|zVzMi Z<|z6<|zd<|zt (γ := Nat × Nat × ByteArray) [1, 4, 5, 58, 59] (fun g => [(60, .int .i64 g.1)]) (fun g => [(i4, .cells 106 [.po i4 0, .own g.2.1 g.2.2.size]), (g.2.1, .grow 1 5 (strAV g.2.2))]) (fun g => g.1 ≤ f.blocks.length ∧ g.2.2 = unB (P0 ++ (f.blocks.take g.1).flatMap (blkL f)) ∧ g.2.2.size ≤ 5000000 + g.1 * 20000000000 ∧ 1 ≤ g.2.2.size) (fun g => f.blocks.length - g.1) (0, j, acc) zR1 zLe (⟨qc _, by dsimp only; rw [hacc]; simp, by dsimp only; omega, by dsimp only; omega⟩) ?_
   rintro ⟨k, j, acc3⟩ ⟨hk3, hacc3, hsz3, hnz⟩
   try dsimp only at *
   refine zSr<|zVGvlss Z Z<|z6<|zb<|zn Z (fun cb=>?_) (fun cb=>?_)
   ·have hk4 : k < f.blocks.length := by simp at cb; omega
    obtain ⟨b, hbk⟩ : ∃ b, f.blocks[k] = b := ⟨_, rfl⟩
    have hget : f.blocks[k]? = some b := by rw [q9 hk4, hbk]
    have hbm : b ∈ f.blocks := hbk ▸ qd hk4
    obtain ⟨hbn, hb1, hb2, hb3⟩ := hf.blks b hbm
    have hbs := hT.bn b hbm
    have hTb := hT.each b hbm
    have hnb := hN b hbm
    have hp1 := hTb.phis
    have hp2 := hTb.insts
    have hbl2 := lineS_size (ws := [blockS, b.name]) (m := 1000) (fun x hx => by
     simp only [List.mem_cons, List.not_mem_nil, or_false] at hx
     rcases hx with rfl | rfl
     ·decide
     ·exact hbs)
    have hbl3 : ([blockS, b.name] : List ByteArray).length = 2 := rfl
    rw [hbl3] at hbl2
    obtain ⟨Q, hQ⟩ : ∃ Q, P0 ++ (f.blocks.take k).flatMap (blkL f) ++ [[blockS, b.name]] = Q := ⟨_, rfl⟩
    refine zf<|zb<|zd<|zSr<|z7 (zIM k je jj Z Z Z hget)<|zVGvloadWF Zc jj Z Z<|zo (cs := [.str ⟨#[]⟩, .raw (.slice none 0 0), .raw (.slice none 0 0), .int .i64 0, .int .i64 0, .int .i64 0, .int .i64 0]) jz Z Z<|fun i11 => zm jj Z Z Z Z Z Z .head Z<|z6<|zSr<|z7 (y3 (v := .fn _ _ _) Z)<|z7 (zc j5 Z ju (by decide) Z Z)<|z7 (zi (c := .str _) jy Z ⟨_, .head⟩ Z)<|zk (rows := [[_], [_]]) ps84_2 Z Z Z Z Z<|AOps.callVA Z Z (zy (.r (.l (.l (.rest _))))) ((line_used acc3 [blockS, b.name] (by omega) (by omega) (by omega)).exact) ?_
    rintro r68 O68 ⟨j2, rfl, rfl, _⟩
    obtain ⟨a4, ha4⟩ : ∃ a4, acc3 ++ (lineS [blockS, b.name] ++ nl) = a4 := ⟨_, rfl⟩
    have ha4s : a4.size ≤ 5003000 + k * 20000000000 ∧ 1 ≤ a4.size := by rw [← ha4, app_size, app_size]; omega
    have ha4u : a4 = unB Q := by rw [← ha4, ← hQ, unB_app, ← hacc3]
    rw [ha4]
    refine z6<|zb<|zSr<|z7 (zc j5 Z Z2 (by decide) Z Z)<|z7 (zi (c := .fro _ _) Zd Z ⟨_, .t2⟩ Z)<|zVGvlenM jl Z<|zVzMi Z<|z6<|zd<|zt (γ := Nat × Nat × ByteArray) [1, 4, 5, 11, 58, 59, 60, 70, 71] (fun g => [(72, .int .i64 g.1)]) (fun g => [(i4, .cells 106 [.po i4 0, .own g.2.1 g.2.2.size]), (g.2.1, .grow 1 5 (strAV g.2.2)), (i11, .cells 69 (encBlk b))]) (fun g => g.1 ≤ b.phis.length ∧ g.2.2 = unB (Q ++ (b.phis.take g.1).map (phiL f)) ∧ g.2.2.size ≤ 5003000 + k * 20000000000 + g.1 * 5006000 ∧ 1 ≤ g.2.2.size) (fun g => b.phis.length - g.1) (0, j2, a4) zR1 zLe (⟨qc _, by dsimp only; rw [ha4u]; simp, by dsimp only; omega, by dsimp only; omega⟩) ?_
    rintro ⟨m, j, acc4⟩ ⟨hm, hacc4, hsz4, hnz4⟩
    try dsimp only at *
    refine zSr<|zVGvlss Z Z<|z6<|zb<|zn Z (fun cm=>?_) (fun cm=>?_)
    ·have hm2 : m < b.phis.length := by simp at cm; omega
     obtain ⟨p, hpm⟩ : ∃ p, b.phis[m] = p := ⟨_, rfl⟩
     have hgp : b.phis[m]? = some p := by rw [q9 hm2, hpm]
     have hpmem : p ∈ b.phis := hpm ▸ qd hm2
     have hP2 := hb1 p hpmem
     have hpa := hTb.args p hpmem
     have hps := lineS_size (phiL_sz hT hP2)
     have hpl2 := phiL_len (f := f) hP2.2.1 hpa.1
     have hpm2 : (phiL f p).length * (1000 + 1) ≤ 5000 * 1001 := Nat.mul_le_mul hpl2 (Nat.le_refl _)
     refine zf<|zb<|zd<|zSr<|z7 (zIM m jl jp Z Z Z hgp)<|zVGvloadWF Zf jp Z Z<|zo (cs := [.int .i64 0, .raw (.slice none 0 0), .raw (.slice none 0 0)]) Z4 Z Z<|fun i13 => zm jp Z Z Z Z Z Z .head Z<|z6<|zRg<|z7 (y3 (v := .fn _ _ _) Z)<|zVGvloadWF jk jg Z Z<|z7 (yk Zf jp Z ⟨_, .head⟩ Z)<|ze (joinedT_spec f p hT hP2 hpa.1) Z<|zk (rows := [[_]]) ps84_1 Z Z Z Z Z<|AOps.callVA Z Z (zy (.r (.l (.l (.r (.rest _)))))) ((line_used acc4 [lineS (phiL f p)] (by simp) (by rw [lineS_one]; omega) (by omega)).exact) ?_
     rintro r81 O81 ⟨j3, rfl, rfl, _⟩
     refine z6<|zRg<|zVzAd Z Z<|zVzMi Z<|z6 ?_
     exact ⟨(m + 1, j3, acc4 ++ (lineS [lineS (phiL f p)] ++ nl)), zR9, zR1, ⟨_, (.keep (.keep (.drop (.refl _)))), rfl⟩, ⟨hm2, by dsimp only; rw [qa hm2, hpm, qj, List.map_cons, List.map_nil, ← qb, unB_app, ← hacc4, lineS_one], by dsimp only; rw [app_size, app_size, lineS_one]; omega, by dsimp only; rw [app_size]; omega⟩, by dsimp only; omega⟩
    ·have hmn : m = b.phis.length := by simp at cm; omega
     subst hmn
     rw [qe] at hacc4
     obtain ⟨Q2, hQ2⟩ : ∃ Q2, Q ++ b.phis.map (phiL f) = Q2 := ⟨_, rfl⟩
     rw [hQ2] at hacc4
     refine zr<|zb<|zSr<|z7 (zc j5 Z Z3 (by decide) Z Z)<|z7 (zi (c := .fro _ _) Zh Z ⟨_, .t2⟩ Z)<|zVGvlenM jr Z<|zVzMi Z<|z6<|zd<|zt (γ := Nat × Nat × ByteArray) [1, 4, 5, 11, 58, 59, 60, 84, 85] (fun g => [(86, .int .i64 g.1)]) (fun g => [(i4, .cells 106 [.po i4 0, .own g.2.1 g.2.2.size]), (g.2.1, .grow 1 5 (strAV g.2.2)), (i11, .cells 69 (encBlk b))]) (fun g => g.1 ≤ b.insts.length ∧ g.2.2 = unB (Q2 ++ (b.insts.take g.1).map (wordsOf f)) ∧ g.2.2.size ≤ 15003000000 + k * 20000000000 + g.1 * 21000 ∧ 1 ≤ g.2.2.size) (fun g => b.insts.length - g.1) (0, j, acc4) zR1 zLe (⟨qc _, by dsimp only; rw [hacc4]; simp, by dsimp only; omega, by dsimp only; omega⟩) ?_
     rintro ⟨m, j, acc5⟩ ⟨hm, hacc5, hsz5, hnz5⟩
     try dsimp only at *
     refine zSr<|zVGvlss Z Z<|z6<|zb<|zn Z (fun ci=>?_) (fun ci=>?_)
     ·have hm2 : m < b.insts.length := by simp at ci; omega
      obtain ⟨x, hxm⟩ : ∃ x, b.insts[m] = x := ⟨_, rfl⟩
      have hgx : b.insts[m]? = some x := by rw [q9 hm2, hxm]
      have hxmem : x ∈ b.insts := hxm ▸ qd hm2
      have hxP := hb2 x hxmem
      obtain ⟨hxl, hxs⟩ := refLine_sz hT hxP (hnb x hxmem)
      have hxe : instLine f x = lineS (wordsOf f x) := by rw [line_eq hxP, inst_line_eq hxP]
      have hxz : (instLine f x).size ≤ 20000 := by rw [line_eq hxP]; exact hxs
      refine zf<|zb<|zd<|zSr<|z7 (zIM m jr jt Z Z Z hgx)<|zVGvloadWF Zk jt Z Z<|zo (cs := [.int .i64 0, .int .i64 0, .raw (.slice none 0 0), .int .i64 0]) Zb Z Z<|fun i15 => zm jt Z Z Z Z Z Z .head Z<|z6<|zRg<|z7 (y3 (v := .fn _ _ _) Z)<|zVGvloadWF jk jg Z Z<|z7 (yk Zk jt Z ⟨_, .head⟩ Z)<|ze (Inst_spec f x (by omega) hT.vn (fun _ => hnb x hxmem) hP) Z<|zk (rows := [[_]]) ps84_1 Z Z Z Z Z<|AOps.callVA Z Z (zy (.r (.l (.l (.r (.rest _)))))) ((line_used acc5 [instLine f x] (by simp) (by rw [lineS_one]; omega) (by omega)).exact) ?_
      rintro r95 O95 ⟨j3, rfl, rfl, _⟩
      refine z6<|zRg<|zVzAd Z Z<|zVzMi Z<|z6 ?_
      exact ⟨(m + 1, j3, acc5 ++ (lineS [instLine f x] ++ nl)), zR9, zR1, ⟨_, (.keep (.keep (.drop (.refl _)))), rfl⟩, ⟨hm2, by dsimp only; rw [qa hm2, hxm, qj, List.map_cons, List.map_nil, ← qb, unB_app, ← hacc5, lineS_one, hxe], by dsimp only; rw [app_size, app_size, lineS_one]; omega, by dsimp only; rw [app_size]; omega⟩, by dsimp only; omega⟩
     ·have hmn : m = b.insts.length := by simp at ci; omega
      subst hmn
      rw [qe] at hacc5
      have htz := termL_sz hT hb3
      have hte := term_eq hb3
      have hnext : P0 ++ (f.blocks.take (k + 1)).flatMap (blkL f) = (Q2 ++ b.insts.map (wordsOf f)) ++ [termL f b.term] := by
       rw [qa hk4, hbk, List.flatMap_append, ← hQ2, ← hQ]; simp [blkL]
      refine zr<|zRg<|z7 (y3 (v := .fn _ _ _) Z)<|zVGvloadWF jk jg Z Z<|z7 (zc j5 Z jq (by decide) Z Z)<|z7 (yy (l := [_, _, _, _]) Zt jq Z ⟨_, .t2⟩ Z Z)<|ze (Term_spec f b.term hsm) Z<|zk (rows := [[_]]) ps84_1 Z Z Z Z Z<|AOps.callVA Z Z (zy (.l (.l (.r (.rest _))))) ((line_used acc5 [termLine f b.term] (by simp) (by rw [lineS_one, hte]; omega) (by omega)).exact) ?_
      rintro r103 O103 ⟨j3, rfl, rfl, _⟩
      refine z6<|zRg<|zVzAd Z Z<|zVzMi Z<|z6 ?_
      exact ⟨(k + 1, j3, acc5 ++ (lineS [termLine f b.term] ++ nl)), zR5, zR1, ⟨_, (.keep (.keep (.drop (.refl _)))), rfl⟩, ⟨hk4, by dsimp only; rw [hnext, unB_app, ← hacc5, lineS_one, hte], by dsimp only; rw [app_size, app_size, lineS_one, hte]; omega, by dsimp only; rw [app_size]; omega⟩, by dsimp only; omega⟩
   ·have hkn : k = f.blocks.length := by simp at cb; omega
    subst hkn
    rw [qe] at hacc3
    have he : acc3 = textF f := by rw [hacc3, ← hlines]; rfl
    have hsz5 : acc3.size ≤ 5000000 + 100 * 20000000000 := Nat.le_trans hsz3 (Nat.add_le_add_left (Nat.mul_le_mul_right _ hbl) _)
    refine zr<|zb<|zSr<|yl Z (zy (.l (.l (.rest _)))) (bldLen_spec acc3) ?_
    rintro r105 O105 ⟨rfl, rfl⟩
    refine z7 (yv Z Z)<|z6<|zn Z (fun ct=>?_) (fun ct=>?_)
    ·refine zSr<|z7 (zq (v := .str _) Z)<|zVzAi Z<|z6<|zh<|afin.t2 (x := .str _) (y := .int _ _) Z Z ?_
     exact ⟨(), by unfold capT capE; rw [← he, if_pos (by omega), if_pos (by omega)], Left.none0 _, trivial⟩
    ·refine zf<|zSr<|yl Z (zy (.l (.l (.rest _)))) (bldString_spec acc3 (by omega) (by omega)) ?_
     rintro r107 O107 ⟨rfl, rfl⟩
     refine z7 (zq (v := .str _) Z)<|zVzAi Z<|z6<|zh<|afin.t2 (x := .str _) (y := .int _ _) Z Z ?_
     exact ⟨(), by unfold capT capE; rw [← he, if_neg (by omega), if_neg (by omega)], Left.none0 _, trivial⟩
end Go.Proofs.YtpojdepccecpgaaGreatDoor
namespace Go.Proofs.YtpojdepccecpgaaGreatDoor
open Go.Proofs.Tryz
open Go.Proofs
def Imp (x y : AV) : Prop := ∀ I v, RepV I x v → RepV I y v
def ImpL (xs ys : List AV) : Prop := ∀ I vs, RepL I xs vs → RepL I ys vs
theorem Imp.refl (x : AV) : Imp x x := fun _ _ h => h
theorem Imp.nil (k : Nat) : Imp (.raw (.slice none 0 0)) (.fro k []) := fun _ _ h => ⟨none, 0, 0, h, rfl, Nat.le_refl _, fun _ => rfl, trivial⟩
theorem ImpL.nil : ImpL [] [] := fun _ _ h => h
theorem ImpL.cons {x y : AV} {xs ys : List AV} (h : Imp x y) (hs : ImpL xs ys) : ImpL (x :: xs) (y :: ys) := fun I _ ⟨v, us, e, h1, h2⟩ => ⟨v, us, e, h I v h1, hs I us h2⟩
theorem Imp.agg {xs ys : List AV} (h : ImpL xs ys) : Imp (.agg xs) (.agg ys) := fun I _ ⟨vs, e, h1⟩ => ⟨vs, e, h I vs h1⟩
end Go.Proofs.YtpojdepccecpgaaGreatDoor
namespace Go.Proofs.YtpojdepccecpgaaGreatDoor
open Go.Proofs.Tryz
open Go.Proofs Go.Lib Go.Shelf Go.RowKit
theorem ps22_3 : PlacesS prog 22 58 3 2 [.str ⟨#[]⟩, .int .i64 0, .str ⟨#[]⟩, .int .i64 0, .str ⟨#[]⟩, .int .i64 0] := ⟨_, jn, Z0, Ya, by decide, by decide, by kernel_rfl⟩
variable {E : World}
set_option maxRecDepth 20000
theorem ptext_spec (f : PFunc) (hS : ShapedP f) (hT : TOk f) (hN : NumsOk f) (hsm : small f) (hP : Pows E) (hL : Letters E) : AFun prog E 30 [.agg (encF f)] (.tup [.str (capT (textF f)), .int .i64 (capE (textF f))]) :=
 (text_good f hS hT hN hsm hP hL).mono fun _ _ ⟨_, e, _, _⟩ => e
theorem can_tok {f : PFunc} (hf : small f) (hT : typedB f = true) (hJ : JoinP f) : TOk (canD f) := by
 have hc := can_small hT hJ hf
 have hS := (typedS (can_typed hT hJ).1).1
 unfold bad1 at hS
 simp only [Bool.or_eq_false_iff, decide_eq_false_iff_not] at hS
 exact ⟨hc.1, by omega, hc.2.2.2.1, fun b hb => (hc.2.2.2.2 b hb).1, fun b hb => by
  obtain ⟨g1, g2, g3, g4, g5⟩ := hc.2.2.2.2 b hb
  exact ⟨by omega, by omega, fun p hp => by have := g4 p hp; omega⟩⟩
theorem can_nums {f : PFunc} (hT : typedB f = true) (hN : NumsOk f) : NumsOk (canD f) := fun b hb x hx => by
 obtain ⟨c, hc, rfl⟩ := List.mem_map.1 hb
 obtain ⟨q, hq, rfl⟩ := List.mem_map.1 hc
 obtain ⟨y, hy, rfl⟩ := List.mem_map.1 hx
 have hm : q.1 ∈ ord f := by
  obtain ⟨k, hk⟩ := List.getElem?_of_mem hq
  rw [List.getElem?_zipIdx] at hk
  cases hg : (ord f)[k]? with
  | none => rw [hg] at hk; cases hk
  | some z => rw [hg] at hk; cases hk; exact qi hg
 have hr := order_rng (typedE hT).grph.toEOk hm
 exact hN _ (blkX_mem hr.1 hr.2) y hy
theorem ctext_good (f : PFunc) (hf : small f) (hN : NumsOk f) (hL : Letters E) (hPw : Pows E) (ht : typedB f = true) (hJ : JoinP f) : AFun prog E 10 [.agg (encF f)] (.tup [.str (capT (textF (canD f))), .int .i64 (capE (textF (canD f)))]) := by
 have hc := can_typed ht hJ
 refine zl func10 Z (by decide) Z<|zSr<|y4 (cs := _) Z Z Z<|z7 (zq (v := .str _) Z)<|zVzAi Z<|z6<|zSr<|zVGvloadWF jk jg Z Z<|ze (canon_good f hf hL hPw ht hJ) Z<|z7 (zMu Z)<|z7 (yr (v := .agg _) Z Z)<|z7 (zXi Z Z)<|zo (cs := [.raw (.slice none 0 0), .raw (.slice none 0 0), .raw (.slice none 0 0)]) Z6 Z Z<|fun i4 => zm jg Z Z Z Z Z Z .head Z<|yh (y8 (t := 4) Z .head)<|zVzAi Z<|z6<|zb<|zSr<|zVzMi Z<|zVGvneqI Z Z<|z6<|yf Z Z<|zf<|zSr<|zVGvloadWF jk jg Z Z<|ze (ptext_spec (canD f) (typedS hc.1) (can_tok hf ht hJ) (can_nums ht hN) (can_small ht hJ hf) hPw hL) Z<|z7 (yr (v := .str _) Z Z)<|z7 (zXi Z Z)<|z7 (zq (v := .str _) Z)<|zVzAi Z<|z6<|zh<|afin.t2 (x := .str _) (y := .int _ _) Z Z ?_
 rfl
def exC : PFunc := ⟨[⟨⟨#[110]⟩, 0⟩, ⟨⟨#[107]⟩, 0⟩, ⟨⟨#[109]⟩, 0⟩], [0], [⟨⟨#[97]⟩, [], [⟨2, 2, [0, 0], 0⟩], ⟨2, 2, 0, 0⟩⟩]⟩
theorem exC_typed : typedB exC = true := by decide +kernel
theorem exC_join : JoinP exC := (joinedB_iff _).1 (by decide +kernel)
theorem exC_small : small exC := by unfold small exC; simp [smallBlk]; decide
theorem exC_text : textF (canD exC) = ⟨#[102, 117, 110, 99, 32, 118, 48, 58, 105, 110, 116, 10, 118, 97, 114, 32, 118, 49, 58, 105, 110, 116, 10, 98, 108, 111, 99, 107, 32, 98, 48, 10, 118, 49, 32, 61, 32, 97, 100, 100, 32, 118, 48, 32, 118, 48, 10, 114, 101, 116, 32, 118, 49, 10]⟩ := by decide +kernel
theorem lives18_spec (hL : Letters E) (hPw : Pows E) : AFun prog E 7 [] (.bool true) := by
 have ht := ctext_good (E := E) exC exC_small (fun b hb x hx => by
  cases hb with
  | head => cases hx with
   | head => exact ⟨by decide, by decide⟩
   | tail _ h => cases h
  | tail _ h => cases h) hL hPw exC_typed exC_join
 rw [exC_text] at ht
 have ht : AFun prog E 10 [.agg (encF exC)] (.tup [.str ⟨#[102, 117, 110, 99, 32, 118, 48, 58, 105, 110, 116, 10, 118, 97, 114, 32, 118, 49, 58, 105, 110, 116, 10, 98, 108, 111, 99, 107, 32, 98, 48, 10, 118, 49, 32, 61, 32, 97, 100, 100, 32, 118, 48, 32, 118, 48, 10, 114, 101, 116, 32, 118, 49, 10]⟩, .int .i64 0]) := ht
 refine zl func7 Z (by decide) Z<|zSr<|zVzAb Z<|z6<|zSr<|z7 (y6 (cps := [(0, [_])]) (rs := [_, .int .i64 0]) pl58 Z Z Z)<|z7 (y6 (cps := [(0, [_])]) (rs := [_, .int .i64 0]) pl58 Z Z Z)<|z7 (y6 (cps := [(0, [_])]) (rs := [_, .int .i64 0]) pl58 Z Z Z)<|zk (rows := [[_, _], [_, _], [_, _]]) ps22_3 Z Z Z Z Z<|zk (rows := [[_]]) ps23_1 Z Z Z Z Z<|zk (rows := [[_], [_]]) ps23_2 Z Z Z Z Z<|z7 (y6 (cps := [(0, [_]), (1, [_]), (2, [_])]) (rs := [_, _, _, .int .i64 0]) pl61 Z Z Z)<|zk (rows := [[_, _, _, _]]) ps62_1 Z Z Z Z Z<|z7 (y6 (cps := [(0, [_]), (1, [_])]) (rs := [_, _, .int .i64 0, .int .i64 0]) pl66 Z Z Z)<|z7 (y6 (cps := [(0, [_]), (2, [_]), (3, [_, _, _, _])]) (rs := [_, .raw (.slice none 0 0), _, _, _, _, _]) pl69 Z Z Z)<|yh (GStep.slot (t := 13) Z (Imp.agg (.cons (.refl _) (.cons (.nil 3) (.cons (.refl _) (.cons (.refl _) (.cons (.refl _) (.cons (.refl _) (.cons (.refl _) .nil)))))))))<|zk (rows := [[_, _, _, _, _, _, _]]) ps24_1 Z Z Z Z Z<|z7 (y6 (cps := [(0, [_]), (1, [_]), (2, [_])]) (rs := [_, _, _]) pl26 Z Z Z)<|zo (cs := [.raw (.slice none 0 0), .raw (.slice none 0 0), .raw (.slice none 0 0)]) Z6 Z Z<|fun i1 => zm jg Z Z Z Z Z Z .head Z<|yh (y8 (t := 1) Z .head)<|z6<|zSr<|zVGvloadWF jk jg Z Z<|ze (ht) Z<|z7 (zMu Z)<|z7 (yr (v := .str _) Z Z)<|z7 (zXi Z Z)<|z7 (zq (v := .str _) Z)<|zVzAi Z<|z6<|zSr<|zVzMi Z<|zVGveqlI Z Z<|zVzMb Z<|za Z Z Z<|z7 (y3 (v := .str _) Z)<|za Z Z Z<|z7 (Gv.eqlT Z Z)<|zVzPt Z Z Z ?_
 refine zVzAb Z<|z6<|zh<|zj (x := .bool _) Z ?_
 rfl
end Go.Proofs.YtpojdepccecpgaaGreatDoor
namespace Go.Proofs.YtpojdepccecpgaaGreatDoor
open Go.Proofs.Tryz
open Go.Proofs Go.Lib Go.Shelf Go.RowKit
set_option maxRecDepth 20000
variable {E : World}
theorem ty_row {t : Int} (h : 0 ≤ t ∧ t ≤ 2) : ([[.str ⟨#[105, 110, 116]⟩], [.str ⟨#[98, 111, 111, 108]⟩], [.str ⟨#[97, 114, 114]⟩]] : List (List AV))[t.toNat]? = some [.str (tyWord t)] := by
 have : t = 0 ∨ t = 1 ∨ t = 2 := by omega
 rcases this with rfl | rfl | rfl <;> rfl
theorem phiLk_succ {f : PFunc} {p : PPhi} {k : Nat} (h1 : k < p.from_.length) (h2 : k < p.args.length) : lineS (phiLk f p (k + 1)) = (((lineS (phiLk f p k) ++ spc) ++ bname f p.from_[k]) ++ spc) ++ vname f p.args[k] := by
 have e1 : (p.from_.map (bname f))[k]? = some (bname f p.from_[k]) := by rw [qh, q9 h1]; rfl
 have e2 : (p.args.map (vname f))[k]? = some (vname f p.args[k]) := by rw [qh, q9 h2]; rfl
 unfold phiLk
 rw [inter_succ e1 e2]
 have : ∀ (a : ByteArray) (l : List ByteArray) (x y : ByteArray), a :: (l ++ [x, y]) = ((a :: l) ++ [x]) ++ [y] := fun a l x y => by simp
 rw [show vname f p.dst :: eqS :: phiS :: (inter ((p.from_.map (bname f)).take k) ((p.args.map (vname f)).take k) ++ [bname f p.from_[k], vname f p.args[k]]) = ((vname f p.dst :: eqS :: phiS :: inter ((p.from_.map (bname f)).take k) ((p.args.map (vname f)).take k)) ++ [bname f p.from_[k]]) ++ [vname f p.args[k]] by simp]
 rw [List.cons_append, lineS_snoc, ← List.cons_append, lineS_snoc]
theorem headLk_succ {f : PFunc} {k : Nat} (h : k < f.vars.length) : lineS (headLk f (k + 1)) = (((lineS (headLk f k) ++ spc) ++ f.vars[k].name) ++ colon) ++ tyWord f.vars[k].ty := by
 unfold headLk
 rw [qa h, qj, List.map_cons, List.map_nil, ← List.cons_append, lineS_snoc]
 unfold pairW
 simp only [ByteArray.append_assoc]
theorem var_line (v : PVar) : lineS (varL v) = ((((⟨#[118, 97, 114, 32]⟩ : ByteArray) ++ v.name) ++ colon) ++ tyWord v.ty) := by
 unfold varL; rw [lineS_two]; unfold pairW
 have : (⟨#[118, 97, 114, 32]⟩ : ByteArray) = varS ++ spc := by decide
 rw [this]; simp only [ByteArray.append_assoc]
theorem refText_ex (f : PFunc) (hS : ShapedP f) (hT : TOk f) (hn : NumsOk f) : ACall prog E 13 [.agg (encF f)] [] (fun x O => ∃ _ : Unit, x = .str (textF f) ∧ Left O [] ∧ (textF f).size ≤ 1000002000000) := by
 obtain ⟨hf, hu, hb, hne⟩ := shaped_ok hS
 have hpar := hS.2.1
 have hpl : f.params.length ≤ f.vars.length := by have s1 := hS.1; unfold bad1 at s1; simp at s1; omega
 have hvl := hT.vars
 have hbl := hT.blks
 refine zl func13 Z (by decide) Z<|zSr<|y4 (cs := _) Z Z Z<|z7 (zq (v := .str _) Z)<|z6<|zSr<|zk (rows := [[_], [_], [_]]) ps84_3 Z Z Z Z Z<|z7 (zAf Z)<|z6<|zSr<|z7 (zq (v := .str _) Z)<|z6<|zb<|zSr<|zVzFF j6 Z jc Z Z<|zVzLf jm Z<|zVGvlenM j4 Z<|zVzMi Z<|z6<|zd<|zt (γ := Nat × ByteArray) [1, 3, 19] (fun g => [(20, .int .i64 g.1), (4, .str g.2)]) (fun g => []) (fun g => g.1 ≤ f.params.length ∧ g.2 = lineS (headLk f g.1) ∧ g.2.size ≤ 4 + g.1 * 1100) (fun g => f.params.length - g.1) (0, funcS) zR2 zLe (⟨qc _, (lineS_one funcS).symm, by decide⟩) ?_
 rintro ⟨k, acc⟩ ⟨hk, hacc, hsz⟩
 try dsimp only at *
 refine zSr<|zVGvlss Z Z<|z6<|zb<|zn Z (fun ck=>?_) (fun ck=>?_)
 ·have hk2 : k < f.params.length := by omega
  have hk3 : k < f.vars.length := by omega
  have hv := hf.vars _ (qd hk3)
  have hvs := hT.vn _ (qd hk3)
  have hts := ty_size hv.2
  refine zf<|zb<|zd<|zSr<|zVzMi Z<|zVzAi Z<|z6<|zw (fun j => false) (by kernel_rfl) Z (zy (.rest _))<|zTk 0 Z (y3 (v := .str _) Z)<|zTk 1 Z (yb Z Z (by (try simp only [app_size]); (try simp only [lit_size, List.size_toArray, List.length_cons, List.length_nil]); omega))<|zTk 2 Z (zFF j6 Z Z1 Z Z)<|zTk 3 Z (zLf Z7 Z)<|zTk 4 Z (zMi Z)<|zTk 5 Z (zIM k jn Z0 Z Z Z (q9 hk3))<|zTk 6 Z (zFF jv Z ju Z Z)<|zTk 7 Z (ye (c := .str _) jy Z)<|zTk 8 Z (yb Z Z (by (try simp only [app_size]); (try simp only [lit_size, List.size_toArray, List.length_cons, List.length_nil]); omega))<|zTk 9 Z (yb Z Z (by (try simp only [app_size]); (try simp only [lit_size, List.size_toArray, List.length_cons, List.length_nil]); omega))<|zTk 10 Z (zMf Z)<|zTk 11 Z (zFF j6 Z Z1 Z Z)<|zTk 12 Z (zLf Z7 Z)<|zTk 13 Z (zMi Z)<|zTk 14 Z (zIM k jn Z0 Z Z Z (q9 hk3))<|zTk 15 Z (zFF jv Z Y6 Z Z)<|zTk 16 Z (zLi Yb Z)<|zTk 17 Z (Gv.idxF (j := f.vars[k].ty.toNat) Z5 ju Z Z (by have := hv.2.1; omega) (ty_row hv.2))<|zTk 18 Z (ye (c := .str _) jy Z)<|zTk 19 Z (yb Z Z (by (try simp only [app_size]); (try simp only [lit_size, List.size_toArray, List.length_cons, List.length_nil]); omega))<|zTk 20 Z (zq (v := .str _) Z)<|zDn<|zRg<|zVzAd Z Z<|zVzMi Z<|z6 ?_
  exact ⟨(k + 1, (((acc ++ spc) ++ f.vars[k].name) ++ colon) ++ tyWord f.vars[k].ty), zR3, zR2, zLe, ⟨hk2, by dsimp only; rw [headLk_succ hk3, hacc], by dsimp only; simp only [app_size]; have e1 : spc.size = 1 := rfl; have e2 : colon.size = 1 := rfl; omega⟩, by dsimp only; omega⟩
 ·obtain rfl : k = f.params.length := by omega
  have hhead : headLk f f.params.length = headL f := rfl
  refine zr<|zSr<|z7 (y3 (v := .str _) Z)<|z7 (yb Z Z (by (try simp only [app_size]); (try simp only [lit_size, List.size_toArray, List.length_cons, List.length_nil]); omega))<|z7 (zq (v := .str _) Z)<|z6<|zb<|zSr<|zVzFF j6 Z jc Z Z<|zVzLf jm Z<|zVGvlenM j4 Z<|zVzAi Z<|z6<|zd<|zt (γ := Nat × ByteArray) [1, 3] (fun g => [(6, .int .i64 g.1), (4, .str g.2)]) (fun g => []) (fun g => f.params.length ≤ g.1 ∧ g.1 ≤ f.vars.length ∧ g.2 = unB (headL f :: ((f.vars.take g.1).drop f.params.length).map varL) ∧ g.2.size ≤ 5 + g.1 * 1100) (fun g => f.vars.length - g.1) (f.params.length, acc ++ nl) zR2 zLe (⟨Nat.le_refl _, hpl, by dsimp only; rw [List.drop_eq_nil_of_le (by rw [qk]; omega), hacc, hhead]; show _ = (lineS (headL f) ++ nl) ++ ByteArray.empty; rw [ByteArray.append_empty], by dsimp only; rw [app_size]; have e1 : nl.size = 1 := rfl; omega⟩) ?_
  rintro ⟨i, acc2⟩ ⟨hi1, hi2, hacc2, hsz2⟩
  try dsimp only at *
  refine zb<|zSr<|zVzMi Z<|zVzFF j6 Z Z1 Z Z<|zVzLf Z7 Z<|zVGvlenM jn Z<|zVGvlss Z Z<|z6<|zn Z (fun ci=>?_) (fun ci=>?_)
  ·have hi3 : i < f.vars.length := by simpa using ci
   have hv := hf.vars _ (qd hi3)
   have hvs := hT.vn _ (qd hi3)
   have hts := ty_size hv.2
   refine zf<|zb<|zd<|zw (fun j => false) (by kernel_rfl) Z (zy (.rest _))<|zTk 0 Z (y3 (v := .str _) Z)<|zTk 1 Z (yb Z Z (by (try simp only [app_size]); (try simp only [lit_size, List.size_toArray, List.length_cons, List.length_nil]); omega))<|zTk 2 Z (zFF j6 Z Z1 Z Z)<|zTk 3 Z (zLf Z7 Z)<|zTk 4 Z (zMi Z)<|zTk 5 Z (zIM i jn Z0 Z Z Z (q9 hi3))<|zTk 6 Z (zFF jv Z ju Z Z)<|zTk 7 Z (ye (c := .str _) jy Z)<|zTk 8 Z (yb Z Z (by (try simp only [app_size]); (try simp only [lit_size, List.size_toArray, List.length_cons, List.length_nil]); omega))<|zTk 9 Z (yb Z Z (by (try simp only [app_size]); (try simp only [lit_size, List.size_toArray, List.length_cons, List.length_nil]); omega))<|zTk 10 Z (zMf Z)<|zTk 11 Z (zFF j6 Z Z1 Z Z)<|zTk 12 Z (zLf Z7 Z)<|zTk 13 Z (zMi Z)<|zTk 14 Z (zIM i jn Z0 Z Z Z (q9 hi3))<|zTk 15 Z (zFF jv Z Y6 Z Z)<|zTk 16 Z (zLi Yb Z)<|zTk 17 Z (Gv.idxF (j := f.vars[i].ty.toNat) Z5 ju Z Z (by have := hv.2.1; omega) (ty_row hv.2))<|zTk 18 Z (ye (c := .str _) jy Z)<|zTk 19 Z (yb Z Z (by (try simp only [app_size]); (try simp only [lit_size, List.size_toArray, List.length_cons, List.length_nil]); omega))<|zTk 20 Z (yb Z Z (by (try simp only [app_size]); (try simp only [lit_size, List.size_toArray, List.length_cons, List.length_nil]); omega))<|zTk 21 Z (zq (v := .str _) Z)<|zDn<|zRg<|zVzMi Z<|zVzAd Z Z<|zVzAi Z<|z6 ?_
   exact ⟨(i + 1, ((((acc2 ++ (⟨#[118, 97, 114, 32]⟩ : ByteArray)) ++ f.vars[i].name) ++ colon) ++ tyWord f.vars[i].ty) ++ nl), zR2, zR2, zLe, ⟨by dsimp only; omega, hi3, by dsimp only; rw [qa hi3, List.drop_append_of_le_length (by rw [qk]; omega), qj, List.map_cons, List.map_nil, ← List.cons_append, unB_app, ← hacc2, var_line]; simp only [ByteArray.append_assoc], by dsimp only; simp only [app_size]; have e1 : nl.size = 1 := rfl; have e2 : colon.size = 1 := rfl; have e3 : (⟨#[118, 97, 114, 32]⟩ : ByteArray).size = 4 := rfl; omega⟩, by dsimp only; omega⟩
  ·obtain rfl : i = f.vars.length := by have : ¬ i < f.vars.length := (by simpa using ci); omega
   rw [qe] at hacc2
   obtain ⟨P0, hP0⟩ : ∃ P0, headL f :: (f.vars.drop f.params.length).map varL = P0 := ⟨_, rfl⟩
   have hlines : linesF f = P0 ++ f.blocks.flatMap (blkL f) := by rw [← hP0]; rfl
   rw [hP0] at hacc2
   refine zr<|zb<|zSr<|zVzFF j6 Z jo Z Z<|zVzLf jw Z<|zVGvlenM je Z<|zVzMi Z<|z6<|zd<|zt (γ := Nat × ByteArray) [1, 78, 79] (fun g => [(80, .int .i64 g.1), (4, .str g.2)]) (fun g => []) (fun g => g.1 ≤ f.blocks.length ∧ g.2 = unB (P0 ++ (f.blocks.take g.1).flatMap (blkL f)) ∧ g.2.size ≤ 2000000 + g.1 * 10000000000) (fun g => f.blocks.length - g.1) (0, acc2) zR2 zLe (⟨qc _, by dsimp only; rw [hacc2]; simp, by dsimp only; omega⟩) ?_
   rintro ⟨k, acc3⟩ ⟨hk3, hacc3, hsz3⟩
   try dsimp only at *
   refine zSr<|zVGvlss Z Z<|z6<|zb<|zn Z (fun cb=>?_) (fun cb=>?_)
   ·have hk4 : k < f.blocks.length := by omega
    obtain ⟨b, hbk⟩ : ∃ b, f.blocks[k] = b := ⟨_, rfl⟩
    have hget : f.blocks[k]? = some b := by rw [q9 hk4, hbk]
    have hbm : b ∈ f.blocks := hbk ▸ qd hk4
    obtain ⟨hbn, hb1, hb2, hb3⟩ := hf.blks b hbm
    have hbs := hT.bn b hbm
    have hTb := hT.each b hbm
    have hnb := hn b hbm
    have hp1 := hTb.phis
    have hp2 := hTb.insts
    obtain ⟨Q, hQ⟩ : ∃ Q, P0 ++ (f.blocks.take k).flatMap (blkL f) ++ [[blockS, b.name]] = Q := ⟨_, rfl⟩
    refine zf<|zb<|zd<|zSr<|z7 (zIM k je jj Z Z Z hget)<|zVGvloadWF Zc jj Z Z<|zo (cs := [.str ⟨#[]⟩, .raw (.slice none 0 0), .raw (.slice none 0 0), .int .i64 0, .int .i64 0, .int .i64 0, .int .i64 0]) jz Z Z<|fun i8 => zm jj Z Z Z Z Z Z .head Z<|z6<|zSr<|z7 (y3 (v := .str _) Z)<|z7 (yb Z Z (by (try simp only [app_size]); (try simp only [lit_size, List.size_toArray, List.length_cons, List.length_nil]); omega))<|z7 (zc j5 Z ju (by decide) Z Z)<|z7 (zi (c := .str _) jy Z ⟨_, .head⟩ Z)<|z7 (yb Z Z (by (try simp only [app_size]); (try simp only [lit_size, List.size_toArray, List.length_cons, List.length_nil]); omega))<|z7 (yb Z Z (by (try simp only [app_size]); (try simp only [lit_size, List.size_toArray, List.length_cons, List.length_nil]); omega))<|z7 (zq (v := .str _) Z)<|z6<|zb<|zSr<|z7 (zc j5 Z Z2 (by decide) Z Z)<|z7 (zi (c := .fro _ _) Zd Z ⟨_, .head⟩ Z)<|zVGvlenM jl Z<|zVzMi Z<|z6<|zd<|zt (γ := Nat × ByteArray) [1, 8, 78, 79, 80, 91, 92] (fun g => [(93, .int .i64 g.1), (4, .str g.2)]) (fun g => [(i8, .cells 69 (encBlk b))]) (fun g => g.1 ≤ b.phis.length ∧ g.2 = unB (Q ++ (b.phis.take g.1).map (phiL f)) ∧ g.2.size ≤ 2001100 + k * 10000000000 + g.1 * 4300000) (fun g => b.phis.length - g.1) (0, ((acc3 ++ (⟨#[98, 108, 111, 99, 107, 32]⟩ : ByteArray)) ++ b.name) ++ nl) zR2 zLe (⟨qc _, by dsimp only; rw [List.take_zero, List.map_nil, List.append_nil, ← hQ, unB_app, ← hacc3, lineS_two, show (⟨#[98, 108, 111, 99, 107, 32]⟩ : ByteArray) = blockS ++ spc by decide]; simp only [ByteArray.append_assoc], by dsimp only; simp only [app_size]; have e1 : nl.size = 1 := rfl; have e2 : (⟨#[98, 108, 111, 99, 107, 32]⟩ : ByteArray).size = 6 := rfl; omega⟩) ?_
    rintro ⟨j, acc4⟩ ⟨hj, hacc4, hsz4⟩
    try dsimp only at *
    refine zSr<|zVGvlss Z Z<|z6<|zb<|zn Z (fun cj=>?_) (fun cj=>?_)
    ·have hj2 : j < b.phis.length := by simp at cj; omega
     obtain ⟨p, hpj⟩ : ∃ p, b.phis[j] = p := ⟨_, rfl⟩
     have hgp : b.phis[j]? = some p := by rw [q9 hj2, hpj]
     have hpm : p ∈ b.phis := hpj ▸ qd hj2
     obtain ⟨g1, g2, g3, g4, g5⟩ := hb1 p hpm
     have g4 := List.all_eq_true.1 g4
     have g5 := List.all_eq_true.1 g5
     obtain ⟨d1, d2, d3, d4⟩ := has_get g1
     have hds := vname_sz hT g1
     have hpa := hTb.args p hpm
     have hds2 : (f.vars[p.dst.toNat]).name.size ≤ 1000 := by rw [← d4]; exact hds
     refine zf<|zb<|zd<|zSr<|z7 (zIM j jl jp Z Z Z hgp)<|zVGvloadWF Zf jp Z Z<|zo (cs := [.int .i64 0, .raw (.slice none 0 0), .raw (.slice none 0 0)]) Z4 Z Z<|fun i10 => zm jp Z Z Z Z Z Z .head Z<|z6<|zSr<|z7 (y3 (v := .str _) Z)<|zVzFF j6 Z Z1 Z Z<|zVzLf Z7 Z<|z7 (zc jd Z j8 (by decide) Z Z)<|z7 (zi (c := .int _ _) jh Z ⟨_, .head⟩ Z)<|z7 (zIM p.dst.toNat jn Z0 Z Z (by omega) d2)<|zVzFF jv Z ju Z Z<|z7 (ye (c := .str _) jy Z)<|z7 (yb Z Z (by (try simp only [app_size]); (try simp only [lit_size, List.size_toArray, List.length_cons, List.length_nil]); omega))<|z7 (yb Z Z (by (try simp only [app_size]); (try simp only [lit_size, List.size_toArray, List.length_cons, List.length_nil]); omega))<|z7 (zq (v := .str _) Z)<|z6<|zb<|zSr<|z7 (zc jd Z jc (by decide) Z Z)<|z7 (zi (c := .fro _ _) jm Z ⟨_, .head⟩ Z)<|zVGvlenM j4 Z<|zVzMi Z<|z6<|zd<|zt (γ := Nat × ByteArray) [1, 8, 10, 78, 79, 80, 91, 92, 93, 108, 109] (fun g => [(110, .int .i64 g.1), (4, .str g.2)]) (fun g => [(i10, .cells 71 (encPhi p)), (i8, .cells 69 (encBlk b))]) (fun g => g.1 ≤ p.args.length ∧ g.2 = acc4 ++ lineS (phiLk f p g.1) ∧ g.2.size ≤ 2002110 + k * 10000000000 + j * 4300000 + g.1 * 2002) (fun g => p.args.length - g.1) (0, (acc4 ++ f.vars[p.dst.toNat].name) ++ (⟨#[32, 61, 32, 112, 104, 105]⟩ : ByteArray)) zR2 zLe (⟨qc _, by dsimp only; rw [← d4]; show _ = acc4 ++ lineS [vname f p.dst, eqS, phiS]; rw [lineS_three, show (⟨#[32, 61, 32, 112, 104, 105]⟩ : ByteArray) = ((spc ++ eqS) ++ spc) ++ phiS by decide]; simp only [ByteArray.append_assoc], by dsimp only; simp only [app_size]; have e2 : (⟨#[32, 61, 32, 112, 104, 105]⟩ : ByteArray).size = 6 := rfl; omega⟩) ?_
     rintro ⟨m, acc5⟩ ⟨hm, hacc5, hsz5⟩
     try dsimp only at *
     refine zSr<|zVGvlss Z Z<|z6<|zb<|zn Z (fun cm=>?_) (fun cm=>?_)
     ·have hm2 : m < p.args.length := by simp at cm; omega
      have hm3 : m < p.from_.length := by omega
      obtain ⟨b1, b2, b3, b4⟩ := hasB_get (g5 _ (qd hm3))
      obtain ⟨v1, v2, v3, v4⟩ := has_get (g4 _ (qd hm2))
      have hs1 := bname_sz hT (g5 _ (qd hm3))
      have hs2 := vname_sz hT (g4 _ (qd hm2))
      have hs3 : (f.blocks[(p.from_[m]).toNat]).name.size ≤ 1000 := by rw [← b4]; exact hs1
      have hs4 : (f.vars[(p.args[m]).toNat]).name.size ≤ 1000 := by rw [← v4]; exact hs2
      refine zf<|zb<|zd<|zSr<|zVzMi Z<|z7 (zIM m j4 j8 Z Z Z (q9 hm2))<|zVzLi jh Z<|zVzAi Z<|zVzAi Z<|z6<|zw (fun j => false) (by kernel_rfl) Z (zy (.r (.rest _)))<|zTk 0 Z (y3 (v := .str _) Z)<|zTk 1 Z (yb Z Z (by (try simp only [app_size]); (try simp only [lit_size, List.size_toArray, List.length_cons, List.length_nil]); omega))<|zTk 2 Z (zFF j6 Z jo Z Z)<|zTk 3 Z (zLf jw Z)<|zTk 4 Z (zc jd Z jc (by decide) Z Z)<|zTk 5 Z (zi (c := .fro _ _) jm Z ⟨_, .head⟩ Z)<|zTk 6 Z (zMi Z)<|zTk 7 Z (zIM m j4 j8 Z Z Z (q9 hm3))<|zTk 8 Z (zLi jh Z)<|zTk 9 Z (yi (j := (p.from_[m]).toNat) je jj Z Z (by omega) b2)<|zTk 10 Z (zFF j5 Z ju Z Z)<|zTk 11 Z (ye (c := .str _) jy Z)<|zTk 12 Z (yb Z Z (by (try simp only [app_size]); (try simp only [lit_size, List.size_toArray, List.length_cons, List.length_nil]); omega))<|zTk 13 Z (yb Z Z (by (try simp only [app_size]); (try simp only [lit_size, List.size_toArray, List.length_cons, List.length_nil]); omega))<|zTk 14 Z (zFF j6 Z Z1 Z Z)<|zTk 15 Z (zLf Z7 Z)<|zTk 16 Z (zMi Z)<|zTk 17 Z (yi (j := (p.args[m]).toNat) jn Z0 Z Z (by omega) v2)<|zTk 18 Z (zFF jv Z ju Z Z)<|zTk 19 Z (ye (c := .str _) jy Z)<|zTk 20 Z (yb Z Z (by (try simp only [app_size]); (try simp only [lit_size, List.size_toArray, List.length_cons, List.length_nil]); omega))<|zTk 21 Z (zq (v := .str _) Z)<|zDn<|zRg<|zVzAd Z Z<|zVzMi Z<|z6 ?_
      exact ⟨(m + 1, (((acc5 ++ spc) ++ f.blocks[(p.from_[m]).toNat].name) ++ spc) ++ f.vars[(p.args[m]).toNat].name), ⟨rfl, rfl, rfl, rfl, rfl, rfl, rfl, rfl, rfl, rfl, rfl, trivial⟩, zR2, zLe, ⟨hm2, by dsimp only; rw [phiLk_succ hm3 hm2, b4, v4, hacc5]; simp only [ByteArray.append_assoc], by dsimp only; simp only [app_size]; have e1 : spc.size = 1 := rfl; omega⟩, by dsimp only; omega⟩
     ·obtain rfl : m = p.args.length := by simp at cm; omega
      have hfull : phiLk f p p.args.length = phiL f p := by
       unfold phiLk phiL
       rw [List.take_of_length_le (by simp; omega), List.take_of_length_le (by simp)]
      refine zr<|zRg<|z7 (y3 (v := .str _) Z)<|z7 (yb Z Z (by (try simp only [app_size]); (try simp only [lit_size, List.size_toArray, List.length_cons, List.length_nil]); omega))<|z7 (zq (v := .str _) Z)<|z6<|zRg<|zVzAd Z Z<|zVzMi Z<|z6 ?_
      exact ⟨(j + 1, acc5 ++ nl), zR7, zR2, ⟨_, (.drop (.refl _)), rfl⟩, ⟨hj2, by dsimp only; rw [qa hj2, hpj, qj, List.map_cons, List.map_nil, ← qb, unB_app, ← hacc4, hacc5, hfull]; simp only [ByteArray.append_assoc], by dsimp only; rw [app_size]; have e1 : nl.size = 1 := rfl; omega⟩, by dsimp only; omega⟩
    ·obtain rfl : j = b.phis.length := by simp at cj; omega
     rw [qe] at hacc4
     obtain ⟨Q2, hQ2⟩ : ∃ Q2, Q ++ b.phis.map (phiL f) = Q2 := ⟨_, rfl⟩
     rw [hQ2] at hacc4
     refine zr<|zb<|zSr<|z7 (zc j5 Z Z3 (by decide) Z Z)<|z7 (zi (c := .fro _ _) Zh Z ⟨_, .head⟩ Z)<|zVGvlenM jr Z<|zVzMi Z<|z6<|zd<|zt (γ := Nat × ByteArray) [1, 8, 78, 79, 80, 141, 142] (fun g => [(143, .int .i64 g.1), (4, .str g.2)]) (fun g => [(i8, .cells 69 (encBlk b))]) (fun g => g.1 ≤ b.insts.length ∧ g.2 = unB (Q2 ++ (b.insts.take g.1).map (wordsOf f)) ∧ g.2.size ≤ 9032001100 + k * 10000000000 + g.1 * 20001) (fun g => b.insts.length - g.1) (0, acc4) zR2 zLe (⟨qc _, by dsimp only; rw [List.take_zero, List.map_nil, List.append_nil, hacc4], by dsimp only; omega⟩) ?_
     rintro ⟨j, acc6⟩ ⟨hj2, hacc6, hsz6⟩
     try dsimp only at *
     refine zSr<|zVGvlss Z Z<|z6<|zb<|zn Z (fun ci2=>?_) (fun ci2=>?_)
     ·have hj3 : j < b.insts.length := by simp at ci2; omega
      obtain ⟨x, hxj⟩ : ∃ x, b.insts[j] = x := ⟨_, rfl⟩
      have hgx : b.insts[j]? = some x := by rw [q9 hj3, hxj]
      have hxm : x ∈ b.insts := hxj ▸ qd hj3
      have hxP := hb2 x hxm
      have hxF := instP_F hxP
      obtain ⟨hxl, hxs⟩ := refLine_sz hT hxP (hnb x hxm)
      have hdst : (kRow x.op).2.2 ≠ ⟨#[]⟩ → hasV f x.dst = true := fun h => by
       rcases hxF.dst with ⟨d, _⟩ | ⟨_, _, d⟩
       ·rw [makesB_eq, qm h] at d; cases d
       ·exact d
      refine zf<|zb<|zd<|zSr<|z7 (zIM j jr jt Z Z Z hgx)<|zVGvloadWF Zk jt Z Z<|zo (cs := [.int .i64 0, .int .i64 0, .raw (.slice none 0 0), .int .i64 0]) Zb Z Z<|fun i14 => zm jt Z Z Z Z Z Z .head Z<|z6<|zRg<|z7 (y3 (v := .str _) Z)<|zVGvloadWF jk jg Z Z<|z7 (yk Zk jt Z ⟨_, .head⟩ Z)<|ze (refInst_spec f x hxP hdst (by omega) hT.vn (hnb x hxm)) Z<|z7 (yb Z Z (by (try simp only [app_size]); (try simp only [lit_size, List.size_toArray, List.length_cons, List.length_nil]); omega))<|z7 (yb Z Z (by (try simp only [app_size]); (try simp only [lit_size, List.size_toArray, List.length_cons, List.length_nil]); omega))<|z7 (zq (v := .str _) Z)<|z6<|zRg<|zVzAd Z Z<|zVzMi Z<|z6 ?_
      exact ⟨(j + 1, (acc6 ++ refLine f x) ++ nl), zR7, zR2, ⟨_, (.drop (.refl _)), rfl⟩, ⟨hj3, by dsimp only; rw [qa hj3, hxj, qj, List.map_cons, List.map_nil, ← qb, unB_app, ← hacc6, inst_line_eq hxP]; simp only [ByteArray.append_assoc], by dsimp only; simp only [app_size]; have e1 : nl.size = 1 := rfl; omega⟩, by dsimp only; omega⟩
     ·obtain rfl : j = b.insts.length := by simp at ci2; omega
      rw [qe] at hacc6
      have hnext : P0 ++ (f.blocks.take (k + 1)).flatMap (blkL f) = (Q2 ++ b.insts.map (wordsOf f)) ++ [termL f b.term] := by
       rw [qa hk4, hbk, List.flatMap_append, ← hQ2, ← hQ]; simp [blkL]
      refine zr<|zSr<|z7 (zc j5 Z jq (by decide) Z Z)<|z7 (yy (l := [_, _, _, _]) Zt jq Z ⟨_, .head⟩ Z Z)<|zo (cs := [.int .i64 0, .int .i64 0, .int .i64 0, .int .i64 0]) zeroValue66 Z Z<|fun i15 => zm jq Z Z Z Z Z Z .head Z<|z6<|zSr<|z7 (zc j7 Z Za (by decide) Z Z)<|z7 (zi (c := .int _ _) Ze Z ⟨_, .head⟩ Z)<|z6<|zd<|zSr<|zVGveqlI Z Z<|zVzAb Z<|z6<|zn Z (fun k0=>?_) (fun k0=>?_)
      ·have k0 : b.term.kind = 0 := k0
       obtain ⟨b1, b2, b3, b4⟩ := hasB_get (termOK_0 hb3 k0)
       have hs1 := bname_sz hT (termOK_0 hb3 k0)
       have hs3 : (f.blocks[b.term.to0.toNat]).name.size ≤ 1000 := by rw [← b4]; exact hs1
       refine zRg<|z7 (y3 (v := .str _) Z)<|z7 (yb Z Z (by (try simp only [app_size]); (try simp only [lit_size, List.size_toArray, List.length_cons, List.length_nil]); omega))<|zVzFF j6 Z jo Z Z<|zVzLf jw Z<|z7 (zc j7 Z js (by decide) Z Z)<|z7 (q7 (j := 0) ji j8 Z Z Z (by decide) Z)<|z7 (zi (c := .int _ _) jh Z ⟨_, .head⟩ Z)<|z7 (zIM b.term.to0.toNat je jj Z Z (by omega) b2)<|zVzFF j5 Z ju Z Z<|z7 (ye (c := .str _) jy Z)<|z7 (yb Z Z (by (try simp only [app_size]); (try simp only [lit_size, List.size_toArray, List.length_cons, List.length_nil]); omega))<|z7 (yb Z Z (by (try simp only [app_size]); (try simp only [lit_size, List.size_toArray, List.length_cons, List.length_nil]); omega))<|z7 (zq (v := .str _) Z)<|z6<|zRg<|zVzAd Z Z<|zVzMi Z<|z6 ?_
       exact ⟨(k + 1, ((acc6 ++ (⟨#[106, 117, 109, 112, 32]⟩ : ByteArray)) ++ f.blocks[b.term.to0.toNat].name) ++ nl), zR3, zR2, ⟨_, (.drop (.drop (.refl _))), rfl⟩, ⟨hk4, by dsimp only; rw [hnext, unB_app, ← hacc6]; unfold termL; rw [if_pos k0, lineS_two, b4, show (⟨#[106, 117, 109, 112, 32]⟩ : ByteArray) = jumpS ++ spc by decide]; simp only [ByteArray.append_assoc], by dsimp only; simp only [app_size]; have e1 : nl.size = 1 := rfl; have e2 : (⟨#[106, 117, 109, 112, 32]⟩ : ByteArray).size = 5 := rfl; omega⟩, by dsimp only; omega⟩
      ·have k0 : ¬ b.term.kind = 0 := k0
       refine zSr<|zVGveqlI Z Z<|zVzAb Z<|z6<|zn Z (fun k1=>?_) (fun k1=>?_)
       ·have k1 : b.term.kind = 1 := k1
        obtain ⟨t1, t2, t3⟩ := termOK_1 hb3 k1
        obtain ⟨v1, v2, v3, v4⟩ := has_get t1
        obtain ⟨b1, b2, b3, b4⟩ := hasB_get t2
        obtain ⟨c1, c2, c3, c4⟩ := hasB_get t3
        have hs1 : (f.vars[b.term.var.toNat]).name.size ≤ 1000 := by rw [← v4]; exact vname_sz hT t1
        have hs2 : (f.blocks[b.term.to0.toNat]).name.size ≤ 1000 := by rw [← b4]; exact bname_sz hT t2
        have hs3 : (f.blocks[b.term.to1.toNat]).name.size ≤ 1000 := by rw [← c4]; exact bname_sz hT t3
        refine zw (fun j => false) (by kernel_rfl) Z (zy (.r (.rest _)))<|zTk 0 Z (y3 (v := .str _) Z)<|zTk 1 Z (yb Z Z (by (try simp only [app_size]); (try simp only [lit_size, List.size_toArray, List.length_cons, List.length_nil]); omega))<|zTk 2 Z (zFF j6 Z Z1 Z Z)<|zTk 3 Z (zLf Z7 Z)<|zTk 4 Z (zc j7 Z j8 (by decide) Z Z)<|zTk 5 Z (zi (c := .int _ _) jh Z ⟨_, .head⟩ Z)<|zTk 6 Z (zIM b.term.var.toNat jn Z0 Z Z (by omega) v2)<|zTk 7 Z (zFF jv Z ju Z Z)<|zTk 8 Z (ye (c := .str _) jy Z)<|zTk 9 Z (yb Z Z (by (try simp only [app_size]); (try simp only [lit_size, List.size_toArray, List.length_cons, List.length_nil]); omega))<|zTk 10 Z (yb Z Z (by (try simp only [app_size]); (try simp only [lit_size, List.size_toArray, List.length_cons, List.length_nil]); omega))<|zTk 11 Z (zFF j6 Z jo Z Z)<|zTk 12 Z (zLf jw Z)<|zTk 13 Z (zc j7 Z js (by decide) Z Z)<|zTk 14 Z (q7 (j := 0) ji j8 Z Z Z (by decide) Z)<|zTk 15 Z (zi (c := .int _ _) jh Z ⟨_, .head⟩ Z)<|zTk 16 Z (zIM b.term.to0.toNat je jj Z Z (by omega) b2)<|zTk 17 Z (zFF j5 Z ju Z Z)<|zTk 18 Z (ye (c := .str _) jy Z)<|zTk 19 Z (yb Z Z (by (try simp only [app_size]); (try simp only [lit_size, List.size_toArray, List.length_cons, List.length_nil]); omega))<|zTk 20 Z (yb Z Z (by (try simp only [app_size]); (try simp only [lit_size, List.size_toArray, List.length_cons, List.length_nil]); omega))<|zTk 21 Z (zFF j6 Z jo Z Z)<|zTk 22 Z (zLf jw Z)<|zTk 23 Z (zc j7 Z js (by decide) Z Z)<|zTk 24 Z (q7 (j := 1) ji j8 Z Z Z (by decide) Z)<|zTk 25 Z (zi (c := .int _ _) jh Z ⟨_, .head⟩ Z)<|zTk 26 Z (zIM b.term.to1.toNat je jj Z Z (by omega) c2)<|zTk 27 Z (zFF j5 Z ju Z Z)<|zTk 28 Z (ye (c := .str _) jy Z)<|zTk 29 Z (yb Z Z (by (try simp only [app_size]); (try simp only [lit_size, List.size_toArray, List.length_cons, List.length_nil]); omega))<|zTk 30 Z (yb Z Z (by (try simp only [app_size]); (try simp only [lit_size, List.size_toArray, List.length_cons, List.length_nil]); omega))<|zTk 31 Z (zq (v := .str _) Z)<|zDn<|zRg<|zVzAd Z Z<|zVzMi Z<|z6 ?_
        exact ⟨(k + 1, ((((((acc6 ++ (⟨#[105, 102, 32]⟩ : ByteArray)) ++ f.vars[b.term.var.toNat].name) ++ spc) ++ f.blocks[b.term.to0.toNat].name) ++ spc) ++ f.blocks[b.term.to1.toNat].name) ++ nl), zR3, zR2, ⟨_, (.drop (.drop (.refl _))), rfl⟩, ⟨hk4, by dsimp only; rw [hnext, unB_app, ← hacc6]; unfold termL; rw [if_neg k0, if_pos k1, lineS_four, v4, b4, c4, show (⟨#[105, 102, 32]⟩ : ByteArray) = ifS ++ spc by decide]; simp only [ByteArray.append_assoc], by dsimp only; simp only [app_size]; have e1 : nl.size = 1 := rfl; have e2 : (⟨#[105, 102, 32]⟩ : ByteArray).size = 3 := rfl; have e3 : spc.size = 1 := rfl; omega⟩, by dsimp only; omega⟩
       ·have k1 : ¬ b.term.kind = 1 := k1
        have t1 := termOK_2 hb3 k0 k1
        obtain ⟨v1, v2, v3, v4⟩ := has_get t1
        have hs1 : (f.vars[b.term.var.toNat]).name.size ≤ 1000 := by rw [← v4]; exact vname_sz hT t1
        refine zRg<|z7 (y3 (v := .str _) Z)<|z7 (yb Z Z (by (try simp only [app_size]); (try simp only [lit_size, List.size_toArray, List.length_cons, List.length_nil]); omega))<|zVzFF j6 Z Z1 Z Z<|zVzLf Z7 Z<|z7 (zc j7 Z j8 (by decide) Z Z)<|z7 (zi (c := .int _ _) jh Z ⟨_, .head⟩ Z)<|z7 (zIM b.term.var.toNat jn Z0 Z Z (by omega) v2)<|zVzFF jv Z ju Z Z<|z7 (ye (c := .str _) jy Z)<|z7 (yb Z Z (by (try simp only [app_size]); (try simp only [lit_size, List.size_toArray, List.length_cons, List.length_nil]); omega))<|z7 (yb Z Z (by (try simp only [app_size]); (try simp only [lit_size, List.size_toArray, List.length_cons, List.length_nil]); omega))<|z7 (zq (v := .str _) Z)<|z6<|zRg<|zVzAd Z Z<|zVzMi Z<|z6 ?_
        exact ⟨(k + 1, ((acc6 ++ (⟨#[114, 101, 116, 32]⟩ : ByteArray)) ++ f.vars[b.term.var.toNat].name) ++ nl), zR3, zR2, ⟨_, (.drop (.drop (.refl _))), rfl⟩, ⟨hk4, by dsimp only; rw [hnext, unB_app, ← hacc6]; unfold termL; rw [if_neg k0, if_neg k1, lineS_two, v4, show (⟨#[114, 101, 116, 32]⟩ : ByteArray) = retS ++ spc by decide]; simp only [ByteArray.append_assoc], by dsimp only; simp only [app_size]; have e1 : nl.size = 1 := rfl; have e2 : (⟨#[114, 101, 116, 32]⟩ : ByteArray).size = 4 := rfl; omega⟩, by dsimp only; omega⟩
   ·obtain rfl : k = f.blocks.length := by simp at cb; omega
    rw [qe] at hacc3
    have he : acc3 = textF f := by rw [hacc3, ← hlines]; rfl
    refine zr<|zSr<|z7 (y3 (v := .str _) Z)<|z7 (zq (v := .str _) Z)<|z6<|zh<|zj (x := .str _) Z ?_
    exact ⟨(), by rw [he], Left.none0 _, by rw [← he]; omega⟩
theorem refText_own (f : PFunc) (hS : ShapedP f) (hT : TOk f) (hn : NumsOk f) : ACall prog E 13 [.agg (encF f)] [] (fun x O => ∃ _ : Unit, x = .str (textF f) ∧ O = [] ∧ (textF f).size ≤ 1000002000000) :=
 ACall.exact (x := fun _ : Unit => .str (textF f)) (M := fun _ => []) (p := fun _ => (textF f).size ≤ 1000002000000) (refText_ex f hS hT hn)
end Go.Proofs.YtpojdepccecpgaaGreatDoor
