/- Numbers in another order, by a seed; names by numbers. No conditions but bounds. -/
import Derived.Test.YtpojdepccecpgaaGreatDoorHo
import Derived.Test.YtpojdepccecpgaaGreatDoorHd
set_option linter.unusedVariables false
set_option linter.unusedSimpArgs false
set_option linter.unusedSectionVars false
namespace Go.Proofs.YtpojdepccecpgaaGreatDoor
open Go.Proofs.Tryz
open Go.Proofs Go.Lib Go.Shelf Go.RowKit
theorem ps84_3 : PlacesS prog 84 9 3 1 [.str ⟨#[]⟩, .str ⟨#[]⟩, .str ⟨#[]⟩] := ⟨_, Zc, Z1, Y7, by decide, by decide, by kernel_rfl⟩
set_option maxRecDepth 20000
variable {E : World}
theorem variable_spec (v : PVar) (hv : v.name.size ≤ 1000) (ht : 0 ≤ v.ty ∧ v.ty ≤ 2) : AFun prog E 61 [.agg (encVar v)] (.str (pairW v)) := by
 have hts := ty_size ht
 refine zt func61 Z (by decide) Z<|zSr<|yc (cs := _) Z Z Z<|z8 (y9 (v := .str _) Z)<|z6<|ze<|y6 (fun j => false) (by kernel_rfl) Z (yb (.rest _))<|zTk 0 Z (zFF Z5 Z Z1 Z Z)<|zTk 1 Z (yp (c := .str _) Za Z)<|zTk 2 Z (Gv.addT Z Z (by (try simp only [app_size]); (try simp only [lit_size, List.size_toArray, List.length_cons, List.length_nil]); omega))<|zTk 3 Z (zFF Z5 Z Yg Z Z)<|zTk 4 Z (zLi isAgg56 Z)<|zOn 5 Z<|zg (tyWord_spec _) Z<|z6<|zTk 6 Z (Gv.addT Z Z (by (try simp only [app_size]); (try simp only [lit_size, List.size_toArray, List.length_cons, List.length_nil]); omega))<|zTk 7 Z (y9 (v := .str _) Z)<|zDn<|zk<|zm (x := .str _) Z ?_
 rfl
theorem phiLk_app {f : PFunc} {p : PPhi} {k : Nat} (h1 : k < p.from_.length) (h2 : k < p.args.length) : phiLk f p (k + 1) = phiLk f p k ++ [bname f p.from_[k], vname f p.args[k]] := by
 have e1 : (p.from_.map (bname f))[k]? = some (bname f p.from_[k]) := by rw [qi, qa h1]; rfl
 have e2 : (p.args.map (vname f))[k]? = some (vname f p.args[k]) := by rw [qi, qa h2]; rfl
 unfold phiLk
 rw [inter_succ e1 e2]; simp
theorem grow_push2 {α : Type} {enc : α → List AV} {xs ys : List α} {x y : α} (h : ys = xs ++ [x, y]) : (xs.map enc).flatten ++ [enc x, enc y].flatten = (ys.map enc).flatten := by subst h; simp
theorem inter_len : ∀ l m : List ByteArray, (inter l m).length ≤ l.length + m.length
 | [], _ => by simp [inter]
 | _ :: _, [] => by simp [inter]
 | a :: l, b :: m => by have := inter_len l m; simp [inter]; omega
theorem inter_in : ∀ {l m : List ByteArray} {x : ByteArray}, x ∈ inter l m → x ∈ l ∨ x ∈ m
 | [], _, _, h => by simp [inter] at h
 | _ :: _, [], _, h => by simp [inter] at h
 | a :: l, b :: m, x, h => by
  simp only [inter, List.mem_cons] at h
  rcases h with rfl | rfl | h
  ·simp
  ·simp
  ·rcases inter_in h with h | h <;> simp [h]
theorem phiLk_len {f : PFunc} {p : PPhi} {k : Nat} (h1 : k ≤ p.from_.length) (h2 : k ≤ p.args.length) : (phiLk f p k).length ≤ 3 + 2 * k := by
 have := inter_len ((p.from_.map (bname f)).take k) ((p.args.map (vname f)).take k)
 unfold phiLk
 simp only [List.length_cons]
 rw [ql, ql] at this
 omega
theorem lineS_size {ws : List ByteArray} {m : Nat} (h : ∀ x ∈ ws, x.size ≤ m) : (lineS ws).size ≤ ws.length * (m + 1) := by
 have := join_len ws m h
 have e : (Lib.join (ws.map (·.data.toList)) [32]).length = (lineS ws).size := (strL_size _).symm
 omega
theorem phiL_sz {f : PFunc} (hT : TOk f) {p : PPhi} (hp : PhiP f p) : ∀ x ∈ phiL f p, x.size ≤ 1000 := by
 obtain ⟨g1, g2, g3, g4, g5⟩ := hp
 have g4 := List.all_eq_true.1 g4
 have g5 := List.all_eq_true.1 g5
 intro x hx
 unfold phiL at hx
 simp only [List.mem_cons] at hx
 rcases hx with rfl | rfl | rfl | hx
 ·exact vname_sz hT g1
 ·decide
 ·decide
 ·rcases inter_in hx with hx | hx
  ·obtain ⟨v, hv, rfl⟩ := List.mem_map.1 hx; exact bname_sz hT (g5 v hv)
  ·obtain ⟨v, hv, rfl⟩ := List.mem_map.1 hx; exact vname_sz hT (g4 v hv)
theorem phiLk_full {f : PFunc} {p : PPhi} (h : p.args.length = p.from_.length) : phiLk f p p.args.length = phiL f p := by
 unfold phiLk phiL
 rw [List.take_of_length_le (by simp; omega), List.take_of_length_le (by simp)]
theorem phiL_len {f : PFunc} {p : PPhi} (h : p.args.length = p.from_.length) (hp : p.args.length ≤ 2100) : (phiL f p).length ≤ 5000 := by
 have := phiLk_len (f := f) (p := p) (k := p.args.length) (by omega) (by omega)
 rw [phiLk_full h] at this; omega
theorem joinedT_spec (f : PFunc) (p : PPhi) (hT : TOk f) (hp : PhiP f p) (hl : p.args.length ≤ 2100) : AFun prog E 62 [.agg (encF f), .agg (encPhi p)] (.str (lineS (phiL f p))) := by
 have hps := phiL_sz hT hp
 obtain ⟨g1, g2, g3, g4, g5⟩ := id hp
 have g4 := List.all_eq_true.1 g4
 have g5 := List.all_eq_true.1 g5
 obtain ⟨d1, d2, d3, d4⟩ := has_get g1
 have hjs : (Lib.join ((phiL f p).map (·.data.toList)) [32]).length = (lineS (phiL f p)).size := (strL_size _).symm
 have hls := lineS_size hps
 have hll := phiL_len (f := f) g2 hl
 have hmul : (phiL f p).length * (1000 + 1) ≤ 5000 * 1001 := Nat.mul_le_mul hll (Nat.le_refl _)
 refine zt func62 Z (by decide) Z<|zSr<|yc (cs := _) Z Z Z<|yc (cs := _) Z Z Z<|z8 (y9 (v := .str _) Z)<|z6<|zSr<|zVzFF jd Z Zb Z Z<|zVzLf Zh Z<|zVzFF jj Z j8 Z Z<|zVzLi jl Z<|z8 (zIM p.dst.toNat jk Z2 Z Z (by omega) d2)<|zVzFF Z5 Z Z1 Z Z<|z8 (yp (c := .str _) Za Z)<|AOps.buildSliceO (cps := [(0, [_]), (1, [_]), (2, [_])]) (rs := [_, _, _]) ps84_3 Z Z Z Z Z<|fun i15 => z8 (zAo Z)<|z6<|ze<|zSr<|zVzFF jj Z ji Z Z<|zVzLf jq Z<|zVGvlenM j6 Z<|zVzMi Z<|z6<|zi<|y7 (γ := Nat × Nat) [2, 3, 17, 18] (fun g => [(5, .own g.2 (phiLk f p g.1).length), (19, .int .i64 g.1)]) (fun g => [(g.2, .grow 1 9 ((phiLk f p g.1).map encS).flatten)]) (fun g => g.1 ≤ p.args.length) (fun g => p.args.length - g.1) (0, i15) zR2 ⟨_, (.refl _), by rw [show phiLk f p 0 = [f.vars[p.dst.toNat].name, eqS, phiS] by unfold phiLk; rw [d4]; rfl]; rfl⟩ (qd _) ?_
 rintro ⟨k, i⟩ hk
 try dsimp only at *
 refine zSr<|zVGvlss Z Z<|z6<|ze<|y2 Z (fun ck=>?_) (fun ck=>?_)
 ·have hk2 : k < p.args.length := by simp at ck; omega
  have hk3 : k < p.from_.length := by omega
  obtain ⟨b1, b2, b3, b4⟩ := hasB_get (g5 _ (qe hk3))
  obtain ⟨v1, v2, v3, v4⟩ := has_get (g4 _ (qe hk2))
  have hkl := phiLk_len (f := f) (p := p) (k := k) (by omega) (by omega)
  refine zj<|ze<|zi<|zSr<|zVzMi Z<|z8 (zIM k j6 j8 Z Z Z (qa hk2))<|zVzLi jl Z<|zVzAi Z<|zVzAi Z<|z6<|y6 (fun j => false) (by kernel_rfl) Z (yb (.rest _))<|zTk 0 Z (zMo Z)<|zTk 1 Z (zFF jd Z jw Z Z)<|zTk 2 Z (zLf Z3 Z)<|zTk 3 Z (zFF jj Z ji Z Z)<|zTk 4 Z (zLf jq Z)<|zTk 5 Z (zMi Z)<|zTk 6 Z (zIM k j6 j8 Z Z Z (qa hk3))<|zTk 7 Z (zLi jl Z)<|zTk 8 Z (yi (j := (p.from_[k]).toNat) jc jm Z Z (by omega) b2)<|zTk 9 Z (zFF j7 Z Z1 Z Z)<|zTk 10 Z (yp (c := .str _) Za Z)<|zTk 11 Z (zFF jd Z Zb Z Z)<|zTk 12 Z (zLf Zh Z)<|zTk 13 Z (zMi Z)<|zTk 14 Z (yi (j := (p.args[k]).toNat) jk Z2 Z Z (by omega) v2)<|zTk 15 Z (zFF Z5 Z Z1 Z Z)<|zTk 16 Z (yp (c := .str _) Za Z)<|zOn 17 Z<|zr (rows := [[_], [_]]) ps84_2 Z Z Z Z Z<|z6<|zOn 18 Z<|zq (k := 1) Zc type9 Z Z Z Z Z (fun _ => .head) (by rw [grow_len (k := 1) (fun _ => rfl)]) (by decide) Z (by show (_ + 2) * 16 ≤ _; omega) (by show _ + 2 ≤ _; omega)<|fun i42 => z6<|zTk 19 Z (zAo Z)<|zDn<|zRg<|zVzAd Z Z<|zVzMi Z<|z6 ?_
  exact ⟨(k + 1, i42), zR4, ⟨congrArg (AV.own i42) (by dsimp only; rw [phiLk_app hk3 hk2]; simp), rfl, trivial⟩, ⟨_, (.refl _), by dsimp only; rw [← grow_push2 (enc := encS) (phiLk_app hk3 hk2), b4, v4]; rfl⟩, hk2, by dsimp only; omega⟩
 ·have hkn : k = p.args.length := by simp at ck; omega
  subst hkn
  rw [phiLk_full g2]
  refine y4 (GStep.know (t := 5) (rows := (phiL f p).map encS) Z .head (by intro r hr; obtain ⟨x, _, rfl⟩ := List.mem_map.1 hr; rfl) (by decide) (by simp))<|y5<|zSr<|zVzMf Z<|zg (join_spec (phiL f p) _ (by omega) (by show (Lib.join _ [32]).length ≤ _; omega)) Z<|z8 (y9 (v := .str _) Z)<|z6<|zk<|zm (x := .str _) Z ?_
  rfl
theorem term_eq {f : PFunc} {t : PTerm} (h : termOK f t = true) : termLine f t = lineS (termL f t) := by
 unfold termLine termL
 rw [if_pos h]
 by_cases k0 : t.kind = 0
 ·rw [if_pos k0, if_pos k0, lineS_two, show (⟨#[106, 117, 109, 112, 32]⟩ : ByteArray) = jumpS ++ spc by decide]
 ·rw [if_neg k0, if_neg k0]
  by_cases k1 : t.kind = 1
  ·rw [if_pos k1, if_pos k1, lineS_four, show (⟨#[105, 102, 32]⟩ : ByteArray) = ifS ++ spc by decide]
  ·rw [if_neg k1, if_neg k1, lineS_two, show (⟨#[114, 101, 116, 32]⟩ : ByteArray) = retS ++ spc by decide]
theorem termL_sz {f : PFunc} (hT : TOk f) {t : PTerm} (h : termOK f t = true) : (lineS (termL f t)).size ≤ 5000 := by
 have hb : ∀ x ∈ termL f t, x.size ≤ 1000 := by
  intro x hx
  unfold termL at hx
  by_cases k0 : t.kind = 0
  ·rw [if_pos k0] at hx
   simp only [List.mem_cons, List.not_mem_nil, or_false] at hx
   rcases hx with rfl | rfl
   ·decide
   ·exact bname_sz hT (termOK_0 h k0)
  ·rw [if_neg k0] at hx
   by_cases k1 : t.kind = 1
   ·rw [if_pos k1] at hx
    obtain ⟨t1, t2, t3⟩ := termOK_1 h k1
    simp only [List.mem_cons, List.not_mem_nil, or_false] at hx
    rcases hx with rfl | rfl | rfl | rfl
    ·decide
    ·exact vname_sz hT t1
    ·exact bname_sz hT t2
    ·exact bname_sz hT t3
   ·rw [if_neg k1] at hx
    simp only [List.mem_cons, List.not_mem_nil, or_false] at hx
    rcases hx with rfl | rfl
    ·decide
    ·exact vname_sz hT (termOK_2 h k0 k1)
 have hl : (termL f t).length ≤ 4 := by unfold termL; split <;> (try split) <;> simp
 have := lineS_size hb
 have h2 : (termL f t).length * (1000 + 1) ≤ 4 * 1001 := Nat.mul_le_mul hl (Nat.le_refl _)
 omega
theorem pairW_sz {v : PVar} (hv : v.name.size ≤ 1000) (ht : 0 ≤ v.ty ∧ v.ty ≤ 2) : (pairW v).size ≤ 1100 := by
 have := ty_size ht
 unfold pairW
 rw [app_size, app_size]
 have : colon.size = 1 := rfl
 omega
theorem headLk_app {f : PFunc} {k : Nat} (h : k < f.vars.length) : headLk f (k + 1) = headLk f k ++ [pairW f.vars[k]] := by
 unfold headLk; rw [qb h, qk]; rfl
def capT (s : ByteArray) : ByteArray := if 16384 < s.size then ⟨#[]⟩ else s
def capE (s : ByteArray) : Int := if 16384 < s.size then 4 else 0
set_option maxHeartbeats 4000000 in
theorem text_good (f : PFunc) (hS : ShapedP f) (hT : TOk f) (hN : NumsOk f) (hsm : small f) (hP : Pows E) (hL : Letters E) :
  ACall prog E 30 [.agg (encF f)] [] (fun x O => ∃ _ : Unit, x = .tup [.str (capT (textF f)), .int .i64 (capE (textF f))] ∧ Left O [] ∧ True) := by
 have hfo := hsm.ok
 have hn := hsm.names
 obtain ⟨s1, s2, s3, _, _⟩ := id hsm
 obtain ⟨hf, hu, hb, hne⟩ := shaped_ok hS
 have hpl : f.params.length ≤ f.vars.length := by have s1 := hS.1; unfold bad1 at s1; simp at s1; omega
 have hvl := hT.vars
 have hbl := hT.blks
 have hsh : shapedB f = true := by rw [shapedB_eq]; exact qm hS
 have ssp : spc.size = 1 := rfl
 have snl : nl.size = 1 := rfl
 refine zt func30 Z (by decide) Z<|zSr<|yc (cs := _) Z Z Z<|z8 (y9 (v := .str _) Z)<|zVzAi Z<|z6<|ze<|zSr<|zVGvloadWF jp j9 Z Z<|zg (Shaped_spec _ (by assumption) (by omega) (by omega) (by omega) (by assumption) hL) Z<|zVGvnot Z<|z6<|yl Z (by simp [hsh])<|zj<|zSr<|zo (cs := [.raw (.pointer none), .raw (.slice none 0 0)]) zeroValue106 Z Z<|fun i4 => z6<|adoptC_wp (off := 1) (k := 1) (T := 5) (fun _ => .head) Z<|fun jb => zSr<|z8 (Gv.func Z Z)<|z8 (y9 (v := .fn _ _ _) Z)<|z6<|zSr<|AOps.buildSliceO (cps := [(0, [_])]) (rs := [_]) ps84_1 Z Z Z Z Z<|fun i20 => z8 (zAo Z)<|z6<|ze<|zSr<|zVzFF jd Z ji Z Z<|zVzLf jq Z<|zVGvlenM j6 Z<|zVzMi Z<|z6<|zi<|y7 (γ := Nat × Nat) [1, 4, 5, 23] (fun g => [(6, .own g.2 (1 + g.1)), (24, .int .i64 g.1)]) (fun g => [(g.2, .grow 1 9 ((headLk f g.1).map encS).flatten), (jb, .grow 1 5 []), (i4, .cells 106 [.raw (.pointer none), .own jb 0])]) (fun g => g.1 ≤ f.params.length) (fun g => f.params.length - g.1) (0, i20) zR2 zLe (qd _) ?_
 rintro ⟨k, i⟩ hk
 try dsimp only at *
 refine zSr<|zVGvlss Z Z<|z6<|ze<|y2 Z (fun ck=>?_) (fun ck=>?_)
 ·have hk2 : k < f.params.length := by simp at ck; omega
  have hk3 : k < f.vars.length := by omega
  have hv := hf.vars _ (qe hk3)
  have hvs := hT.vn _ (qe hk3)
  have hkl : (headLk f k).length = 1 + k := by unfold headLk; rw [List.length_cons, qh, ql]; omega
  refine zj<|ze<|zi<|zSr<|zVzMi Z<|zVzAi Z<|z6<|zRg<|z8 (zMo Z)<|zVzFF jd Z Zb Z Z<|zVzLf Zh Z<|zVzMi Z<|z8 (zIM k jk Z2 Z Z Z (qa hk3))<|zVGvloadWF Yf Z2 Z Z<|zg (variable_spec _ hvs hv.2) Z<|zr (rows := [[_]]) ps84_1 Z Z Z Z Z<|zq (k := 1) Zc type9 Z Z Z Z Z (fun _ => .head) (by rw [grow_len (k := 1) (fun _ => rfl), hkl]) (by decide) Z (by show (_ + 1) * 16 ≤ _; omega) (by show _ + 1 ≤ _; omega)<|fun i35 => z8 (zAo Z)<|z6<|zRg<|zVzAd Z Z<|zVzMi Z<|z6 ?_
  exact ⟨(k + 1, i35), zR4, zR2, ⟨_, (.refl _), by dsimp only; rw [← grow_push (enc := encS) (headLk_app hk3)]; rfl⟩, hk2, by dsimp only; omega⟩
 ·have hkn : k = f.params.length := by simp at ck; omega
  subst hkn
  have hhead : headLk f f.params.length = headL f := rfl
  rw [hhead]
  have hhl : (headL f).length = 1 + f.params.length := by rw [← hhead]; unfold headLk; rw [List.length_cons, qh, ql]; omega
  have hhs := lineS_size (ws := headL f) (m := 1100) (fun x hx => by
   unfold headL at hx
   rcases List.mem_cons.1 hx with rfl | hx
   ·decide
   ·obtain ⟨v, hv, rfl⟩ := List.mem_map.1 hx
    have hv := List.mem_of_mem_take hv
    exact pairW_sz (hT.vn v hv) (hf.vars v hv).2)
  have hhm : (headL f).length * (1100 + 1) ≤ 1001 * 1101 := Nat.mul_le_mul (by omega) (Nat.le_refl _)
  refine y4 (GStep.know (t := 6) (rows := (headL f).map encS) Z .head (by intro r hr; obtain ⟨x, _, rfl⟩ := List.mem_map.1 hr; rfl) (by decide) (by rw [qh]; exact hhl))<|y4 (zb (zc .t1))<|y5<|zSr<|z8 (ye (v := .fn _ _ _) Z)<|zVzMf Z<|AOps.callVA Z Z (yb (.l (.l (.rest _)))) ((line_new ⟨#[]⟩ (headL f) (by omega) (by omega) (by decide)).exact) ?_
  rintro r39 O39 ⟨j0, rfl, rfl, _⟩
  obtain ⟨ds, hds⟩ : ∃ ds, f.vars.drop f.params.length = ds := ⟨_, rfl⟩
  have hdl : ds.length ≤ 1000 := by rw [← hds, List.length_drop]; omega
  obtain ⟨a0, ha0⟩ : ∃ a0, (⟨#[]⟩ : ByteArray) ++ (lineS (headL f) ++ nl) = a0 := ⟨_, rfl⟩
  rw [ha0]
  have ha0s : a0.size ≤ 1102103 ∧ 1 ≤ a0.size := by rw [← ha0, app_size, app_size]; have : (⟨#[]⟩ : ByteArray).size = 0 := rfl; omega
  have ha0u : a0 = unB [headL f] := by rw [← ha0]; show _ = (lineS (headL f) ++ nl) ++ unB []; show _ = (lineS (headL f) ++ nl) ++ ByteArray.empty; rw [ByteArray.append_empty]; exact ByteArray.empty_append
  refine z6<|ze<|zSr<|zVzFF jd Z Zb Z Z<|zVzLf Zh Z<|zVzFF jd Z ji Z Z<|zVzLf jq Z<|zVGvlenM j6 Z<|z8 (Gv.cutLoM (j := f.params.length) jk Z2 Z Z Z hpl)<|zVGvlenM jk Z<|zVzMi Z ?_
  rw [hds]
  refine z6<|zi<|y7 (γ := Nat × Nat × ByteArray) [1, 4, 5, 45, 46] (fun g => [(47, .int .i64 g.1)]) (fun g => [(i4, .cells 106 [.po i4 0, .own g.2.1 g.2.2.size]), (g.2.1, .grow 1 5 (strAV g.2.2))]) (fun g => g.1 ≤ ds.length ∧ g.2.2 = unB (headL f :: (ds.take g.1).map varL) ∧ g.2.2.size ≤ 1102103 + g.1 * 3000 ∧ 1 ≤ g.2.2.size) (fun g => ds.length - g.1) (0, j0, a0) zR1 zLe (⟨qd _, ha0u, by dsimp only; omega, by dsimp only; omega⟩) ?_
  rintro ⟨k, j, acc⟩ ⟨hk, hacc, hsz, hnz0⟩
  try dsimp only at *
  refine zSr<|zVGvlss Z Z<|z6<|ze<|y2 Z (fun ck=>?_) (fun ck=>?_)
  ·have hk2 : k < ds.length := by simp at ck; omega
   have hvm : ds[k] ∈ f.vars := List.mem_of_mem_drop (by rw [hds]; exact qe hk2)
   have hv := hf.vars _ hvm
   have hvs := hT.vn _ hvm
   have hvl2 := lineS_size (ws := varL ds[k]) (m := 1100) (fun x hx => by
    unfold varL at hx
    simp only [List.mem_cons, List.not_mem_nil, or_false] at hx
    rcases hx with rfl | rfl
    ·decide
    ·exact pairW_sz hvs hv.2)
   have hvl3 : (varL ds[k]).length = 2 := rfl
   rw [hvl3] at hvl2
   refine zj<|ze<|zi<|zSr<|z8 (zIM k jk Z2 Z Z Z (qa hk2))<|zVGvloadWF Yf Z2 Z Z<|zo (cs := [.str ⟨#[]⟩, .int .i64 0]) Y8 Z Z<|fun i9 => zh Z2 Z Z Z Z Z Z .head Z<|z6<|zRg<|z8 (ye (v := .fn _ _ _) Z)<|z8 (yh Yf Z2 Z ⟨_, .head⟩ Z)<|zg (variable_spec _ hvs hv.2) Z<|zr (rows := [[_], [_]]) ps84_2 Z Z Z Z Z<|AOps.callVA Z Z (yb (.r (.l (.l (.rest _))))) ((line_used acc (varL ds[k]) (by omega) (by omega) (by omega)).exact) ?_
   rintro r55 O55 ⟨j2, rfl, rfl, _⟩
   refine z6<|zRg<|zVzAd Z Z<|zVzMi Z<|z6 ?_
   exact ⟨(k + 1, j2, acc ++ (lineS (varL ds[k]) ++ nl)), zR5, zR1, ⟨_, (.keep (.keep (.drop (.refl _)))), rfl⟩, ⟨hk2, by dsimp only; rw [qb hk2, qk, List.map_cons, List.map_nil, ← List.cons_append, unB_app, ← hacc], by dsimp only; rw [app_size, app_size]; omega, by dsimp only; rw [app_size]; omega⟩, by dsimp only; omega⟩
  ·have hkn : k = ds.length := by simp at ck; omega
   subst hkn
   rw [qf] at hacc
   obtain ⟨P0, hP0⟩ : ∃ P0, headL f :: ds.map varL = P0 := ⟨_, rfl⟩
   have hlines : linesF f = P0 ++ f.blocks.flatMap (blkL f) := by rw [← hP0, ← hds]; rfl
   rw [hP0] at hacc
   refine y5<|ze<|zSr<|zVzFF jd Z jw Z Z<|zVzLf Z3 Z<|zVGvlenM jc Z<|zVzMi Z<|z6<|zi<|y7 (γ := Nat × Nat × ByteArray) [1, 4, 5, 58, 59] (fun g => [(60, .int .i64 g.1)]) (fun g => [(i4, .cells 106 [.po i4 0, .own g.2.1 g.2.2.size]), (g.2.1, .grow 1 5 (strAV g.2.2))]) (fun g => g.1 ≤ f.blocks.length ∧ g.2.2 = unB (P0 ++ (f.blocks.take g.1).flatMap (blkL f)) ∧ g.2.2.size ≤ 5000000 + g.1 * 20000000000 ∧ 1 ≤ g.2.2.size) (fun g => f.blocks.length - g.1) (0, j, acc) zR1 zLe (⟨qd _, by dsimp only; rw [hacc]; simp, by dsimp only; omega, by dsimp only; omega⟩) ?_
   rintro ⟨k, j, acc3⟩ ⟨hk3, hacc3, hsz3, hnz⟩
   try dsimp only at *
   refine zSr<|zVGvlss Z Z<|z6<|ze<|y2 Z (fun cb=>?_) (fun cb=>?_)
   ·have hk4 : k < f.blocks.length := by simp at cb; omega
    obtain ⟨b, hbk⟩ : ∃ b, f.blocks[k] = b := ⟨_, rfl⟩
    have hget : f.blocks[k]? = some b := by rw [qa hk4, hbk]
    have hbm : b ∈ f.blocks := hbk ▸ qe hk4
    obtain ⟨hbn, hb1, hb2, hb3⟩ := hf.blks b hbm
    have hbs := hT.bn b hbm
    have hTb := hT.each b hbm
    have hnb := hN b hbm
    have hp1 := hTb.phis
    have hp2 := hTb.insts
    have hbl2 := lineS_size (ws := [blockS, b.name]) (m := 1000) (fun x hx => by
     simp only [List.mem_cons, List.not_mem_nil, or_false] at hx
     rcases hx with rfl | rfl
     ·decide
     ·exact hbs)
    have hbl3 : ([blockS, b.name] : List ByteArray).length = 2 := rfl
    rw [hbl3] at hbl2
    obtain ⟨Q, hQ⟩ : ∃ Q, P0 ++ (f.blocks.take k).flatMap (blkL f) ++ [[blockS, b.name]] = Q := ⟨_, rfl⟩
    refine zj<|ze<|zi<|zSr<|z8 (zIM k jc jm Z Z Z hget)<|zVGvloadWF Ze jm Z Z<|zo (cs := [.str ⟨#[]⟩, .raw (.slice none 0 0), .raw (.slice none 0 0), .int .i64 0, .int .i64 0, .int .i64 0, .int .i64 0]) Z0 Z Z<|fun i11 => zh jm Z Z Z Z Z Z .head Z<|z6<|zSr<|z8 (ye (v := .fn _ _ _) Z)<|z8 (zf j7 Z Z1 (by decide) Z Z)<|z8 (zp (c := .str _) Za Z ⟨_, .head⟩ Z)<|zr (rows := [[_], [_]]) ps84_2 Z Z Z Z Z<|AOps.callVA Z Z (yb (.r (.l (.l (.rest _))))) ((line_used acc3 [blockS, b.name] (by omega) (by omega) (by omega)).exact) ?_
    rintro r68 O68 ⟨j2, rfl, rfl, _⟩
    obtain ⟨a4, ha4⟩ : ∃ a4, acc3 ++ (lineS [blockS, b.name] ++ nl) = a4 := ⟨_, rfl⟩
    have ha4s : a4.size ≤ 5003000 + k * 20000000000 ∧ 1 ≤ a4.size := by rw [← ha4, app_size, app_size]; omega
    have ha4u : a4 = unB Q := by rw [← ha4, ← hQ, unB_app, ← hacc3]
    rw [ha4]
    refine z6<|ze<|zSr<|z8 (zf j7 Z Z6 (by decide) Z Z)<|z8 (zp (c := .fro _ _) Zk Z ⟨_, .t2⟩ Z)<|zVGvlenM jo Z<|zVzMi Z<|z6<|zi<|y7 (γ := Nat × Nat × ByteArray) [1, 4, 5, 11, 58, 59, 60, 70, 71] (fun g => [(72, .int .i64 g.1)]) (fun g => [(i4, .cells 106 [.po i4 0, .own g.2.1 g.2.2.size]), (g.2.1, .grow 1 5 (strAV g.2.2)), (i11, .cells 69 (encBlk b))]) (fun g => g.1 ≤ b.phis.length ∧ g.2.2 = unB (Q ++ (b.phis.take g.1).map (phiL f)) ∧ g.2.2.size ≤ 5003000 + k * 20000000000 + g.1 * 5006000 ∧ 1 ≤ g.2.2.size) (fun g => b.phis.length - g.1) (0, j2, a4) zR1 zLe (⟨qd _, by dsimp only; rw [ha4u]; simp, by dsimp only; omega, by dsimp only; omega⟩) ?_
    rintro ⟨m, j, acc4⟩ ⟨hm, hacc4, hsz4, hnz4⟩
    try dsimp only at *
    refine zSr<|zVGvlss Z Z<|z6<|ze<|y2 Z (fun cm=>?_) (fun cm=>?_)
    ·have hm2 : m < b.phis.length := by simp at cm; omega
     obtain ⟨p, hpm⟩ : ∃ p, b.phis[m] = p := ⟨_, rfl⟩
     have hgp : b.phis[m]? = some p := by rw [qa hm2, hpm]
     have hpmem : p ∈ b.phis := hpm ▸ qe hm2
     have hP2 := hb1 p hpmem
     have hpa := hTb.args p hpmem
     have hps := lineS_size (phiL_sz hT hP2)
     have hpl2 := phiL_len (f := f) hP2.2.1 hpa.1
     have hpm2 : (phiL f p).length * (1000 + 1) ≤ 5000 * 1001 := Nat.mul_le_mul hpl2 (Nat.le_refl _)
     refine zj<|ze<|zi<|zSr<|z8 (zIM m jo ju Z Z Z hgp)<|zVGvloadWF Zj ju Z Z<|zo (cs := [.int .i64 0, .raw (.slice none 0 0), .raw (.slice none 0 0)]) Z9 Z Z<|fun i13 => zh ju Z Z Z Z Z Z .head Z<|z6<|zRg<|z8 (ye (v := .fn _ _ _) Z)<|zVGvloadWF jp j9 Z Z<|z8 (yh Zj ju Z ⟨_, .head⟩ Z)<|zg (joinedT_spec f p hT hP2 hpa.1) Z<|zr (rows := [[_]]) ps84_1 Z Z Z Z Z<|AOps.callVA Z Z (yb (.r (.l (.l (.r (.rest _)))))) ((line_used acc4 [lineS (phiL f p)] (by simp) (by rw [lineS_one]; omega) (by omega)).exact) ?_
     rintro r81 O81 ⟨j3, rfl, rfl, _⟩
     refine z6<|zRg<|zVzAd Z Z<|zVzMi Z<|z6 ?_
     exact ⟨(m + 1, j3, acc4 ++ (lineS [lineS (phiL f p)] ++ nl)), zR9, zR1, ⟨_, (.keep (.keep (.drop (.refl _)))), rfl⟩, ⟨hm2, by dsimp only; rw [qb hm2, hpm, qk, List.map_cons, List.map_nil, ← qc, unB_app, ← hacc4, lineS_one], by dsimp only; rw [app_size, app_size, lineS_one]; omega, by dsimp only; rw [app_size]; omega⟩, by dsimp only; omega⟩
    ·have hmn : m = b.phis.length := by simp at cm; omega
     subst hmn
     rw [qf] at hacc4
     obtain ⟨Q2, hQ2⟩ : ∃ Q2, Q ++ b.phis.map (phiL f) = Q2 := ⟨_, rfl⟩
     rw [hQ2] at hacc4
     refine y5<|ze<|zSr<|z8 (zf j7 Z Z7 (by decide) Z Z)<|z8 (zp (c := .fro _ _) Zm Z ⟨_, .t2⟩ Z)<|zVGvlenM js Z<|zVzMi Z<|z6<|zi<|y7 (γ := Nat × Nat × ByteArray) [1, 4, 5, 11, 58, 59, 60, 84, 85] (fun g => [(86, .int .i64 g.1)]) (fun g => [(i4, .cells 106 [.po i4 0, .own g.2.1 g.2.2.size]), (g.2.1, .grow 1 5 (strAV g.2.2)), (i11, .cells 69 (encBlk b))]) (fun g => g.1 ≤ b.insts.length ∧ g.2.2 = unB (Q2 ++ (b.insts.take g.1).map (wordsOf f)) ∧ g.2.2.size ≤ 15003000000 + k * 20000000000 + g.1 * 21000 ∧ 1 ≤ g.2.2.size) (fun g => b.insts.length - g.1) (0, j, acc4) zR1 zLe (⟨qd _, by dsimp only; rw [hacc4]; simp, by dsimp only; omega, by dsimp only; omega⟩) ?_
     rintro ⟨m, j, acc5⟩ ⟨hm, hacc5, hsz5, hnz5⟩
     try dsimp only at *
     refine zSr<|zVGvlss Z Z<|z6<|ze<|y2 Z (fun ci=>?_) (fun ci=>?_)
     ·have hm2 : m < b.insts.length := by simp at ci; omega
      obtain ⟨x, hxm⟩ : ∃ x, b.insts[m] = x := ⟨_, rfl⟩
      have hgx : b.insts[m]? = some x := by rw [qa hm2, hxm]
      have hxmem : x ∈ b.insts := hxm ▸ qe hm2
      have hxP := hb2 x hxmem
      obtain ⟨hxl, hxs⟩ := refLine_sz hT hxP (hnb x hxmem)
      have hxe : instLine f x = lineS (wordsOf f x) := by rw [line_eq hxP, inst_line_eq hxP]
      have hxz : (instLine f x).size ≤ 20000 := by rw [line_eq hxP]; exact hxs
      refine zj<|ze<|zi<|zSr<|z8 (zIM m js jx Z Z Z hgx)<|zVGvloadWF Zn jx Z Z<|zo (cs := [.int .i64 0, .int .i64 0, .raw (.slice none 0 0), .int .i64 0]) Zf Z Z<|fun i15 => zh jx Z Z Z Z Z Z .head Z<|z6<|zRg<|z8 (ye (v := .fn _ _ _) Z)<|zVGvloadWF jp j9 Z Z<|z8 (yh Zn jx Z ⟨_, .head⟩ Z)<|zg (Inst_spec f x (by omega) hT.vn (fun _ => hnb x hxmem) hP) Z<|zr (rows := [[_]]) ps84_1 Z Z Z Z Z<|AOps.callVA Z Z (yb (.r (.l (.l (.r (.rest _)))))) ((line_used acc5 [instLine f x] (by simp) (by rw [lineS_one]; omega) (by omega)).exact) ?_
      rintro r95 O95 ⟨j3, rfl, rfl, _⟩
      refine z6<|zRg<|zVzAd Z Z<|zVzMi Z<|z6 ?_
      exact ⟨(m + 1, j3, acc5 ++ (lineS [instLine f x] ++ nl)), zR9, zR1, ⟨_, (.keep (.keep (.drop (.refl _)))), rfl⟩, ⟨hm2, by dsimp only; rw [qb hm2, hxm, qk, List.map_cons, List.map_nil, ← qc, unB_app, ← hacc5, lineS_one, hxe], by dsimp only; rw [app_size, app_size, lineS_one]; omega, by dsimp only; rw [app_size]; omega⟩, by dsimp only; omega⟩
     ·have hmn : m = b.insts.length := by simp at ci; omega
      subst hmn
      rw [qf] at hacc5
      have htz := termL_sz hT hb3
      have hte := term_eq hb3
      have hnext : P0 ++ (f.blocks.take (k + 1)).flatMap (blkL f) = (Q2 ++ b.insts.map (wordsOf f)) ++ [termL f b.term] := by
       rw [qb hk4, hbk, List.flatMap_append, ← hQ2, ← hQ]; simp [blkL]
      refine y5<|zRg<|z8 (ye (v := .fn _ _ _) Z)<|zVGvloadWF jp j9 Z Z<|z8 (zf j7 Z jv (by decide) Z Z)<|z8 (Gv.loadAC (l := [_, _, _, _]) Zy jv Z ⟨_, .t2⟩ Z Z)<|zg (Term_spec f b.term hsm) Z<|zr (rows := [[_]]) ps84_1 Z Z Z Z Z<|AOps.callVA Z Z (yb (.l (.l (.r (.rest _))))) ((line_used acc5 [termLine f b.term] (by simp) (by rw [lineS_one, hte]; omega) (by omega)).exact) ?_
      rintro r103 O103 ⟨j3, rfl, rfl, _⟩
      refine z6<|zRg<|zVzAd Z Z<|zVzMi Z<|z6 ?_
      exact ⟨(k + 1, j3, acc5 ++ (lineS [termLine f b.term] ++ nl)), zR5, zR1, ⟨_, (.keep (.keep (.drop (.refl _)))), rfl⟩, ⟨hk4, by dsimp only; rw [hnext, unB_app, ← hacc5, lineS_one, hte], by dsimp only; rw [app_size, app_size, lineS_one, hte]; omega, by dsimp only; rw [app_size]; omega⟩, by dsimp only; omega⟩
   ·have hkn : k = f.blocks.length := by simp at cb; omega
    subst hkn
    rw [qf] at hacc3
    have he : acc3 = textF f := by rw [hacc3, ← hlines]; rfl
    have hsz5 : acc3.size ≤ 5000000 + 100 * 20000000000 := Nat.le_trans hsz3 (Nat.add_le_add_left (Nat.mul_le_mul_right _ hbl) _)
    refine y5<|ze<|zSr<|yv Z (yb (.l (.l (.rest _)))) (bldLen_spec acc3) ?_
    rintro r105 O105 ⟨rfl, rfl⟩
    refine z8 (q7 Z Z)<|z6<|y2 Z (fun ct=>?_) (fun ct=>?_)
    ·refine zSr<|z8 (y9 (v := .str _) Z)<|zVzAi Z<|z6<|zk<|afin.t2 (x := .str _) (y := .int _ _) Z Z ?_
     exact ⟨(), by unfold capT capE; rw [← he, if_pos (by omega), if_pos (by omega)], Left.none0 _, trivial⟩
    ·refine zj<|zSr<|yv Z (yb (.l (.l (.rest _)))) (bldString_spec acc3 (by omega) (by omega)) ?_
     rintro r107 O107 ⟨rfl, rfl⟩
     refine z8 (y9 (v := .str _) Z)<|zVzAi Z<|z6<|zk<|afin.t2 (x := .str _) (y := .int _ _) Z Z ?_
     exact ⟨(), by unfold capT capE; rw [← he, if_neg (by omega), if_neg (by omega)], Left.none0 _, trivial⟩
end Go.Proofs.YtpojdepccecpgaaGreatDoor
namespace Go.Proofs.YtpojdepccecpgaaGreatDoor
open Go.Proofs.Tryz
open Go.Proofs
def Imp (x y : AV) : Prop := ∀ I v, RepV I x v → RepV I y v
def ImpL (xs ys : List AV) : Prop := ∀ I vs, RepL I xs vs → RepL I ys vs
theorem Imp.refl (x : AV) : Imp x x := fun _ _ h => h
theorem Imp.nil (k : Nat) : Imp (.raw (.slice none 0 0)) (.fro k []) := fun _ _ h => ⟨none, 0, 0, h, rfl, Nat.le_refl _, fun _ => rfl, trivial⟩
theorem ImpL.nil : ImpL [] [] := fun _ _ h => h
theorem ImpL.cons {x y : AV} {xs ys : List AV} (h : Imp x y) (hs : ImpL xs ys) : ImpL (x :: xs) (y :: ys) := fun I _ ⟨v, us, e, h1, h2⟩ => ⟨v, us, e, h I v h1, hs I us h2⟩
theorem Imp.agg {xs ys : List AV} (h : ImpL xs ys) : Imp (.agg xs) (.agg ys) := fun I _ ⟨vs, e, h1⟩ => ⟨vs, e, h I vs h1⟩
end Go.Proofs.YtpojdepccecpgaaGreatDoor
namespace Go.Proofs.YtpojdepccecpgaaGreatDoor
open Go.Proofs.Tryz
open Go.Proofs Go.Lib Go.Shelf Go.RowKit
theorem ps22_3 : PlacesS prog 22 58 3 2 [.str ⟨#[]⟩, .int .i64 0, .str ⟨#[]⟩, .int .i64 0, .str ⟨#[]⟩, .int .i64 0] := ⟨_, jk, Z2, Y8, by decide, by decide, by kernel_rfl⟩
variable {E : World}
set_option maxRecDepth 20000
theorem ptext_spec (f : PFunc) (hS : ShapedP f) (hT : TOk f) (hN : NumsOk f) (hsm : small f) (hP : Pows E) (hL : Letters E) : AFun prog E 30 [.agg (encF f)] (.tup [.str (capT (textF f)), .int .i64 (capE (textF f))]) :=
 (text_good f hS hT hN hsm hP hL).mono fun _ _ ⟨_, e, _, _⟩ => e
theorem can_tok {f : PFunc} (hf : small f) (hT : typedB f = true) (hJ : JoinP f) : TOk (canD f) := by
 have hc := can_small hT hJ hf
 have hS := (typedS (can_typed hT hJ).1).1
 unfold bad1 at hS
 simp only [Bool.or_eq_false_iff, decide_eq_false_iff_not] at hS
 exact ⟨hc.1, by omega, hc.2.2.2.1, fun b hb => (hc.2.2.2.2 b hb).1, fun b hb => by
  obtain ⟨g1, g2, g3, g4, g5⟩ := hc.2.2.2.2 b hb
  exact ⟨by omega, by omega, fun p hp => by have := g4 p hp; omega⟩⟩
theorem can_nums {f : PFunc} (hT : typedB f = true) (hN : NumsOk f) : NumsOk (canD f) := fun b hb x hx => by
 obtain ⟨c, hc, rfl⟩ := List.mem_map.1 hb
 obtain ⟨q, hq, rfl⟩ := List.mem_map.1 hc
 obtain ⟨y, hy, rfl⟩ := List.mem_map.1 hx
 have hm : q.1 ∈ ord f := by
  obtain ⟨k, hk⟩ := List.getElem?_of_mem hq
  rw [List.getElem?_zipIdx] at hk
  cases hg : (ord f)[k]? with
  | none => rw [hg] at hk; cases hk
  | some z => rw [hg] at hk; cases hk; exact qj hg
 have hr := order_rng (typedE hT).grph.toEOk hm
 exact hN _ (blkX_mem hr.1 hr.2) y hy
theorem ctext_good (f : PFunc) (hf : small f) (hN : NumsOk f) (hL : Letters E) (hPw : Pows E) (ht : typedB f = true) (hJ : JoinP f) : AFun prog E 10 [.agg (encF f)] (.tup [.str (capT (textF (canD f))), .int .i64 (capE (textF (canD f)))]) := by
 have hc := can_typed ht hJ
 refine zt func10 Z (by decide) Z<|zSr<|yc (cs := _) Z Z Z<|z8 (y9 (v := .str _) Z)<|zVzAi Z<|z6<|zSr<|zVGvloadWF jp j9 Z Z<|zg (canon_good f hf hL hPw ht hJ) Z<|z8 (zMu Z)<|z8 (yw (v := .agg _) Z Z)<|z8 (zXi Z Z)<|zo (cs := [.raw (.slice none 0 0), .raw (.slice none 0 0), .raw (.slice none 0 0)]) jn Z Z<|fun i4 => zh j9 Z Z Z Z Z Z .head Z<|zd (yf (t := 4) Z .head)<|zVzAi Z<|z6<|ze<|zSr<|zVzMi Z<|zVGvneqI Z Z<|z6<|yl Z Z<|zj<|zSr<|zVGvloadWF jp j9 Z Z<|zg (ptext_spec (canD f) (typedS hc.1) (can_tok hf ht hJ) (can_nums ht hN) (can_small ht hJ hf) hPw hL) Z<|z8 (yw (v := .str _) Z Z)<|z8 (zXi Z Z)<|z8 (y9 (v := .str _) Z)<|zVzAi Z<|z6<|zk<|afin.t2 (x := .str _) (y := .int _ _) Z Z ?_
 rfl
def exC : PFunc := ⟨[⟨⟨#[110]⟩, 0⟩, ⟨⟨#[107]⟩, 0⟩, ⟨⟨#[109]⟩, 0⟩], [0], [⟨⟨#[97]⟩, [], [⟨2, 2, [0, 0], 0⟩], ⟨2, 2, 0, 0⟩⟩]⟩
theorem exC_typed : typedB exC = true := by decide +kernel
theorem exC_join : JoinP exC := (joinedB_iff _).1 (by decide +kernel)
theorem exC_small : small exC := by unfold small exC; simp [smallBlk]; decide
theorem exC_text : textF (canD exC) = ⟨#[102, 117, 110, 99, 32, 118, 48, 58, 105, 110, 116, 10, 118, 97, 114, 32, 118, 49, 58, 105, 110, 116, 10, 98, 108, 111, 99, 107, 32, 98, 48, 10, 118, 49, 32, 61, 32, 97, 100, 100, 32, 118, 48, 32, 118, 48, 10, 114, 101, 116, 32, 118, 49, 10]⟩ := by decide +kernel
theorem lives18_spec (hL : Letters E) (hPw : Pows E) : AFun prog E 7 [] (.bool true) := by
 have ht := ctext_good (E := E) exC exC_small (fun b hb x hx => by
  cases hb with
  | head => cases hx with
   | head => exact ⟨by decide, by decide⟩
   | tail _ h => cases h
  | tail _ h => cases h) hL hPw exC_typed exC_join
 rw [exC_text] at ht
 have ht : AFun prog E 10 [.agg (encF exC)] (.tup [.str ⟨#[102, 117, 110, 99, 32, 118, 48, 58, 105, 110, 116, 10, 118, 97, 114, 32, 118, 49, 58, 105, 110, 116, 10, 98, 108, 111, 99, 107, 32, 98, 48, 10, 118, 49, 32, 61, 32, 97, 100, 100, 32, 118, 48, 32, 118, 48, 10, 114, 101, 116, 32, 118, 49, 10]⟩, .int .i64 0]) := ht
 refine zt func7 Z (by decide) Z<|zSr<|zVzAb Z<|z6<|zSr<|z8 (y1 (cps := [(0, [_])]) (rs := [_, .int .i64 0]) pl58 Z Z Z)<|z8 (y1 (cps := [(0, [_])]) (rs := [_, .int .i64 0]) pl58 Z Z Z)<|z8 (y1 (cps := [(0, [_])]) (rs := [_, .int .i64 0]) pl58 Z Z Z)<|zr (rows := [[_, _], [_, _], [_, _]]) ps22_3 Z Z Z Z Z<|zr (rows := [[_]]) ps23_1 Z Z Z Z Z<|zr (rows := [[_], [_]]) ps23_2 Z Z Z Z Z<|z8 (y1 (cps := [(0, [_]), (1, [_]), (2, [_])]) (rs := [_, _, _, .int .i64 0]) pl61 Z Z Z)<|zr (rows := [[_, _, _, _]]) ps62_1 Z Z Z Z Z<|z8 (y1 (cps := [(0, [_]), (1, [_])]) (rs := [_, _, .int .i64 0, .int .i64 0]) pl66 Z Z Z)<|z8 (y1 (cps := [(0, [_]), (2, [_]), (3, [_, _, _, _])]) (rs := [_, .raw (.slice none 0 0), _, _, _, _, _]) pl69 Z Z Z)<|zd (GStep.slot (t := 13) Z (Imp.agg (.cons (.refl _) (.cons (.nil 3) (.cons (.refl _) (.cons (.refl _) (.cons (.refl _) (.cons (.refl _) (.cons (.refl _) .nil)))))))))<|zr (rows := [[_, _, _, _, _, _, _]]) ps24_1 Z Z Z Z Z<|z8 (y1 (cps := [(0, [_]), (1, [_]), (2, [_])]) (rs := [_, _, _]) pl26 Z Z Z)<|zo (cs := [.raw (.slice none 0 0), .raw (.slice none 0 0), .raw (.slice none 0 0)]) jn Z Z<|fun i1 => zh j9 Z Z Z Z Z Z .head Z<|zd (yf (t := 1) Z .head)<|z6<|zSr<|zVGvloadWF jp j9 Z Z<|zg (ht) Z<|z8 (zMu Z)<|z8 (yw (v := .str _) Z Z)<|z8 (zXi Z Z)<|z8 (y9 (v := .str _) Z)<|zVzAi Z<|z6<|zSr<|zVzMi Z<|zVGveqlI Z Z<|zVzMb Z<|za Z Z Z<|z8 (ye (v := .str _) Z)<|za Z Z Z<|z8 (Gv.eqlT Z Z)<|zVzPt Z Z Z ?_
 refine zVzAb Z<|z6<|zk<|zm (x := .bool _) Z ?_
 rfl
end Go.Proofs.YtpojdepccecpgaaGreatDoor
namespace Go.Proofs.YtpojdepccecpgaaGreatDoor
open Go.Proofs.Tryz
open Go.Proofs Go.Lib Go.Shelf Go.RowKit
theorem ps104_4 : PlacesS prog 104 5 4 1 [.int .u8 0, .int .u8 0, .int .u8 0, .int .u8 0] := ⟨_, Zv, sizeOf5, Yb, by decide, by decide, by kernel_rfl⟩
variable {E : World}
set_option maxRecDepth 20000
theorem Gv.shr {P : Program} {env : AEnv} {O : OL} {d ty : Nat} {pos : String} {af : Array Edge} {x y : Operand} {t u : TypeId} {k yk : IntKind} {a b r : Int} (hx : aev env x = .int k a) (hy : aev env y = .int yk b) (h0 : 0 ≤ b) (h1 : b ≤ k.bits) (hr : a / 2 ^ b.toNat = r) :
  Gv P env O (Oper.mk (some d) (.binOp .shr t x y u) ty pos af none) (.int k r) := q8 fun I ρ h => ⟨_, rfl, fun w => by
 have e1 := evI h hx
 have e2 := evI h hy
 have he : (eqGuard .shr t x y (.int k a) (.int yk b)).run P w = .ok () w := by unfold eqGuard; rfl
 simp only [execOp, e1, e2]
 simp [he, binOp, shift_shr _ _ _ _ h0 h1, hr]⟩
def numsL (k : Nat) : List Int := (List.range k).map fun j : Nat => (j : Int)
theorem numsL_len (k : Nat) : (numsL k).length = k := by simp [numsL]
theorem numsL_succ (k : Nat) : numsL (k + 1) = numsL k ++ [(k : Int)] := by simp [numsL, List.range_succ]
theorem u64_rng (x : Int) : 0 ≤ IntKind.u64.wrap x ∧ IntKind.u64.wrap x ≤ 18446744073709551615 := by
 unfold IntKind.wrap; simp [IntKind.bits, IntKind.signed]; omega
theorem mod_rng {z m : Int} (hz : 0 ≤ z) (hm : 0 < m) (hm2 : m ≤ 100000) : 0 ≤ IntKind.i64.wrap (z.tmod m) ∧ IntKind.i64.wrap (z.tmod m) ≤ m - 1 := by
 have h1 := Int.tmod_nonneg m hz
 have h2 := Int.tmod_lt_of_pos z hm
 unfold IntKind.wrap; simp [IntKind.bits, IntKind.signed]; omega
def wordN (c : UInt8) (k : Nat) : ByteArray := ⟨#[c, UInt8.ofNat (48 + k / 100), UInt8.ofNat (48 + k / 10 % 10), UInt8.ofNat (48 + k % 10)]⟩
def ShufP (n from_ : Nat) (l : List Int) : Prop := l.Perm (numsL n) ∧ ∀ j, j < from_ → l[j]? = some (j : Int)
theorem shuffle_spec (n from_ : Nat) (seed : Int) (hn : n ≤ 1000) (hf : from_ ≤ n) (hs : 0 ≤ seed ∧ seed ≤ 18446744073709551615) : ACall prog E 43 [.int .i64 n, .int .i64 from_, .int .u64 seed] [] (fun x O' => ∃ l : List Int, x = .fro 1 (l.map encI) ∧ O' = [] ∧ ShufP n from_ l) := by
 refine ACall.exact (γ := List Int) (x := fun l => .fro 1 (l.map encI)) (M := fun _ => []) (p := fun l => ShufP n from_ l)<|zt func43 Z (by decide) Z<|zSr<|z8 (zAr Z)<|z6<|zSr<|z8 (zAr Z)<|z6<|adopt_wp (t := 7) (k := 1) (T := 3) Z<|fun i7 => ze<|zSr<|zVzMi Z<|zVzMi Z<|z6<|zi<|y7 (γ := Nat × Nat) [0, 1, 2, 11] (fun g => [(12, .int .i64 g.1), (7, .own g.2 g.1)]) (fun g => [(g.2, .grow 1 3 (cI (numsL g.1)))]) (fun g => g.1 ≤ n) (fun g => n - g.1) (0, i7) zR2 zLe (qd _) ?_
 rintro ⟨k, i⟩ hk
 try dsimp only at *
 refine zSr<|zVGvlss Z Z<|z6<|ze<|y2 Z (fun ck=>?_) (fun ck=>?_)
 ·have hk2 : k < n := by omega
  refine zj<|ze<|zi<|zSr<|zVzMi Z<|zVzAi Z<|z6<|zRg<|z8 (zMo Z)<|zVzMi Z<|zr (rows := [[_]]) ps23_1 Z Z Z Z Z<|zq (k := 1) j6 jz Z Z Z Z Z (fun _ => .head) (by rw [cI_len, numsL_len]; omega) (by decide) Z (by show (_ + _) * 8 ≤ _; simp <;> omega) (by simp <;> omega)<|fun i18 => z8 (zAo Z)<|z6<|zRg<|zVzAd Z Z<|zVzMi Z<|z6 ?_
  exact ⟨(k + 1, i18), zR4, zR2, ⟨_, (.refl _), by rw [numsL_succ, ← cI_app]; rfl⟩, hk2, by dsimp only; omega⟩
 ·obtain rfl : k = n := by omega
  refine y5<|ze<|zSr<|zVzMi Z<|z8 (Gv.sub Z Z (by unfold I64; omega))<|zVzAi Z<|z6<|zi<|y7 (γ := Int × List Int × Int) [1, 7] (fun g => [(9, .int .i64 g.1), (2, .int .u64 g.2.2)]) (fun g => [(i, .grow 1 3 (cI g.2.1))]) (fun g => (-1 ≤ g.1 ∧ g.1 < k) ∧ g.2.1.length = k ∧ ShufP k from_ g.2.1 ∧ (0 ≤ g.2.2 ∧ g.2.2 ≤ 18446744073709551615)) (fun g => (g.1 + 1).toNat) ((k : Int) - 1, numsL k, seed) zR2 zLe (⟨⟨by omega, by dsimp only; omega⟩, numsL_len _, ⟨.refl _, fun j hj => by unfold numsL; rw [qi, List.getElem?_range (by omega)]; rfl⟩, hs⟩) ?_
  rintro ⟨c, l, sd⟩ ⟨hc, hl, hp, hsd⟩
  try dsimp only at *
  refine ze<|zSr<|zVzMi Z<|zVzMi Z<|z8 (q7 Z Z)<|z6<|y2 Z (fun cc=>?_) (fun cc=>?_)
  ·have cc : (from_ : Int) < c := by omega
   obtain ⟨hp1, hp2⟩ := hp
   have hD : IntKind.u64.wrap (c - (from_ : Int) + 1) = c - from_ + 1 := by unfold IntKind.wrap; simp [IntKind.bits, IntKind.signed]; omega
   have hA := u64_rng (IntKind.u64.wrap (sd * 6364136223846793005) + 1442695040888963407)
   have hK : 0 ≤ IntKind.i64.wrap ((IntKind.u64.wrap (IntKind.u64.wrap (sd * 6364136223846793005) + 1442695040888963407) / 2 ^ (33 : Int).toNat).tmod (IntKind.u64.wrap (c - (from_ : Int) + 1))) ∧ IntKind.i64.wrap ((IntKind.u64.wrap (IntKind.u64.wrap (sd * 6364136223846793005) + 1442695040888963407) / 2 ^ (33 : Int).toNat).tmod (IntKind.u64.wrap (c - (from_ : Int) + 1))) ≤ c - from_ := by
    rw [hD]
    have := mod_rng (z := IntKind.u64.wrap (IntKind.u64.wrap (sd * 6364136223846793005) + 1442695040888963407) / 2 ^ (33 : Int).toNat) (m := c - from_ + 1) (Int.ediv_nonneg hA.1 (by decide)) (by omega) (by omega)
    exact ⟨this.1, by omega⟩
   obtain ⟨K, hKe⟩ := Int.eq_ofNat_of_zero_le (show 0 ≤ (from_ : Int) + IntKind.i64.wrap ((IntKind.u64.wrap (IntKind.u64.wrap (sd * 6364136223846793005) + 1442695040888963407) / 2 ^ (33 : Int).toNat).tmod (IntKind.u64.wrap (c - (from_ : Int) + 1))) by omega)
   have hK1 : from_ ≤ K := by omega
   have hK2 : K < l.length := by omega
   have hC2 : c.toNat < l.length := by omega
   refine zj<|ze<|zi<|zSr<|zVzMi Z<|z8 (Gv.mulW Z Z)<|z8 (Gv.addW Z Z)<|zVzAi Z<|z6<|zSr<|zVzMi Z<|zVzMi Z<|z8 (Gv.shr Z Z (by decide) (by decide) Z)<|zVzMi Z<|zVzMi Z<|z8 (Gv.sub Z Z (by unfold I64; omega))<|zVzAd Z Z<|z8 (Gv.conv Z8 Y2 Z)<|z8 (Gv.rem Z Z (by omega))<|z8 (Gv.conv Y2 Z8 Z)<|zVzAd Z Z<|zVzAi Z<|z6<|yt (γ := List Int) [1, 2, 7, 9] (fun g => [(10, .int .i64 (K : Int))]) (fun g => [(i, .grow 1 3 (cI g))]) (fun g => g = (l.set c.toNat l[K]).set K l[c.toNat]) ?_ (fun _ _ h => h) ?_
   ·refine y6 (fun j => Nat.beq j 13 || Nat.beq j 15) (by kernel_rfl) Z (yb (.rest _))<|zTk 0 Z (zMo Z)<|zTk 1 Z (zMi Z)<|yx (i := 2) Z (by kernel_rfl) (by kernel_rfl) (by kernel_rfl) (by kernel_rfl) (zMo Z)<|yx (i := 3) Z (by kernel_rfl) (by kernel_rfl) (by kernel_rfl) (by kernel_rfl) (zMi Z)<|zTk 4 Z (zMo Z)<|zTk 5 Z (zMi Z)<|yx (i := 8) Z (by kernel_rfl) (by kernel_rfl) (by kernel_rfl) (by kernel_rfl) (zMo Z)<|yx (i := 9) Z (by kernel_rfl) (by kernel_rfl) (by kernel_rfl) (by kernel_rfl) (zMi Z)<|yg (i := 6) (j := 10) Z Z (by kernel_rfl) ?_ ?_
    ·refine z8 (q0 (j := K) j6 j8 Z Z hKe ⟨_, .head⟩ (by rw [cI_len, hl]) (by omega))<|z6<|yg (i := 7) (j := 10) Z Z (by kernel_rfl) ?_ ?_
     ·refine z8 (Gv.loadI (j := K) jl Z ⟨_, .head⟩ (qa hK2))<|z6<|zOn 10 Z<|z8 (q0 (j := c.toNat) j6 j8 Z Z (by omega) ⟨_, .head⟩ (by rw [cI_len, hl]) (by omega))<|z6<|zOn 11 Z<|z8 (Gv.loadI (j := c.toNat) jl Z ⟨_, .head⟩ (qa hC2))<|z6<|zOn 12 Z<|z8 (q0 (j := c.toNat) j6 j8 Z Z (by omega) ⟨_, .head⟩ (by rw [cI_len, hl]) (by omega))<|z6<|zw<|zu (i := 13) Z (by kernel_rfl) (by kernel_rfl)<|yy (j := c.toNat) j8 Z Z .head (by first | omega | (simp; omega))<|z6<|zu (i := 14) Z (by kernel_rfl) (by kernel_rfl)<|z8 (q0 (j := K) j6 j8 Z Z hKe ⟨_, .head⟩ (by rw [cI_len, List.length_set, hl]) (by omega))<|z6<|zu (i := 15) Z (by kernel_rfl) (by kernel_rfl)<|yy (j := K) j8 Z Z .head (by first | omega | (simp; omega))<|z6<|zz (by kernel_rfl) ?_
      exact ⟨((l.set c.toNat l[K]).set K l[c.toNat]), zR4, ⟨congrArg (AV.int .i64) hKe, trivial⟩, zLe, rfl⟩
     ·refine z8 (q0 (j := c.toNat) j6 j8 Z Z (by omega) ⟨_, .head⟩ (by rw [cI_len, hl]) (by omega))<|z6<|yg (i := 7) (j := 11) Z Z (by kernel_rfl) ?_ ?_
      ·refine z8 (Gv.loadI (j := K) jl Z ⟨_, .head⟩ (qa hK2))<|z6<|zOn 11 Z<|z8 (Gv.loadI (j := c.toNat) jl Z ⟨_, .head⟩ (qa hC2))<|z6<|zOn 12 Z<|z8 (q0 (j := c.toNat) j6 j8 Z Z (by omega) ⟨_, .head⟩ (by rw [cI_len, hl]) (by omega))<|z6<|zw<|zu (i := 13) Z (by kernel_rfl) (by kernel_rfl)<|yy (j := c.toNat) j8 Z Z .head (by first | omega | (simp; omega))<|z6<|zu (i := 14) Z (by kernel_rfl) (by kernel_rfl)<|z8 (q0 (j := K) j6 j8 Z Z hKe ⟨_, .head⟩ (by rw [cI_len, List.length_set, hl]) (by omega))<|z6<|zu (i := 15) Z (by kernel_rfl) (by kernel_rfl)<|yy (j := K) j8 Z Z .head (by first | omega | (simp; omega))<|z6<|zz (by kernel_rfl) ?_
       exact ⟨((l.set c.toNat l[K]).set K l[c.toNat]), zR4, ⟨congrArg (AV.int .i64) hKe, trivial⟩, zLe, rfl⟩
      ·refine z8 (Gv.loadI (j := c.toNat) jl Z ⟨_, .head⟩ (qa hC2))<|z6<|zOn 7 Z<|z8 (Gv.loadI (j := K) jl Z ⟨_, .head⟩ (qa hK2))<|z6<|zOn 12 Z<|z8 (q0 (j := c.toNat) j6 j8 Z Z (by omega) ⟨_, .head⟩ (by rw [cI_len, hl]) (by omega))<|z6<|zw<|zu (i := 13) Z (by kernel_rfl) (by kernel_rfl)<|yy (j := c.toNat) j8 Z Z .head (by first | omega | (simp; omega))<|z6<|zu (i := 14) Z (by kernel_rfl) (by kernel_rfl)<|z8 (q0 (j := K) j6 j8 Z Z hKe ⟨_, .head⟩ (by rw [cI_len, List.length_set, hl]) (by omega))<|z6<|zu (i := 15) Z (by kernel_rfl) (by kernel_rfl)<|yy (j := K) j8 Z Z .head (by first | omega | (simp; omega))<|z6<|zz (by kernel_rfl) ?_
       exact ⟨((l.set c.toNat l[K]).set K l[c.toNat]), zR4, ⟨congrArg (AV.int .i64) hKe, trivial⟩, zLe, rfl⟩
    ·refine z8 (q0 (j := c.toNat) j6 j8 Z Z (by omega) ⟨_, .head⟩ (by rw [cI_len, hl]) (by omega))<|z6<|yg (i := 6) (j := 11) Z Z (by kernel_rfl) ?_ ?_
     ·refine z8 (q0 (j := K) j6 j8 Z Z hKe ⟨_, .head⟩ (by rw [cI_len, hl]) (by omega))<|z6<|yg (i := 7) (j := 11) Z Z (by kernel_rfl) ?_ ?_
      ·refine z8 (Gv.loadI (j := K) jl Z ⟨_, .head⟩ (qa hK2))<|z6<|zOn 11 Z<|z8 (Gv.loadI (j := c.toNat) jl Z ⟨_, .head⟩ (qa hC2))<|z6<|zOn 12 Z<|z8 (q0 (j := c.toNat) j6 j8 Z Z (by omega) ⟨_, .head⟩ (by rw [cI_len, hl]) (by omega))<|z6<|zw<|zu (i := 13) Z (by kernel_rfl) (by kernel_rfl)<|yy (j := c.toNat) j8 Z Z .head (by first | omega | (simp; omega))<|z6<|zu (i := 14) Z (by kernel_rfl) (by kernel_rfl)<|z8 (q0 (j := K) j6 j8 Z Z hKe ⟨_, .head⟩ (by rw [cI_len, List.length_set, hl]) (by omega))<|z6<|zu (i := 15) Z (by kernel_rfl) (by kernel_rfl)<|yy (j := K) j8 Z Z .head (by first | omega | (simp; omega))<|z6<|zz (by kernel_rfl) ?_
       exact ⟨((l.set c.toNat l[K]).set K l[c.toNat]), zR4, ⟨congrArg (AV.int .i64) hKe, trivial⟩, zLe, rfl⟩
      ·refine z8 (Gv.loadI (j := c.toNat) jl Z ⟨_, .head⟩ (qa hC2))<|z6<|zOn 7 Z<|z8 (Gv.loadI (j := K) jl Z ⟨_, .head⟩ (qa hK2))<|z6<|zOn 12 Z<|z8 (q0 (j := c.toNat) j6 j8 Z Z (by omega) ⟨_, .head⟩ (by rw [cI_len, hl]) (by omega))<|z6<|zw<|zu (i := 13) Z (by kernel_rfl) (by kernel_rfl)<|yy (j := c.toNat) j8 Z Z .head (by first | omega | (simp; omega))<|z6<|zu (i := 14) Z (by kernel_rfl) (by kernel_rfl)<|z8 (q0 (j := K) j6 j8 Z Z hKe ⟨_, .head⟩ (by rw [cI_len, List.length_set, hl]) (by omega))<|z6<|zu (i := 15) Z (by kernel_rfl) (by kernel_rfl)<|yy (j := K) j8 Z Z .head (by first | omega | (simp; omega))<|z6<|zz (by kernel_rfl) ?_
       exact ⟨((l.set c.toNat l[K]).set K l[c.toNat]), zR4, ⟨congrArg (AV.int .i64) hKe, trivial⟩, zLe, rfl⟩
     ·refine z8 (Gv.loadI (j := c.toNat) jl Z ⟨_, .head⟩ (qa hC2))<|z6<|zOn 6 Z<|z8 (q0 (j := K) j6 j8 Z Z hKe ⟨_, .head⟩ (by rw [cI_len, hl]) (by omega))<|z6<|zOn 7 Z<|z8 (Gv.loadI (j := K) jl Z ⟨_, .head⟩ (qa hK2))<|z6<|zOn 12 Z<|z8 (q0 (j := c.toNat) j6 j8 Z Z (by omega) ⟨_, .head⟩ (by rw [cI_len, hl]) (by omega))<|z6<|zw<|zu (i := 13) Z (by kernel_rfl) (by kernel_rfl)<|yy (j := c.toNat) j8 Z Z .head (by first | omega | (simp; omega))<|z6<|zu (i := 14) Z (by kernel_rfl) (by kernel_rfl)<|z8 (q0 (j := K) j6 j8 Z Z hKe ⟨_, .head⟩ (by rw [cI_len, List.length_set, hl]) (by omega))<|z6<|zu (i := 15) Z (by kernel_rfl) (by kernel_rfl)<|yy (j := K) j8 Z Z .head (by first | omega | (simp; omega))<|z6<|zz (by kernel_rfl) ?_
      exact ⟨((l.set c.toNat l[K]).set K l[c.toNat]), zR4, ⟨congrArg (AV.int .i64) hKe, trivial⟩, zLe, rfl⟩
   ·rintro l2 hl2
    refine zRg<|zVzMi Z<|z8 (Gv.sub Z Z (by unfold I64; omega))<|zVzAi Z<|z6 ?_
    exact ⟨(c - 1, l2, IntKind.u64.wrap (IntKind.u64.wrap (sd * 6364136223846793005) + 1442695040888963407)), zR2, zR2, zLe, ⟨by dsimp only; omega, by dsimp only; rw [hl2, List.length_set, List.length_set]; exact hl, ⟨by rw [hl2]; exact (List.set_set_perm hC2 hK2).trans hp1, fun j hj => by dsimp only; rw [hl2, List.getElem?_set_ne (by omega), List.getElem?_set_ne (by omega)]; exact hp2 j hj⟩, hA⟩, by dsimp only; omega⟩
  ·refine y4 (GStep.knowI (t := 7) Z .head hl)<|y5<|zSr<|zVzMf Z<|z8 (zAf Z)<|z6<|zk<|zm (x := .fro _ _) Z ?_
   exact ⟨l, rfl, ⟨_, .refl _, rfl⟩, hp⟩
theorem wrap_small {x : Int} (h : 0 ≤ x ∧ x < 100000) : IntKind.i64.wrap x = x := by unfold IntKind.wrap; simp [IntKind.bits, IntKind.signed]; omega
theorem wrap_8 {x : Nat} (h : x < 256) : IntKind.u8.wrap (x : Int) = x := by unfold IntKind.wrap; simp [IntKind.bits, IntKind.signed]; omega
theorem word_eq (c : UInt8) (k : Nat) : strOfNums [(c.toNat : Int), ((48 + k / 100 : Nat) : Int), ((48 + k / 10 % 10 : Nat) : Int), ((48 + k % 10 : Nat) : Int)] = wordN c k := by
 have hc : UInt8.ofNat ((c.toNat : Int)).toNat = c := by simp
 show (⟨#[UInt8.ofNat ((c.toNat : Int)).toNat, _, _, _]⟩ : ByteArray) = _
 rw [hc]; rfl
theorem wordW_spec (c : UInt8) (k : Nat) (hk : k < 1000) : AFun prog E 44 [.int .u8 c.toNat, .int .i64 k] (.str (wordN c k)) := by
 have d1 : (k : Int).tdiv 100 = ((k / 100 : Nat) : Int) := by rw [Int.tdiv_eq_ediv_of_nonneg (by omega)]; rfl
 have d2 : (k : Int).tdiv 10 = ((k / 10 : Nat) : Int) := by rw [Int.tdiv_eq_ediv_of_nonneg (by omega)]; rfl
 have h1 : IntKind.i64.wrap ((k : Int).tdiv 100) = ((k / 100 : Nat) : Int) := by rw [d1, wrap_small (by omega)]
 have h0 : IntKind.i64.wrap ((k : Int).tdiv 10) = ((k / 10 : Nat) : Int) := by rw [d2, wrap_small (by omega)]
 have h2 : (IntKind.i64.wrap ((k : Int).tdiv 10)).tmod 10 = ((k / 10 % 10 : Nat) : Int) := by rw [h0, Int.tmod_eq_emod_of_nonneg (by omega)]; rfl
 have h3 : (k : Int).tmod 10 = ((k % 10 : Nat) : Int) := by rw [Int.tmod_eq_emod_of_nonneg (by omega)]; rfl
 have e1 : IntKind.u8.wrap (48 + IntKind.i64.wrap ((k : Int).tdiv 100)) = ((48 + k / 100 : Nat) : Int) := by rw [h1]; exact_mod_cast wrap_8 (x := 48 + k / 100) (by omega)
 have e2 : IntKind.u8.wrap (48 + (IntKind.i64.wrap ((k : Int).tdiv 10)).tmod 10) = ((48 + k / 10 % 10 : Nat) : Int) := by rw [h2]; exact_mod_cast wrap_8 (x := 48 + k / 10 % 10) (by omega)
 have e3 : IntKind.u8.wrap (48 + (k : Int).tmod 10) = ((48 + k % 10 : Nat) : Int) := by rw [h3]; exact_mod_cast wrap_8 (x := 48 + k % 10) (by omega)
 refine zt func44 Z (by decide) Z<|zSr<|z8 (y9 (v := .str _) Z)<|z6<|zSr<|zVzMi Z<|zVzMi Z<|z8 (Gv.quo Z Z (by decide))<|zVzAd Z Z<|z8 (Gv.conv Z8 Zu Z)<|zVzMi Z<|z8 (Gv.quo Z Z (by decide))<|z8 (Gv.rem Z Z (by decide))<|zVzAd Z Z<|z8 (Gv.conv Z8 Zu Z)<|zVzMi Z<|z8 (Gv.rem Z Z (by decide))<|zVzAd Z Z<|z8 (Gv.conv Z8 Zu Z)<|zr (rows := [[_], [_], [_], [_]]) ps104_4 Z Z Z Z Z<|z8 (Gv.convBytes (ns := [_, _, _, _]) Zv Zu Z4 Z)<|z8 (y9 (v := .str _) Z)<|z6<|zk<|zm (x := .str _) Z ?_
 rw [e1, e2, e3]; exact congrArg AV.str (word_eq c k)
end Go.Proofs.YtpojdepccecpgaaGreatDoor
