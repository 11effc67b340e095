/- The document's machine: is there a place, does a check pass. Of programs as they are run. -/
import Derived.Test.YtpojdepccecpgaaGreatDoorLn
import Derived.Test.YtpojdepccecpgaaGreatDoorLd
import Derived.Test.YtpojdepccecpgaaGreatDoorLl
import Derived.Test.YtpojdepccecpgaaGreatDoorLk
import Derived.Test.YtpojdepccecpgaaGreatDoorLi
import Derived.Test.YtpojdepccecpgaaGreatDoorLe
import Derived.Test.YtpojdepccecpgaaGreatDoorLm
set_option linter.unusedVariables false
set_option linter.unusedSimpArgs false
set_option linter.unusedSectionVars false
namespace Go.Proofs.YtpojdepccecpgaaGreatDoor
open Go.Proofs.Tryz
open Go.Proofs Go.Lib Go.Shelf Go.RowKit
theorem ps84_3 : PlacesS prog 84 9 3 1 [.str ⟨#[]⟩, .str ⟨#[]⟩, .str ⟨#[]⟩] := ⟨_, Zf, Z0, Yi, by decide, by decide, by kernel_rfl⟩
set_option maxRecDepth 20000
variable {E : World}
theorem variable_spec (v : PVar) (hv : v.name.size ≤ 1000) (ht : 0 ≤ v.ty ∧ v.ty ≤ 2) : AFun prog E 61 [.agg (encVar v)] (.str (pairW v)) := by
 have hts := ty_size ht
 refine zl func61 Z (by decide) Z<|zSr<|y8 (cs := _) Z Z Z<|z8 (y4 (v := .str _) Z)<|z6<|zb<|zq (fun j => false) (by kernel_rfl) Z (zr (.rest _))<|zTk 0 Z (zFF Z1 Z Z0 Z Z)<|zTk 1 Z (yr (c := .str _) Zc Z)<|zTk 2 Z (Gv.addT Z Z (by (try simp only [app_size]); (try simp only [lit_size, List.size_toArray, List.length_cons, List.length_nil]); omega))<|zTk 3 Z (zFF Z1 Z Ys Z Z)<|zTk 4 Z (zLi isAgg56 Z)<|zOn 5 Z<|zg (tyWord_spec _) Z<|z6<|zTk 6 Z (Gv.addT Z Z (by (try simp only [app_size]); (try simp only [lit_size, List.size_toArray, List.length_cons, List.length_nil]); omega))<|zTk 7 Z (y4 (v := .str _) Z)<|zDn<|zf<|zj (x := .str _) Z ?_
 rfl
theorem phiLk_app {f : PFunc} {p : PPhi} {k : Nat} (h1 : k < p.from_.length) (h2 : k < p.args.length) : phiLk f p (k + 1) = phiLk f p k ++ [bname f p.from_[k], vname f p.args[k]] := by
 have e1 : (p.from_.map (bname f))[k]? = some (bname f p.from_[k]) := by rw [qu, qm h1]; rfl
 have e2 : (p.args.map (vname f))[k]? = some (vname f p.args[k]) := by rw [qu, qm h2]; rfl
 unfold phiLk
 rw [inter_succ e1 e2]; simp
theorem grow_push2 {α : Type} {enc : α → List AV} {xs ys : List α} {x y : α} (h : ys = xs ++ [x, y]) : (xs.map enc).flatten ++ [enc x, enc y].flatten = (ys.map enc).flatten := by subst h; simp
theorem inter_len : ∀ l m : List ByteArray, (inter l m).length ≤ l.length + m.length
 | [], _ => by simp [inter]
 | _ :: _, [] => by simp [inter]
 | a :: l, b :: m => by have := inter_len l m; simp [inter]; omega
theorem inter_in : ∀ {l m : List ByteArray} {x : ByteArray}, x ∈ inter l m → x ∈ l ∨ x ∈ m
 | [], _, _, h => by simp [inter] at h
 | _ :: _, [], _, h => by simp [inter] at h
 | a :: l, b :: m, x, h => by
  simp only [inter, List.mem_cons] at h
  rcases h with rfl | rfl | h
  ·simp
  ·simp
  ·rcases inter_in h with h | h <;> simp [h]
theorem phiLk_len {f : PFunc} {p : PPhi} {k : Nat} (h1 : k ≤ p.from_.length) (h2 : k ≤ p.args.length) : (phiLk f p k).length ≤ 3 + 2 * k := by
 have := inter_len ((p.from_.map (bname f)).take k) ((p.args.map (vname f)).take k)
 unfold phiLk
 simp only [List.length_cons]
 rw [qx, qx] at this
 omega
theorem lineS_size {ws : List ByteArray} {m : Nat} (h : ∀ x ∈ ws, x.size ≤ m) : (lineS ws).size ≤ ws.length * (m + 1) := by
 have := join_len ws m h
 have e : (Lib.join (ws.map (·.data.toList)) [32]).length = (lineS ws).size := (strL_size _).symm
 omega
theorem phiL_sz {f : PFunc} (hT : TOk f) {p : PPhi} (hp : PhiP f p) : ∀ x ∈ phiL f p, x.size ≤ 1000 := by
 obtain ⟨g1, g2, g3, g4, g5⟩ := hp
 have g4 := List.all_eq_true.1 g4
 have g5 := List.all_eq_true.1 g5
 intro x hx
 unfold phiL at hx
 simp only [List.mem_cons] at hx
 rcases hx with rfl | rfl | rfl | hx
 ·exact vname_sz hT g1
 ·decide
 ·decide
 ·rcases inter_in hx with hx | hx
  ·obtain ⟨v, hv, rfl⟩ := List.mem_map.1 hx; exact bname_sz hT (g5 v hv)
  ·obtain ⟨v, hv, rfl⟩ := List.mem_map.1 hx; exact vname_sz hT (g4 v hv)
theorem phiLk_full {f : PFunc} {p : PPhi} (h : p.args.length = p.from_.length) : phiLk f p p.args.length = phiL f p := by
 unfold phiLk phiL
 rw [List.take_of_length_le (by simp; omega), List.take_of_length_le (by simp)]
theorem phiL_len {f : PFunc} {p : PPhi} (h : p.args.length = p.from_.length) (hp : p.args.length ≤ 2100) : (phiL f p).length ≤ 5000 := by
 have := phiLk_len (f := f) (p := p) (k := p.args.length) (by omega) (by omega)
 rw [phiLk_full h] at this; omega
theorem joinedT_spec (f : PFunc) (p : PPhi) (hT : TOk f) (hp : PhiP f p) (hl : p.args.length ≤ 2100) : AFun prog E 62 [.agg (encF f), .agg (encPhi p)] (.str (lineS (phiL f p))) := by
 have hps := phiL_sz hT hp
 obtain ⟨g1, g2, g3, g4, g5⟩ := id hp
 have g4 := List.all_eq_true.1 g4
 have g5 := List.all_eq_true.1 g5
 obtain ⟨d1, d2, d3, d4⟩ := has_get g1
 have hjs : (Lib.join ((phiL f p).map (·.data.toList)) [32]).length = (lineS (phiL f p)).size := (strL_size _).symm
 have hls := lineS_size hps
 have hll := phiL_len (f := f) g2 hl
 have hmul : (phiL f p).length * (1000 + 1) ≤ 5000 * 1001 := Nat.mul_le_mul hll (Nat.le_refl _)
 refine zl func62 Z (by decide) Z<|zSr<|y8 (cs := _) Z Z Z<|y8 (cs := _) Z Z Z<|z8 (y4 (v := .str _) Z)<|z6<|zSr<|zVzFF j8 Z Zl Z Z<|zVzLf Zz Z<|zVzFF jg Z j5 Z Z<|zVzLi jd Z<|z8 (zIM p.dst.toNat jv Ze Z Z (by omega) d2)<|zVzFF Z1 Z Z0 Z Z<|z8 (yr (c := .str _) Zc Z)<|AOps.buildSliceO (cps := [(0, [_]), (1, [_]), (2, [_])]) (rs := [_, _, _]) ps84_3 Z Z Z Z Z<|fun i15 => z8 (zAo Z)<|z6<|zb<|zSr<|zVzFF jg Z je Z Z<|zVzLf jn Z<|zVGvlenM j4 Z<|zVzMi Z<|z6<|zh<|y3 (γ := Nat × Nat) [2, 3, 17, 18] (fun g => [(5, .own g.2 (phiLk f p g.1).length), (19, .int .i64 g.1)]) (fun g => [(g.2, .grow 1 9 ((phiLk f p g.1).map encS).flatten)]) (fun g => g.1 ≤ p.args.length) (fun g => p.args.length - g.1) (0, i15) zR2 ⟨_, (.refl _), by rw [show phiLk f p 0 = [f.vars[p.dst.toNat].name, eqS, phiS] by unfold phiLk; rw [d4]; rfl]; rfl⟩ (qp _) ?_
 rintro ⟨k, i⟩ hk
 try dsimp only at *
 refine zSr<|zVGvlss Z Z<|z6<|zb<|zk Z (fun ck=>?_) (fun ck=>?_)
 ·have hk2 : k < p.args.length := by simp at ck; omega
  have hk3 : k < p.from_.length := by omega
  obtain ⟨b1, b2, b3, b4⟩ := hasB_get (g5 _ (qq hk3))
  obtain ⟨v1, v2, v3, v4⟩ := has_get (g4 _ (qq hk2))
  have hkl := phiLk_len (f := f) (p := p) (k := k) (by omega) (by omega)
  refine ze<|zb<|zh<|zSr<|zVzMi Z<|z8 (zIM k j4 j5 Z Z Z (qm hk2))<|zVzLi jd Z<|zVzAi Z<|zVzAi Z<|z6<|zq (fun j => false) (by kernel_rfl) Z (zr (.rest _))<|zTk 0 Z (zMo Z)<|zTk 1 Z (zFF j8 Z ju Z Z)<|zTk 2 Z (zLf Z5 Z)<|zTk 3 Z (zFF jg Z je Z Z)<|zTk 4 Z (zLf jn Z)<|zTk 5 Z (zMi Z)<|zTk 6 Z (zIM k j4 j5 Z Z Z (qm hk3))<|zTk 7 Z (zLi jd Z)<|zTk 8 Z (yv (j := (p.from_[k]).toNat) jh jm Z Z (by omega) b2)<|zTk 9 Z (zFF j6 Z Z0 Z Z)<|zTk 10 Z (yr (c := .str _) Zc Z)<|zTk 11 Z (zFF j8 Z Zl Z Z)<|zTk 12 Z (zLf Zz Z)<|zTk 13 Z (zMi Z)<|zTk 14 Z (yv (j := (p.args[k]).toNat) jv Ze Z Z (by omega) v2)<|zTk 15 Z (zFF Z1 Z Z0 Z Z)<|zTk 16 Z (yr (c := .str _) Zc Z)<|zOn 17 Z<|zn (rows := [[_], [_]]) ps84_2 Z Z Z Z Z<|z6<|zOn 18 Z<|y5 (k := 1) Zf type9 Z Z Z Z Z (fun _ => .head) (by rw [grow_len (k := 1) (fun _ => rfl)]) (by decide) Z (by show (_ + 2) * 16 ≤ _; omega) (by show _ + 2 ≤ _; omega)<|fun i42 => z6<|zTk 19 Z (zAo Z)<|zDn<|zRg<|zVzAd Z Z<|zVzMi Z<|z6 ?_
  exact ⟨(k + 1, i42), zR4, ⟨congrArg (AV.own i42) (by dsimp only; rw [phiLk_app hk3 hk2]; simp), rfl, trivial⟩, ⟨_, (.refl _), by dsimp only; rw [← grow_push2 (enc := encS) (phiLk_app hk3 hk2), b4, v4]; rfl⟩, hk2, by dsimp only; omega⟩
 ·have hkn : k = p.args.length := by simp at ck; omega
  subst hkn
  rw [phiLk_full g2]
  refine y6 (GStep.know (t := 5) (rows := (phiL f p).map encS) Z .head (by intro r hr; obtain ⟨x, _, rfl⟩ := List.mem_map.1 hr; rfl) (by decide) (by simp))<|y2<|zSr<|zVzMf Z<|zg (join_spec (phiL f p) _ (by omega) (by show (Lib.join _ [32]).length ≤ _; omega)) Z<|z8 (y4 (v := .str _) Z)<|z6<|zf<|zj (x := .str _) Z ?_
  rfl
theorem term_eq {f : PFunc} {t : PTerm} (h : termOK f t = true) : termLine f t = lineS (termL f t) := by
 unfold termLine termL
 rw [if_pos h]
 by_cases k0 : t.kind = 0
 ·rw [if_pos k0, if_pos k0, lineS_two, show (⟨#[106, 117, 109, 112, 32]⟩ : ByteArray) = jumpS ++ spc by decide]
 ·rw [if_neg k0, if_neg k0]
  by_cases k1 : t.kind = 1
  ·rw [if_pos k1, if_pos k1, lineS_four, show (⟨#[105, 102, 32]⟩ : ByteArray) = ifS ++ spc by decide]
  ·rw [if_neg k1, if_neg k1, lineS_two, show (⟨#[114, 101, 116, 32]⟩ : ByteArray) = retS ++ spc by decide]
theorem termL_sz {f : PFunc} (hT : TOk f) {t : PTerm} (h : termOK f t = true) : (lineS (termL f t)).size ≤ 5000 := by
 have hb : ∀ x ∈ termL f t, x.size ≤ 1000 := by
  intro x hx
  unfold termL at hx
  by_cases k0 : t.kind = 0
  ·rw [if_pos k0] at hx
   simp only [List.mem_cons, List.not_mem_nil, or_false] at hx
   rcases hx with rfl | rfl
   ·decide
   ·exact bname_sz hT (termOK_0 h k0)
  ·rw [if_neg k0] at hx
   by_cases k1 : t.kind = 1
   ·rw [if_pos k1] at hx
    obtain ⟨t1, t2, t3⟩ := termOK_1 h k1
    simp only [List.mem_cons, List.not_mem_nil, or_false] at hx
    rcases hx with rfl | rfl | rfl | rfl
    ·decide
    ·exact vname_sz hT t1
    ·exact bname_sz hT t2
    ·exact bname_sz hT t3
   ·rw [if_neg k1] at hx
    simp only [List.mem_cons, List.not_mem_nil, or_false] at hx
    rcases hx with rfl | rfl
    ·decide
    ·exact vname_sz hT (termOK_2 h k0 k1)
 have hl : (termL f t).length ≤ 4 := by unfold termL; split <;> (try split) <;> simp
 have := lineS_size hb
 have h2 : (termL f t).length * (1000 + 1) ≤ 4 * 1001 := Nat.mul_le_mul hl (Nat.le_refl _)
 omega
theorem pairW_sz {v : PVar} (hv : v.name.size ≤ 1000) (ht : 0 ≤ v.ty ∧ v.ty ≤ 2) : (pairW v).size ≤ 1100 := by
 have := ty_size ht
 unfold pairW
 rw [app_size, app_size]
 have : colon.size = 1 := rfl
 omega
theorem headLk_app {f : PFunc} {k : Nat} (h : k < f.vars.length) : headLk f (k + 1) = headLk f k ++ [pairW f.vars[k]] := by
 unfold headLk; rw [qn h, qw]; rfl
def capT (s : ByteArray) : ByteArray := if 16384 < s.size then ⟨#[]⟩ else s
def capE (s : ByteArray) : Int := if 16384 < s.size then 4 else 0
set_option maxHeartbeats 4000000 in
theorem text_good (f : PFunc) (hS : ShapedP f) (hT : TOk f) (hN : NumsOk f) (hsm : small f) (hP : Pows E) (hL : Letters E) :
  ACall prog E 30 [.agg (encF f)] [] (fun x O => ∃ _ : Unit, x = .tup [.str (capT (textF f)), .int .i64 (capE (textF f))] ∧ Left O [] ∧ True) := by
 have hfo := hsm.ok
 have hn := hsm.names
 obtain ⟨s1, s2, s3, _, _⟩ := id hsm
 obtain ⟨hf, hu, hb, hne⟩ := shaped_ok hS
 have hpl : f.params.length ≤ f.vars.length := by have s1 := hS.1; unfold bad1 at s1; simp at s1; omega
 have hvl := hT.vars
 have hbl := hT.blks
 have hsh : shapedB f = true := by rw [shapedB_eq]; exact qy hS
 have ssp : spc.size = 1 := rfl
 have snl : nl.size = 1 := rfl
 refine zl func30 Z (by decide) Z<|zSr<|y8 (cs := _) Z Z Z<|z8 (y4 (v := .str _) Z)<|zVzAi Z<|z6<|zb<|zSr<|zVGvloadWF jp ji Z Z<|zg (Shaped_spec _ (by assumption) (by omega) (by omega) (by omega) (by assumption) hL) Z<|zVGvnot Z<|z6<|ym Z (by simp [hsh])<|ze<|zSr<|zu (cs := [.raw (.pointer none), .raw (.slice none 0 0)]) zeroValue106 Z Z<|fun i4 => z6<|adoptC_wp (off := 1) (k := 1) (T := 5) (fun _ => .head) Z<|fun jb => zSr<|z8 (Gv.func Z Z)<|z8 (y4 (v := .fn _ _ _) Z)<|z6<|zSr<|AOps.buildSliceO (cps := [(0, [_])]) (rs := [_]) ps84_1 Z Z Z Z Z<|fun i20 => z8 (zAo Z)<|z6<|zb<|zSr<|zVzFF j8 Z je Z Z<|zVzLf jn Z<|zVGvlenM j4 Z<|zVzMi Z<|z6<|zh<|y3 (γ := Nat × Nat) [1, 4, 5, 23] (fun g => [(6, .own g.2 (1 + g.1)), (24, .int .i64 g.1)]) (fun g => [(g.2, .grow 1 9 ((headLk f g.1).map encS).flatten), (jb, .grow 1 5 []), (i4, .cells 106 [.raw (.pointer none), .own jb 0])]) (fun g => g.1 ≤ f.params.length) (fun g => f.params.length - g.1) (0, i20) zR2 zLe (qp _) ?_
 rintro ⟨k, i⟩ hk
 try dsimp only at *
 refine zSr<|zVGvlss Z Z<|z6<|zb<|zk Z (fun ck=>?_) (fun ck=>?_)
 ·have hk2 : k < f.params.length := by simp at ck; omega
  have hk3 : k < f.vars.length := by omega
  have hv := hf.vars _ (qq hk3)
  have hvs := hT.vn _ (qq hk3)
  have hkl : (headLk f k).length = 1 + k := by unfold headLk; rw [List.length_cons, qt, qx]; omega
  refine ze<|zb<|zh<|zSr<|zVzMi Z<|zVzAi Z<|z6<|zRg<|z8 (zMo Z)<|zVzFF j8 Z Zl Z Z<|zVzLf Zz Z<|zVzMi Z<|z8 (zIM k jv Ze Z Z Z (qm hk3))<|zVGvloadWF isAgg58 Ze Z Z<|zg (variable_spec _ hvs hv.2) Z<|zn (rows := [[_]]) ps84_1 Z Z Z Z Z<|y5 (k := 1) Zf type9 Z Z Z Z Z (fun _ => .head) (by rw [grow_len (k := 1) (fun _ => rfl), hkl]) (by decide) Z (by show (_ + 1) * 16 ≤ _; omega) (by show _ + 1 ≤ _; omega)<|fun i35 => z8 (zAo Z)<|z6<|zRg<|zVzAd Z Z<|zVzMi Z<|z6 ?_
  exact ⟨(k + 1, i35), zR4, zR2, ⟨_, (.refl _), by dsimp only; rw [← grow_push (enc := encS) (headLk_app hk3)]; rfl⟩, hk2, by dsimp only; omega⟩
 ·have hkn : k = f.params.length := by simp at ck; omega
  subst hkn
  have hhead : headLk f f.params.length = headL f := rfl
  rw [hhead]
  have hhl : (headL f).length = 1 + f.params.length := by rw [← hhead]; unfold headLk; rw [List.length_cons, qt, qx]; omega
  have hhs := lineS_size (ws := headL f) (m := 1100) (fun x hx => by
   unfold headL at hx
   rcases List.mem_cons.1 hx with rfl | hx
   ·decide
   ·obtain ⟨v, hv, rfl⟩ := List.mem_map.1 hx
    have hv := List.mem_of_mem_take hv
    exact pairW_sz (hT.vn v hv) (hf.vars v hv).2)
  have hhm : (headL f).length * (1100 + 1) ≤ 1001 * 1101 := Nat.mul_le_mul (by omega) (Nat.le_refl _)
  refine y6 (GStep.know (t := 6) (rows := (headL f).map encS) Z .head (by intro r hr; obtain ⟨x, _, rfl⟩ := List.mem_map.1 hr; rfl) (by decide) (by rw [qt]; exact hhl))<|y6 (zm (zp .t1))<|y2<|zSr<|z8 (yf (v := .fn _ _ _) Z)<|zVzMf Z<|AOps.callVA Z Z (zr (.l (.l (.rest _)))) ((line_new ⟨#[]⟩ (headL f) (by omega) (by omega) (by decide)).exact) ?_
  rintro r39 O39 ⟨j0, rfl, rfl, _⟩
  obtain ⟨ds, hds⟩ : ∃ ds, f.vars.drop f.params.length = ds := ⟨_, rfl⟩
  have hdl : ds.length ≤ 1000 := by rw [← hds, List.length_drop]; omega
  obtain ⟨a0, ha0⟩ : ∃ a0, (⟨#[]⟩ : ByteArray) ++ (lineS (headL f) ++ nl) = a0 := ⟨_, rfl⟩
  rw [ha0]
  have ha0s : a0.size ≤ 1102103 ∧ 1 ≤ a0.size := by rw [← ha0, app_size, app_size]; have : (⟨#[]⟩ : ByteArray).size = 0 := rfl; omega
  have ha0u : a0 = unB [headL f] := by rw [← ha0]; show _ = (lineS (headL f) ++ nl) ++ unB []; show _ = (lineS (headL f) ++ nl) ++ ByteArray.empty; rw [ByteArray.append_empty]; exact ByteArray.empty_append
  refine z6<|zb<|zSr<|zVzFF j8 Z Zl Z Z<|zVzLf Zz Z<|zVzFF j8 Z je Z Z<|zVzLf jn Z<|zVGvlenM j4 Z<|z8 (Gv.cutLoM (j := f.params.length) jv Ze Z Z Z hpl)<|zVGvlenM jv Z<|zVzMi Z ?_
  rw [hds]
  refine z6<|zh<|y3 (γ := Nat × Nat × ByteArray) [1, 4, 5, 45, 46] (fun g => [(47, .int .i64 g.1)]) (fun g => [(i4, .cells 106 [.po i4 0, .own g.2.1 g.2.2.size]), (g.2.1, .grow 1 5 (strAV g.2.2))]) (fun g => g.1 ≤ ds.length ∧ g.2.2 = unB (headL f :: (ds.take g.1).map varL) ∧ g.2.2.size ≤ 1102103 + g.1 * 3000 ∧ 1 ≤ g.2.2.size) (fun g => ds.length - g.1) (0, j0, a0) zR1 zLe (⟨qp _, ha0u, by dsimp only; omega, by dsimp only; omega⟩) ?_
  rintro ⟨k, j, acc⟩ ⟨hk, hacc, hsz, hnz0⟩
  try dsimp only at *
  refine zSr<|zVGvlss Z Z<|z6<|zb<|zk Z (fun ck=>?_) (fun ck=>?_)
  ·have hk2 : k < ds.length := by simp at ck; omega
   have hvm : ds[k] ∈ f.vars := List.mem_of_mem_drop (by rw [hds]; exact qq hk2)
   have hv := hf.vars _ hvm
   have hvs := hT.vn _ hvm
   have hvl2 := lineS_size (ws := varL ds[k]) (m := 1100) (fun x hx => by
    unfold varL at hx
    simp only [List.mem_cons, List.not_mem_nil, or_false] at hx
    rcases hx with rfl | rfl
    ·decide
    ·exact pairW_sz hvs hv.2)
   have hvl3 : (varL ds[k]).length = 2 := rfl
   rw [hvl3] at hvl2
   refine ze<|zb<|zh<|zSr<|z8 (zIM k jv Ze Z Z Z (qm hk2))<|zVGvloadWF isAgg58 Ze Z Z<|zu (cs := [.str ⟨#[]⟩, .int .i64 0]) Yr Z Z<|fun i9 => zt Ze Z Z Z Z Z Z .head Z<|z6<|zRg<|z8 (yf (v := .fn _ _ _) Z)<|z8 (yu isAgg58 Ze Z ⟨_, .head⟩ Z)<|zg (variable_spec _ hvs hv.2) Z<|zn (rows := [[_], [_]]) ps84_2 Z Z Z Z Z<|AOps.callVA Z Z (zr (.r (.l (.l (.rest _))))) ((line_used acc (varL ds[k]) (by omega) (by omega) (by omega)).exact) ?_
   rintro r55 O55 ⟨j2, rfl, rfl, _⟩
   refine z6<|zRg<|zVzAd Z Z<|zVzMi Z<|z6 ?_
   exact ⟨(k + 1, j2, acc ++ (lineS (varL ds[k]) ++ nl)), zR5, zR1, ⟨_, (.keep (.keep (.drop (.refl _)))), rfl⟩, ⟨hk2, by dsimp only; rw [qn hk2, qw, List.map_cons, List.map_nil, ← List.cons_append, unB_app, ← hacc], by dsimp only; rw [app_size, app_size]; omega, by dsimp only; rw [app_size]; omega⟩, by dsimp only; omega⟩
  ·have hkn : k = ds.length := by simp at ck; omega
   subst hkn
   rw [qr] at hacc
   obtain ⟨P0, hP0⟩ : ∃ P0, headL f :: ds.map varL = P0 := ⟨_, rfl⟩
   have hlines : linesF f = P0 ++ f.blocks.flatMap (blkL f) := by rw [← hP0, ← hds]; rfl
   rw [hP0] at hacc
   refine y2<|zb<|zSr<|zVzFF j8 Z ju Z Z<|zVzLf Z5 Z<|zVGvlenM jh Z<|zVzMi Z<|z6<|zh<|y3 (γ := Nat × Nat × ByteArray) [1, 4, 5, 58, 59] (fun g => [(60, .int .i64 g.1)]) (fun g => [(i4, .cells 106 [.po i4 0, .own g.2.1 g.2.2.size]), (g.2.1, .grow 1 5 (strAV g.2.2))]) (fun g => g.1 ≤ f.blocks.length ∧ g.2.2 = unB (P0 ++ (f.blocks.take g.1).flatMap (blkL f)) ∧ g.2.2.size ≤ 5000000 + g.1 * 20000000000 ∧ 1 ≤ g.2.2.size) (fun g => f.blocks.length - g.1) (0, j, acc) zR1 zLe (⟨qp _, by dsimp only; rw [hacc]; simp, by dsimp only; omega, by dsimp only; omega⟩) ?_
   rintro ⟨k, j, acc3⟩ ⟨hk3, hacc3, hsz3, hnz⟩
   try dsimp only at *
   refine zSr<|zVGvlss Z Z<|z6<|zb<|zk Z (fun cb=>?_) (fun cb=>?_)
   ·have hk4 : k < f.blocks.length := by simp at cb; omega
    obtain ⟨b, hbk⟩ : ∃ b, f.blocks[k] = b := ⟨_, rfl⟩
    have hget : f.blocks[k]? = some b := by rw [qm hk4, hbk]
    have hbm : b ∈ f.blocks := hbk ▸ qq hk4
    obtain ⟨hbn, hb1, hb2, hb3⟩ := hf.blks b hbm
    have hbs := hT.bn b hbm
    have hTb := hT.each b hbm
    have hnb := hN b hbm
    have hp1 := hTb.phis
    have hp2 := hTb.insts
    have hbl2 := lineS_size (ws := [blockS, b.name]) (m := 1000) (fun x hx => by
     simp only [List.mem_cons, List.not_mem_nil, or_false] at hx
     rcases hx with rfl | rfl
     ·decide
     ·exact hbs)
    have hbl3 : ([blockS, b.name] : List ByteArray).length = 2 := rfl
    rw [hbl3] at hbl2
    obtain ⟨Q, hQ⟩ : ∃ Q, P0 ++ (f.blocks.take k).flatMap (blkL f) ++ [[blockS, b.name]] = Q := ⟨_, rfl⟩
    refine ze<|zb<|zh<|zSr<|z8 (zIM k jh jm Z Z Z hget)<|zVGvloadWF Zq jm Z Z<|zu (cs := [.str ⟨#[]⟩, .raw (.slice none 0 0), .raw (.slice none 0 0), .int .i64 0, .int .i64 0, .int .i64 0, .int .i64 0]) Z4 Z Z<|fun i11 => zt jm Z Z Z Z Z Z .head Z<|z6<|zSr<|z8 (yf (v := .fn _ _ _) Z)<|z8 (zc j6 Z Z0 (by decide) Z Z)<|z8 (zi (c := .str _) Zc Z ⟨_, .head⟩ Z)<|zn (rows := [[_], [_]]) ps84_2 Z Z Z Z Z<|AOps.callVA Z Z (zr (.r (.l (.l (.rest _))))) ((line_used acc3 [blockS, b.name] (by omega) (by omega) (by omega)).exact) ?_
    rintro r68 O68 ⟨j2, rfl, rfl, _⟩
    obtain ⟨a4, ha4⟩ : ∃ a4, acc3 ++ (lineS [blockS, b.name] ++ nl) = a4 := ⟨_, rfl⟩
    have ha4s : a4.size ≤ 5003000 + k * 20000000000 ∧ 1 ≤ a4.size := by rw [← ha4, app_size, app_size]; omega
    have ha4u : a4 = unB Q := by rw [← ha4, ← hQ, unB_app, ← hacc3]
    rw [ha4]
    refine z6<|zb<|zSr<|z8 (zc j6 Z Z8 (by decide) Z Z)<|z8 (zi (c := .fro _ _) Zs Z ⟨_, .t2⟩ Z)<|zVGvlenM jq Z<|zVzMi Z<|z6<|zh<|y3 (γ := Nat × Nat × ByteArray) [1, 4, 5, 11, 58, 59, 60, 70, 71] (fun g => [(72, .int .i64 g.1)]) (fun g => [(i4, .cells 106 [.po i4 0, .own g.2.1 g.2.2.size]), (g.2.1, .grow 1 5 (strAV g.2.2)), (i11, .cells 69 (encBlk b))]) (fun g => g.1 ≤ b.phis.length ∧ g.2.2 = unB (Q ++ (b.phis.take g.1).map (phiL f)) ∧ g.2.2.size ≤ 5003000 + k * 20000000000 + g.1 * 5006000 ∧ 1 ≤ g.2.2.size) (fun g => b.phis.length - g.1) (0, j2, a4) zR1 zLe (⟨qp _, by dsimp only; rw [ha4u]; simp, by dsimp only; omega, by dsimp only; omega⟩) ?_
    rintro ⟨m, j, acc4⟩ ⟨hm, hacc4, hsz4, hnz4⟩
    try dsimp only at *
    refine zSr<|zVGvlss Z Z<|z6<|zb<|zk Z (fun cm=>?_) (fun cm=>?_)
    ·have hm2 : m < b.phis.length := by simp at cm; omega
     obtain ⟨p, hpm⟩ : ∃ p, b.phis[m] = p := ⟨_, rfl⟩
     have hgp : b.phis[m]? = some p := by rw [qm hm2, hpm]
     have hpmem : p ∈ b.phis := hpm ▸ qq hm2
     have hP2 := hb1 p hpmem
     have hpa := hTb.args p hpmem
     have hps := lineS_size (phiL_sz hT hP2)
     have hpl2 := phiL_len (f := f) hP2.2.1 hpa.1
     have hpm2 : (phiL f p).length * (1000 + 1) ≤ 5000 * 1001 := Nat.mul_le_mul hpl2 (Nat.le_refl _)
     refine ze<|zb<|zh<|zSr<|z8 (zIM m jq js Z Z Z hgp)<|zVGvloadWF Zt js Z Z<|zu (cs := [.int .i64 0, .raw (.slice none 0 0), .raw (.slice none 0 0)]) Zb Z Z<|fun i13 => zt js Z Z Z Z Z Z .head Z<|z6<|zRg<|z8 (yf (v := .fn _ _ _) Z)<|zVGvloadWF jp ji Z Z<|z8 (yu Zt js Z ⟨_, .head⟩ Z)<|zg (joinedT_spec f p hT hP2 hpa.1) Z<|zn (rows := [[_]]) ps84_1 Z Z Z Z Z<|AOps.callVA Z Z (zr (.r (.l (.l (.r (.rest _)))))) ((line_used acc4 [lineS (phiL f p)] (by simp) (by rw [lineS_one]; omega) (by omega)).exact) ?_
     rintro r81 O81 ⟨j3, rfl, rfl, _⟩
     refine z6<|zRg<|zVzAd Z Z<|zVzMi Z<|z6 ?_
     exact ⟨(m + 1, j3, acc4 ++ (lineS [lineS (phiL f p)] ++ nl)), zR9, zR1, ⟨_, (.keep (.keep (.drop (.refl _)))), rfl⟩, ⟨hm2, by dsimp only; rw [qn hm2, hpm, qw, List.map_cons, List.map_nil, ← qo, unB_app, ← hacc4, lineS_one], by dsimp only; rw [app_size, app_size, lineS_one]; omega, by dsimp only; rw [app_size]; omega⟩, by dsimp only; omega⟩
    ·have hmn : m = b.phis.length := by simp at cm; omega
     subst hmn
     rw [qr] at hacc4
     obtain ⟨Q2, hQ2⟩ : ∃ Q2, Q ++ b.phis.map (phiL f) = Q2 := ⟨_, rfl⟩
     rw [hQ2] at hacc4
     refine y2<|zb<|zSr<|z8 (zc j6 Z Zh (by decide) Z Z)<|z8 (zi (c := .fro _ _) Y3 Z ⟨_, .t2⟩ Z)<|zVGvlenM jw Z<|zVzMi Z<|z6<|zh<|y3 (γ := Nat × Nat × ByteArray) [1, 4, 5, 11, 58, 59, 60, 84, 85] (fun g => [(86, .int .i64 g.1)]) (fun g => [(i4, .cells 106 [.po i4 0, .own g.2.1 g.2.2.size]), (g.2.1, .grow 1 5 (strAV g.2.2)), (i11, .cells 69 (encBlk b))]) (fun g => g.1 ≤ b.insts.length ∧ g.2.2 = unB (Q2 ++ (b.insts.take g.1).map (wordsOf f)) ∧ g.2.2.size ≤ 15003000000 + k * 20000000000 + g.1 * 21000 ∧ 1 ≤ g.2.2.size) (fun g => b.insts.length - g.1) (0, j, acc4) zR1 zLe (⟨qp _, by dsimp only; rw [hacc4]; simp, by dsimp only; omega, by dsimp only; omega⟩) ?_
     rintro ⟨m, j, acc5⟩ ⟨hm, hacc5, hsz5, hnz5⟩
     try dsimp only at *
     refine zSr<|zVGvlss Z Z<|z6<|zb<|zk Z (fun ci=>?_) (fun ci=>?_)
     ·have hm2 : m < b.insts.length := by simp at ci; omega
      obtain ⟨x, hxm⟩ : ∃ x, b.insts[m] = x := ⟨_, rfl⟩
      have hgx : b.insts[m]? = some x := by rw [qm hm2, hxm]
      have hxmem : x ∈ b.insts := hxm ▸ qq hm2
      have hxP := hb2 x hxmem
      obtain ⟨hxl, hxs⟩ := refLine_sz hT hxP (hnb x hxmem)
      have hxe : instLine f x = lineS (wordsOf f x) := by rw [line_eq hxP, inst_line_eq hxP]
      have hxz : (instLine f x).size ≤ 20000 := by rw [line_eq hxP]; exact hxs
      refine ze<|zb<|zh<|zSr<|z8 (zIM m jw jz Z Z Z hgx)<|zVGvloadWF Y8 jz Z Z<|zu (cs := [.int .i64 0, .int .i64 0, .raw (.slice none 0 0), .int .i64 0]) Zy Z Z<|fun i15 => zt jz Z Z Z Z Z Z .head Z<|z6<|zRg<|z8 (yf (v := .fn _ _ _) Z)<|zVGvloadWF jp ji Z Z<|z8 (yu Y8 jz Z ⟨_, .head⟩ Z)<|zg (Inst_spec f x (by omega) hT.vn (fun _ => hnb x hxmem) hP) Z<|zn (rows := [[_]]) ps84_1 Z Z Z Z Z<|AOps.callVA Z Z (zr (.r (.l (.l (.r (.rest _)))))) ((line_used acc5 [instLine f x] (by simp) (by rw [lineS_one]; omega) (by omega)).exact) ?_
      rintro r95 O95 ⟨j3, rfl, rfl, _⟩
      refine z6<|zRg<|zVzAd Z Z<|zVzMi Z<|z6 ?_
      exact ⟨(m + 1, j3, acc5 ++ (lineS [instLine f x] ++ nl)), zR9, zR1, ⟨_, (.keep (.keep (.drop (.refl _)))), rfl⟩, ⟨hm2, by dsimp only; rw [qn hm2, hxm, qw, List.map_cons, List.map_nil, ← qo, unB_app, ← hacc5, lineS_one, hxe], by dsimp only; rw [app_size, app_size, lineS_one]; omega, by dsimp only; rw [app_size]; omega⟩, by dsimp only; omega⟩
     ·have hmn : m = b.insts.length := by simp at ci; omega
      subst hmn
      rw [qr] at hacc5
      have htz := termL_sz hT hb3
      have hte := term_eq hb3
      have hnext : P0 ++ (f.blocks.take (k + 1)).flatMap (blkL f) = (Q2 ++ b.insts.map (wordsOf f)) ++ [termL f b.term] := by
       rw [qn hk4, hbk, List.flatMap_append, ← hQ2, ← hQ]; simp [blkL]
      refine y2<|zRg<|z8 (yf (v := .fn _ _ _) Z)<|zVGvloadWF jp ji Z Z<|z8 (zc j6 Z jx (by decide) Z Z)<|z8 (Gv.loadAC (l := [_, _, _, _]) Ye jx Z ⟨_, .t2⟩ Z Z)<|zg (Term_spec f b.term hsm) Z<|zn (rows := [[_]]) ps84_1 Z Z Z Z Z<|AOps.callVA Z Z (zr (.l (.l (.r (.rest _))))) ((line_used acc5 [termLine f b.term] (by simp) (by rw [lineS_one, hte]; omega) (by omega)).exact) ?_
      rintro r103 O103 ⟨j3, rfl, rfl, _⟩
      refine z6<|zRg<|zVzAd Z Z<|zVzMi Z<|z6 ?_
      exact ⟨(k + 1, j3, acc5 ++ (lineS [termLine f b.term] ++ nl)), zR5, zR1, ⟨_, (.keep (.keep (.drop (.refl _)))), rfl⟩, ⟨hk4, by dsimp only; rw [hnext, unB_app, ← hacc5, lineS_one, hte], by dsimp only; rw [app_size, app_size, lineS_one, hte]; omega, by dsimp only; rw [app_size]; omega⟩, by dsimp only; omega⟩
   ·have hkn : k = f.blocks.length := by simp at cb; omega
    subst hkn
    rw [qr] at hacc3
    have he : acc3 = textF f := by rw [hacc3, ← hlines]; rfl
    have hsz5 : acc3.size ≤ 5000000 + 100 * 20000000000 := Nat.le_trans hsz3 (Nat.add_le_add_left (Nat.mul_le_mul_right _ hbl) _)
    refine y2<|zb<|zSr<|yh Z (zr (.l (.l (.rest _)))) (bldLen_spec acc3) ?_
    rintro r105 O105 ⟨rfl, rfl⟩
    refine z8 (yy Z Z)<|z6<|zk Z (fun ct=>?_) (fun ct=>?_)
    ·refine zSr<|z8 (y4 (v := .str _) Z)<|zVzAi Z<|z6<|zf<|afin.t2 (x := .str _) (y := .int _ _) Z Z ?_
     exact ⟨(), by unfold capT capE; rw [← he, if_pos (by omega), if_pos (by omega)], Left.none0 _, trivial⟩
    ·refine ze<|zSr<|yh Z (zr (.l (.l (.rest _)))) (bldString_spec acc3 (by omega) (by omega)) ?_
     rintro r107 O107 ⟨rfl, rfl⟩
     refine z8 (y4 (v := .str _) Z)<|zVzAi Z<|z6<|zf<|afin.t2 (x := .str _) (y := .int _ _) Z Z ?_
     exact ⟨(), by unfold capT capE; rw [← he, if_neg (by omega), if_neg (by omega)], Left.none0 _, trivial⟩
end Go.Proofs.YtpojdepccecpgaaGreatDoor
namespace Go.Proofs.YtpojdepccecpgaaGreatDoor
open Go.Proofs.Tryz
open Go.Proofs
def Imp (x y : AV) : Prop := ∀ I v, RepV I x v → RepV I y v
def ImpL (xs ys : List AV) : Prop := ∀ I vs, RepL I xs vs → RepL I ys vs
theorem Imp.refl (x : AV) : Imp x x := fun _ _ h => h
theorem Imp.nil (k : Nat) : Imp (.raw (.slice none 0 0)) (.fro k []) := fun _ _ h => ⟨none, 0, 0, h, rfl, Nat.le_refl _, fun _ => rfl, trivial⟩
theorem ImpL.nil : ImpL [] [] := fun _ _ h => h
theorem ImpL.cons {x y : AV} {xs ys : List AV} (h : Imp x y) (hs : ImpL xs ys) : ImpL (x :: xs) (y :: ys) := fun I _ ⟨v, us, e, h1, h2⟩ => ⟨v, us, e, h I v h1, hs I us h2⟩
theorem Imp.agg {xs ys : List AV} (h : ImpL xs ys) : Imp (.agg xs) (.agg ys) := fun I _ ⟨vs, e, h1⟩ => ⟨vs, e, h I vs h1⟩
end Go.Proofs.YtpojdepccecpgaaGreatDoor
namespace Go.Proofs.YtpojdepccecpgaaGreatDoor
open Go.Proofs.Tryz
open Go.Proofs Go.Lib Go.Shelf Go.RowKit
theorem ps22_3 : PlacesS prog 22 58 3 2 [.str ⟨#[]⟩, .int .i64 0, .str ⟨#[]⟩, .int .i64 0, .str ⟨#[]⟩, .int .i64 0] := ⟨_, jv, Ze, Yr, by decide, by decide, by kernel_rfl⟩
variable {E : World}
set_option maxRecDepth 20000
theorem ptext_spec (f : PFunc) (hS : ShapedP f) (hT : TOk f) (hN : NumsOk f) (hsm : small f) (hP : Pows E) (hL : Letters E) : AFun prog E 30 [.agg (encF f)] (.tup [.str (capT (textF f)), .int .i64 (capE (textF f))]) :=
 (text_good f hS hT hN hsm hP hL).mono fun _ _ ⟨_, e, _, _⟩ => e
theorem can_tok {f : PFunc} (hf : small f) (hT : typedB f = true) (hJ : JoinP f) : TOk (canD f) := by
 have hc := can_small hT hJ hf
 have hS := (typedS (can_typed hT hJ).1).1
 unfold bad1 at hS
 simp only [Bool.or_eq_false_iff, decide_eq_false_iff_not] at hS
 exact ⟨hc.1, by omega, hc.2.2.2.1, fun b hb => (hc.2.2.2.2 b hb).1, fun b hb => by
  obtain ⟨g1, g2, g3, g4, g5⟩ := hc.2.2.2.2 b hb
  exact ⟨by omega, by omega, fun p hp => by have := g4 p hp; omega⟩⟩
theorem can_nums {f : PFunc} (hT : typedB f = true) (hN : NumsOk f) : NumsOk (canD f) := fun b hb x hx => by
 obtain ⟨c, hc, rfl⟩ := List.mem_map.1 hb
 obtain ⟨q, hq, rfl⟩ := List.mem_map.1 hc
 obtain ⟨y, hy, rfl⟩ := List.mem_map.1 hx
 have hm : q.1 ∈ ord f := by
  obtain ⟨k, hk⟩ := List.getElem?_of_mem hq
  rw [List.getElem?_zipIdx] at hk
  cases hg : (ord f)[k]? with
  | none => rw [hg] at hk; cases hk
  | some z => rw [hg] at hk; cases hk; exact qv hg
 have hr := order_rng (typedE hT).grph.toEOk hm
 exact hN _ (blkX_mem hr.1 hr.2) y hy
theorem ctext_good (f : PFunc) (hf : small f) (hN : NumsOk f) (hL : Letters E) (hPw : Pows E) (ht : typedB f = true) (hJ : JoinP f) : AFun prog E 10 [.agg (encF f)] (.tup [.str (capT (textF (canD f))), .int .i64 (capE (textF (canD f)))]) := by
 have hc := can_typed ht hJ
 refine zl func10 Z (by decide) Z<|zSr<|y8 (cs := _) Z Z Z<|z8 (y4 (v := .str _) Z)<|zVzAi Z<|z6<|zSr<|zVGvloadWF jp ji Z Z<|zg (canon_good f hf hL hPw ht hJ) Z<|z8 (zMu Z)<|z8 (qe (v := .agg _) Z Z)<|z8 (zXi Z Z)<|zu (cs := [.raw (.slice none 0 0), .raw (.slice none 0 0), .raw (.slice none 0 0)]) Zo Z Z<|fun i4 => zt ji Z Z Z Z Z Z .head Z<|zw (yi (t := 4) Z .head)<|zVzAi Z<|z6<|zb<|zSr<|zVzMi Z<|z8 (yl Z Z)<|z6<|ym Z Z<|ze<|zSr<|zVGvloadWF jp ji Z Z<|zg (ptext_spec (canD f) (typedS hc.1) (can_tok hf ht hJ) (can_nums ht hN) (can_small ht hJ hf) hPw hL) Z<|z8 (qe (v := .str _) Z Z)<|z8 (zXi Z Z)<|z8 (y4 (v := .str _) Z)<|zVzAi Z<|z6<|zf<|afin.t2 (x := .str _) (y := .int _ _) Z Z ?_
 rfl
def exC : PFunc := ⟨[⟨⟨#[110]⟩, 0⟩, ⟨⟨#[107]⟩, 0⟩, ⟨⟨#[109]⟩, 0⟩], [0], [⟨⟨#[97]⟩, [], [⟨2, 2, [0, 0], 0⟩], ⟨2, 2, 0, 0⟩⟩]⟩
theorem exC_typed : typedB exC = true := by decide +kernel
theorem exC_join : JoinP exC := (joinedB_iff _).1 (by decide +kernel)
theorem exC_small : small exC := by unfold small exC; simp [smallBlk]; decide
theorem exC_text : textF (canD exC) = ⟨#[102, 117, 110, 99, 32, 118, 48, 58, 105, 110, 116, 10, 118, 97, 114, 32, 118, 49, 58, 105, 110, 116, 10, 98, 108, 111, 99, 107, 32, 98, 48, 10, 118, 49, 32, 61, 32, 97, 100, 100, 32, 118, 48, 32, 118, 48, 10, 114, 101, 116, 32, 118, 49, 10]⟩ := by decide +kernel
theorem lives18_spec (hL : Letters E) (hPw : Pows E) : AFun prog E 7 [] (.bool true) := by
 have ht := ctext_good (E := E) exC exC_small (fun b hb x hx => by
  cases hb with
  | head => cases hx with
   | head => exact ⟨by decide, by decide⟩
   | tail _ h => cases h
  | tail _ h => cases h) hL hPw exC_typed exC_join
 rw [exC_text] at ht
 have ht : AFun prog E 10 [.agg (encF exC)] (.tup [.str ⟨#[102, 117, 110, 99, 32, 118, 48, 58, 105, 110, 116, 10, 118, 97, 114, 32, 118, 49, 58, 105, 110, 116, 10, 98, 108, 111, 99, 107, 32, 98, 48, 10, 118, 49, 32, 61, 32, 97, 100, 100, 32, 118, 48, 32, 118, 48, 10, 114, 101, 116, 32, 118, 49, 10]⟩, .int .i64 0]) := ht
 refine zl func7 Z (by decide) Z<|zSr<|zVzAb Z<|z6<|zSr<|z8 (ye (cps := [(0, [_])]) (rs := [_, .int .i64 0]) pl58 Z Z Z)<|z8 (ye (cps := [(0, [_])]) (rs := [_, .int .i64 0]) pl58 Z Z Z)<|z8 (ye (cps := [(0, [_])]) (rs := [_, .int .i64 0]) pl58 Z Z Z)<|zn (rows := [[_, _], [_, _], [_, _]]) ps22_3 Z Z Z Z Z<|zn (rows := [[_]]) ps23_1 Z Z Z Z Z<|zn (rows := [[_], [_]]) ps23_2 Z Z Z Z Z<|z8 (ye (cps := [(0, [_]), (1, [_]), (2, [_])]) (rs := [_, _, _, .int .i64 0]) pl61 Z Z Z)<|zn (rows := [[_, _, _, _]]) ps62_1 Z Z Z Z Z<|z8 (ye (cps := [(0, [_]), (1, [_])]) (rs := [_, _, .int .i64 0, .int .i64 0]) pl66 Z Z Z)<|z8 (ye (cps := [(0, [_]), (2, [_]), (3, [_, _, _, _])]) (rs := [_, .raw (.slice none 0 0), _, _, _, _, _]) pl69 Z Z Z)<|zw (GStep.slot (t := 13) Z (Imp.agg (.cons (.refl _) (.cons (.nil 3) (.cons (.refl _) (.cons (.refl _) (.cons (.refl _) (.cons (.refl _) (.cons (.refl _) .nil)))))))))<|zn (rows := [[_, _, _, _, _, _, _]]) ps24_1 Z Z Z Z Z<|z8 (ye (cps := [(0, [_]), (1, [_]), (2, [_])]) (rs := [_, _, _]) pl26 Z Z Z)<|zu (cs := [.raw (.slice none 0 0), .raw (.slice none 0 0), .raw (.slice none 0 0)]) Zo Z Z<|fun i1 => zt ji Z Z Z Z Z Z .head Z<|zw (yi (t := 1) Z .head)<|z6<|zSr<|zVGvloadWF jp ji Z Z<|zg (ht) Z<|z8 (zMu Z)<|z8 (qe (v := .str _) Z Z)<|z8 (zXi Z Z)<|z8 (y4 (v := .str _) Z)<|zVzAi Z<|z6<|zSr<|zVzMi Z<|zVGveqlI Z Z<|zVzMb Z<|za Z Z Z<|z8 (yf (v := .str _) Z)<|za Z Z Z<|z8 (yw Z Z)<|zVzPt Z Z Z ?_
 refine zVzAb Z<|z6<|zf<|zj (x := .bool _) Z ?_
 rfl
end Go.Proofs.YtpojdepccecpgaaGreatDoor
namespace Go.Proofs.YtpojdepccecpgaaGreatDoor
open Go.Proofs.Tryz
open Go.Proofs Go.Lib Go.Shelf Go.RowKit
variable {E : World}
set_option maxRecDepth 20000
end Go.Proofs.YtpojdepccecpgaaGreatDoor
namespace Go.Proofs.YtpojdepccecpgaaGreatDoor
open Go.Proofs.Tryz
open Go.Proofs Go.Lib Go.Shelf Go.RowKit
variable {E : World}
set_option maxRecDepth 20000
theorem chkNum_spec (op : Int) (h : 0 ≤ op ∧ op ≤ 26) : AFun prog E 107 [.int .i64 op] (.int .i64 (if 18 ≤ op ∧ op ≤ 24 then op - 17 else 0)) := by
 refine zl func107 Z (by decide) Z<|zSr<|zVzAi Z<|z6<|zb<|zSr<|zVzMi Z<|zVGvlss Z Z<|zVzMb Z<|zo (s := 5) Z (fun c1=>?_) (fun c1=>?_)
 ·have h1 : op < 18 := by simpa using c1
  refine z7 Z Z c1<|z7 Z Z c1<|zVzPt Z c1 Z<|z6<|yq Z Z<|zSr<|zVzAi Z<|z6<|zf<|zj (x := .int _ _) Z ?_
  rw [if_neg (by omega)]
 ·have h1 : ¬ op < 18 := by simpa using c1
  refine za Z Z c1<|zVzMi Z<|za Z Z c1<|z8 (yy Z Z)<|zVzPf Z c1 Z<|z6<|zz Z (fun c2=>?_) (fun c2=>?_)
  ·have h2 : 24 < op := by simpa using c2
   refine zSr<|zVzAi Z<|z6<|zf<|zj (x := .int _ _) Z ?_
   rw [if_neg (by omega)]
  ·have h2 : ¬ 24 < op := by simpa using c2
   refine ze<|zSr<|zVzMi Z<|z8 (Gv.sub Z Z (by unfold I64; omega))<|zVzAi Z<|z6<|zf<|zj (x := .int _ _) Z ?_
   rw [if_pos (by omega)]
end Go.Proofs.YtpojdepccecpgaaGreatDoor
namespace Go.Proofs.YtpojdepccecpgaaGreatDoor
open Go.Proofs.Tryz
open Go.Proofs
variable {E : World}
set_option maxRecDepth 20000
end Go.Proofs.YtpojdepccecpgaaGreatDoor
namespace Go.Proofs.YtpojdepccecpgaaGreatDoor
open Go.Proofs.Tryz
open Go.Proofs
variable {E : World}
set_option maxRecDepth 20000
theorem rFits2 {k : Nat} (hk : k ≤ 2) {x y : Int} (hx : is64 x) (hy : is64 y) : AFun prog E 143 [.int .i64 k, .int .i64 x, .int .i64 y] (.bool (decide (fit3 k x y))) := by
 have hx1 := hx; have hy1 := hy
 unfold is64 at hx1 hy1
 refine zl func143 Z (by decide) Z<|zSr<|zVzAb Z<|z6<|zb<|zSr<|zVzMi Z<|z6<|zh<|zSr<|zVGveqlI Z Z<|zVzAb Z<|z6<|zk Z (fun c0=>?_) (fun c0=>?_)
 ·have hk0 : k = 0 := by omega
  subst hk0
  refine zSr<|zVzMi Z<|z8 (yy Z Z)<|zVzMb Z<|zo (s := 16) Z (fun c1=>?_) (fun c1=>?_)
  ·refine za Z Z c1<|zVzMi Z<|za Z Z c1<|zVzMi Z<|za Z Z c1<|z8 (Gv.sub Z Z (by unfold I64; simp at *; omega))<|za Z Z c1<|z8 (yy Z Z)<|zVzPt Z c1 Z<|zVGvnot Z<|zVzMb Z<|zo (s := 23) Z (fun c2=>?_) (fun c2=>?_)
   ·refine za Z Z c2<|zVzMi Z<|za Z Z c2<|zVGvlss Z Z<|za Z Z c2<|zVzMb Z<|zo (s := 26) Z (fun c3=>?_) (fun c3=>?_)
    ·refine za Z Z c3<|zVzMi Z<|za Z Z c3<|zVzMi Z<|za Z Z c3<|z8 (Gv.sub Z Z (by unfold I64; simp at *; omega))<|za Z Z c3<|zVGvlss Z Z<|za Z Z c2<|zVzPt Z c3 Z<|za Z Z c2<|zVGvnot Z<|zVzPt Z c2 Z<|zVzAb Z<|z6<|zf<|zj (x := .bool _) Z ?_
     exact jb (by rw [Bool.eq_iff_iff]; unfold fit3 op3 is64; simp at * <;> omega)
    ·refine z7 Z Z c3<|z7 Z Z c3<|z7 Z Z c3<|z7 Z Z c3<|za Z Z c2<|zVzPf Z c3 Z<|za Z Z c2<|zVGvnot Z<|zVzPt Z c2 Z<|zVzAb Z<|z6<|zf<|zj (x := .bool _) Z ?_
     exact jb (by rw [Bool.eq_iff_iff]; unfold fit3 op3 is64; simp at * <;> omega)
   ·refine z7 Z Z c2<|z7 Z Z c2<|z7 Z Z c2<|zd Z Z<|zd Z Z<|zd Z Z<|zd Z Z<|z7 Z Z c2<|z7 Z Z c2<|zVzPf Z c2 Z<|zVzAb Z<|z6<|zf<|zj (x := .bool _) Z ?_
    exact jb (by rw [Bool.eq_iff_iff]; unfold fit3 op3 is64; simp at * <;> omega)
  ·refine z7 Z Z c1<|z7 Z Z c1<|z7 Z Z c1<|z7 Z Z c1<|zVzPf Z c1 Z<|zVGvnot Z<|zVzMb Z<|za Z Z Z<|zVzMi Z<|za Z Z Z<|zVGvlss Z Z<|za Z Z Z<|zVzMb Z<|zo (s := 26) Z (fun c4=>?_) (fun c4=>?_)
   ·refine za Z Z c4<|zVzMi Z<|za Z Z c4<|zVzMi Z<|za Z Z c4<|z8 (Gv.sub Z Z (by unfold I64; simp at *; omega))<|za Z Z c4<|zVGvlss Z Z<|za Z Z Z<|zVzPt Z c4 Z<|za Z Z Z<|zVGvnot Z<|zVzPt Z Z Z<|zVzAb Z<|z6<|zf<|zj (x := .bool _) Z ?_
    exact jb (by rw [Bool.eq_iff_iff]; unfold fit3 op3 is64; simp at * <;> omega)
   ·refine z7 Z Z c4<|z7 Z Z c4<|z7 Z Z c4<|z7 Z Z c4<|za Z Z Z<|zVzPf Z c4 Z<|za Z Z Z<|zVGvnot Z<|zVzPt Z Z Z<|zVzAb Z<|z6<|zf<|zj (x := .bool _) Z ?_
    exact jb (by rw [Bool.eq_iff_iff]; unfold fit3 op3 is64; simp at * <;> omega)
 ·refine zSr<|zVGveqlI Z Z<|zVzAb Z<|z6<|zk Z (fun c1=>?_) (fun c1=>?_)
  ·have hk1 : k = 1 := by omega
   subst hk1
   refine zSr<|zVzMi Z<|zVGvlss Z Z<|zVzMb Z<|zo (s := 38) Z (fun c5=>?_) (fun c5=>?_)
   ·refine za Z Z c5<|zVzMi Z<|za Z Z c5<|zVzMi Z<|za Z Z c5<|z8 (Gv.add Z Z (by unfold I64; simp at *; omega))<|za Z Z c5<|z8 (yy Z Z)<|zVzPt Z c5 Z<|zVGvnot Z<|zVzMb Z<|zo (s := 45) Z (fun c6=>?_) (fun c6=>?_)
    ·refine za Z Z c6<|zVzMi Z<|za Z Z c6<|z8 (yy Z Z)<|za Z Z c6<|zVzMb Z<|zo (s := 48) Z (fun c7=>?_) (fun c7=>?_)
     ·refine za Z Z c7<|zVzMi Z<|za Z Z c7<|zVzMi Z<|za Z Z c7<|z8 (Gv.add Z Z (by unfold I64; simp at *; omega))<|za Z Z c7<|zVGvlss Z Z<|za Z Z c6<|zVzPt Z c7 Z<|za Z Z c6<|zVGvnot Z<|zVzPt Z c6 Z<|zVzAb Z<|z6<|zf<|zj (x := .bool _) Z ?_
      exact jb (by rw [Bool.eq_iff_iff]; unfold fit3 op3 is64; simp at * <;> omega)
     ·refine z7 Z Z c7<|z7 Z Z c7<|z7 Z Z c7<|z7 Z Z c7<|za Z Z c6<|zVzPf Z c7 Z<|za Z Z c6<|zVGvnot Z<|zVzPt Z c6 Z<|zVzAb Z<|z6<|zf<|zj (x := .bool _) Z ?_
      exact jb (by rw [Bool.eq_iff_iff]; unfold fit3 op3 is64; simp at * <;> omega)
    ·refine z7 Z Z c6<|z7 Z Z c6<|z7 Z Z c6<|zd Z Z<|zd Z Z<|zd Z Z<|zd Z Z<|z7 Z Z c6<|z7 Z Z c6<|zVzPf Z c6 Z<|zVzAb Z<|z6<|zf<|zj (x := .bool _) Z ?_
     exact jb (by rw [Bool.eq_iff_iff]; unfold fit3 op3 is64; simp at * <;> omega)
   ·refine z7 Z Z c5<|z7 Z Z c5<|z7 Z Z c5<|z7 Z Z c5<|zVzPf Z c5 Z<|zVGvnot Z<|zVzMb Z<|za Z Z Z<|zVzMi Z<|za Z Z Z<|z8 (yy Z Z)<|za Z Z Z<|zVzMb Z<|zo (s := 48) Z (fun c8=>?_) (fun c8=>?_)
    ·refine za Z Z c8<|zVzMi Z<|za Z Z c8<|zVzMi Z<|za Z Z c8<|z8 (Gv.add Z Z (by unfold I64; simp at *; omega))<|za Z Z c8<|zVGvlss Z Z<|za Z Z Z<|zVzPt Z c8 Z<|za Z Z Z<|zVGvnot Z<|zVzPt Z Z Z<|zVzAb Z<|z6<|zf<|zj (x := .bool _) Z ?_
     exact jb (by rw [Bool.eq_iff_iff]; unfold fit3 op3 is64; simp at * <;> omega)
    ·refine z7 Z Z c8<|z7 Z Z c8<|z7 Z Z c8<|z7 Z Z c8<|za Z Z Z<|zVzPf Z c8 Z<|za Z Z Z<|zVGvnot Z<|zVzPt Z Z Z<|zVzAb Z<|z6<|zf<|zj (x := .bool _) Z ?_
     exact jb (by rw [Bool.eq_iff_iff]; unfold fit3 op3 is64; simp at * <;> omega)
  ·have hk2 : k = 2 := by omega
   subst hk2
   refine ze<|zb<|zb<|yn (γ := Bool) [1, 2] (fun u => [(61, .bool u)]) (fun u => []) (fun u => u = decide (x = 0 ∨ y = 0)) ?_ (fun _ _ h => h) ?_
   ·refine zRg<|zVzMi Z<|zVGveqlI Z Z<|zVzMb Z<|zo (s := 58) Z (fun c9=>?_) (fun c9=>?_)
    ·refine z7 Z Z c9<|z7 Z Z c9<|zVzPt Z c9 Z<|z6 ?_
     exact ⟨_, zR2, zR1, zLe, by simp_all⟩
    ·refine za Z Z c9<|zVzMi Z<|za Z Z c9<|zVGveqlI Z Z<|zVzPf Z c9 Z<|z6 ?_
     exact ⟨_, zR2, zR1, zLe, by simp_all⟩
   ·rintro u hu
    subst hu
    refine zk Z (fun cz=>?_) (fun cz=>?_)
    ·refine zSr<|zVzAb Z<|z6<|zf<|zj (x := .bool _) Z ?_
     exact jb (by rw [qy]; unfold fit3; rw [show op3 2 x y = x * y from rfl]; rcases cz with h | h <;> rw [h] <;> simp [is64])
    ·have hx0 : x ≠ 0 := fun e => cz (.inl e)
     have hy0 : y ≠ 0 := fun e => cz (.inr e)
     refine ze<|zSr<|zVzMi Z<|zVGvlss Z Z<|zVzMi Z<|zVGvlss Z Z<|z8 (Gv.eqlB Y5 Z Z)<|zVzAb Z<|z6<|zSr<|zVzMi Z<|z8 (Gv.conv Zj Zg Z)<|zVzMi Z<|z8 (Gv.conv Zj Zg Z)<|zVzAi Z<|zVzAi Z<|z6<|zb<|zSr<|zVzMi Z<|zVGvlss Z Z<|z6<|yn (γ := Int) [2, 7, 9] (fun u => [(8, .int .u64 u)]) (fun u => []) (fun u => u = (x.natAbs : Int)) ?_ (fun _ _ h => h) ?_
     ·refine zk Z (fun c=>?_) (fun c=>?_)
      ·refine zRg<|zVzMi Z<|z8 (Gv.neg Z)<|zVzAi Z<|z6 ?_
       exact ⟨_, zR3, zR1, zLe, by have := abs_wrap hx; rwa [if_pos c] at this⟩
      ·refine ze ?_
       exact ⟨_, zR3, zR1, zLe, by have := abs_wrap hx; rwa [if_neg c] at this⟩
     ·rintro u hu
      subst hu
      refine zb<|zSr<|zVzMi Z<|zVGvlss Z Z<|z6<|yn (γ := Int) [7, 8] (fun u => [(9, .int .u64 u)]) (fun u => []) (fun u => u = (y.natAbs : Int)) ?_ (fun _ _ h => h) ?_
      ·refine zk Z (fun c=>?_) (fun c=>?_)
       ·refine zRg<|zVzMi Z<|z8 (Gv.neg Z)<|zVzAi Z<|z6 ?_
        exact ⟨_, zR2, zR1, zLe, by have := abs_wrap hy; rwa [if_pos c] at this⟩
       ·refine ze ?_
        exact ⟨_, zR2, zR1, zLe, by have := abs_wrap hy; rwa [if_neg c] at this⟩
      ·rintro u hu
       subst hu
       refine zSr<|zVzAi Z<|z6<|zb<|zSr<|zVzMb Z<|zVGvnot Z<|z6<|yn (γ := Int) [8, 9] (fun u => [(10, .int .u64 u)]) (fun u => []) (fun u => u = (if (decide (x < 0) == decide (y < 0)) = true then 9223372036854775807 else 9223372036854775808)) ?_ (fun _ _ h => h) ?_
       ·refine zz Z (fun c=>?_) (fun c=>?_)
        ·refine zRg<|zVzAi Z<|z6 ?_
         exact ⟨_, zR2, zR1, zLe, by rw [if_neg (by simpa using c)]⟩
        ·refine ze ?_
         exact ⟨_, zR2, zR1, zLe, by rw [if_pos (by simpa using c)]⟩
       ·rintro u hu
        subst hu
        refine zSr<|zVzMi Z<|zVzMi Z<|zVzMi Z<|z8 (Gv.quo Z Z (by omega))<|z8 (Gv.leq Z Z)<|zVzAb Z<|z6<|zf<|zj (x := .bool _) Z ?_
        exact jb (fitU hx hx0 hy0)
theorem rWrap {k : Nat} (hk : k ≤ 2) {x y : Int} : AFun prog E 109 [.int .i64 k, .int .i64 x, .int .i64 y] (.int .i64 (IntKind.i64.wrap (op3 k x y))) := by
 refine zl func109 Z (by decide) Z<|zSr<|zVzAi Z<|z6<|zb<|zSr<|zVzMi Z<|z6<|zh<|zSr<|zVGveqlI Z Z<|zVzAb Z<|z6<|zk Z (fun c0=>?_) (fun c0=>?_)
 ·have hk0 : k = 0 := by omega
  subst hk0
  refine zSr<|zVzMi Z<|z8 (Gv.conv Zj Zg Z)<|zVzMi Z<|z8 (Gv.conv Zj Zg Z)<|z8 (Gv.addW Z Z)<|z8 (Gv.conv Zg Zj Z)<|zVzAi Z<|z6<|zf<|zj (x := .int _ _) Z ?_
  exact congrArg (AV.int .i64) (wrapU_add x y)
 ·refine zSr<|zVGveqlI Z Z<|zVzAb Z<|z6<|zk Z (fun c1=>?_) (fun c1=>?_)
  ·have hk1 : k = 1 := by omega
   subst hk1
   refine zSr<|zVzMi Z<|z8 (Gv.conv Zj Zg Z)<|zVzMi Z<|z8 (Gv.conv Zj Zg Z)<|z8 (Gv.subW Z Z)<|z8 (Gv.conv Zg Zj Z)<|zVzAi Z<|z6<|zf<|zj (x := .int _ _) Z ?_
   exact congrArg (AV.int .i64) (wrapU_sub x y)
  ·have hk2 : k = 2 := by omega
   subst hk2
   refine ze<|zSr<|zVzMi Z<|z8 (Gv.conv Zj Zg Z)<|zVzMi Z<|z8 (Gv.conv Zj Zg Z)<|z8 (Gv.mulW Z Z)<|z8 (Gv.conv Zg Zj Z)<|zVzAi Z<|z6<|zf<|zj (x := .int _ _) Z ?_
   exact congrArg (AV.int .i64) (wrapU_mul x y)
theorem rDiv2 {x y : Int} (hy : y ≠ 0) : AFun prog E 110 [.int .i64 x, .int .i64 y] (.tup [.int .i64 (IntKind.i64.wrap (x.tdiv y)), .int .i64 (if y = -1 then 0 else IntKind.i64.wrap (x - IntKind.i64.wrap (IntKind.i64.wrap (x.tdiv y) * y)))]) := by
 refine zl func110 Z (by decide) Z<|zSr<|zVzAi Z<|zVzAi Z<|z6<|zb<|zSr<|zVzMi Z<|zVGveqlI Z Z<|z6<|zk Z (fun c=>?_) (fun c=>?_)
 ·refine zSr<|zVzMi Z<|z8 (Gv.conv Zj Zg Z)<|z8 (Gv.neg Z)<|z8 (Gv.conv Zg Zj Z)<|zVzAi Z<|zVzAi Z<|z6<|zf<|afin.t2 (x := .int _ _) (y := .int _ _) Z Z ?_
  rw [if_pos c, c, wrapU_neg]; try rfl
 ·refine ze<|zb<|zq (fun j => false) (by kernel_rfl) Z (zr (.rest _))<|zTk 0 Z (zMi Z)<|zTk 1 Z (zMi Z)<|zTk 2 Z (Gv.quo Z Z (by omega))<|zTk 3 Z (zMi Z)<|zTk 4 Z (zMi Z)<|zTk 5 Z (zMi Z)<|zTk 6 Z (Gv.quo Z Z (by omega))<|zTk 7 Z (zMi Z)<|zTk 8 Z (Gv.mulW Z Z)<|zTk 9 Z (Gv.subW Z Z)<|zTk 10 Z (zAi Z)<|zTk 11 Z (zAi Z)<|zDn<|zf<|afin.t2 (x := .int _ _) (y := .int _ _) Z Z ?_
  rw [if_neg c]; try rfl
end Go.Proofs.YtpojdepccecpgaaGreatDoor
namespace Go.Proofs.YtpojdepccecpgaaGreatDoor
open Go.Proofs.Tryz
def AAnyR (P : Program) (E : World) (l : List Oper) (Q : AEnv → OL → Prop) (fuel : Nat) (listed : Array Bool) (env : AEnv) (R Om : OL) : Prop :=
 ∀ I F ρ w Lr, RepE I env ρ → RepOs I R Lr → SLA I Om (Lr ++ F) E w → AnyV P l.toArray (stays I.k Lr E) (stays I.k Lr E) (fun _ => false) (postK I F E Q) fuel listed ρ w
section
variable {E : World} {P : Program} {n : Nat} {l : List Oper} {Q : AEnv → OL → Prop} {fuel : Nat} {listed : Array Bool} {env : AEnv} {O R Om : OL}
variable {d ty : Nat} {op : Op} {pos : String} {af : Array Edge}
theorem AWP.regionDrawR {Q : Exit → AEnv → OL → Prop} {id : Nat} (hm : P.follows .mixedOrders = true) (hd : dstsOk n l = true) (hO : O.Perm (Om ++ R)) (h : AAnyR P E l (Q .normal) l.length (Array.replicate l.length false) env R Om) : AWP P E n (.region id l.toArray true) Q env O := fun I F ρ w h1 h2 => by
 obtain ⟨Lr, hLr, h3⟩ := h2.split hO
 refine WP.regionDraw (stays I.k Lr E) (stays I.k Lr E) (fun _ => false) hm hd fun w' hw => ?_
 subst hw
 refine h I F ρ _ Lr h1 hLr ?_
 obtain ⟨ht, L, hL, hS⟩ := h3
 exact ⟨ht, L, hL, hS.drew⟩
theorem AAnyR.takeK {i : Nat} {x : AV} (hi : l[i]? = some (Oper.mk (some d) op ty pos af none)) (hs : Region.noSelect l.toArray = true) (hf : Region.free .any l.toArray listed i = true)
  (hr : (Region.ready .any l.toArray listed).contains i = true) (hg : Gv P env R (Oper.mk (some d) op ty pos af none) x)
  (h : AAnyR P E l Q fuel (listed.setIfInBounds i true) (aupd env d x) R Om) : AAnyR P E l Q (fuel + 1) listed env R Om := fun I F ρ w Lr h1 hLr h2 => by
 obtain ⟨v, hv, hrun⟩ := hg I Lr E ρ h1 hLr
 exact AnyV.takeK hi hs hf hr rfl h2.here (.inr h2.here) (fun w ⟨J, L', a, b, c⟩ => hrun w J L' a b c) (h I F _ w Lr (h1.upd d hv) hLr h2)
theorem AAnyR.one {i : Nat} {o : Oper} (hi : l[i]? = some o) (hr : Region.ready .any l.toArray listed = [i])
  (h : AOps P E l.toArray (fun env' Om' => AAnyR P E l Q fuel (listed.setIfInBounds i true) env' R Om') [o] env Om) : AAnyR P E l Q (fuel + 1) listed env R Om := fun I F ρ w Lr h1 hLr h2 =>
 AnyV.one hi hr (yx (fun ρ' w' ⟨J, env', Om', a, b, c, d⟩ => by
  have hst : stays I.k Lr E w' := by
   obtain ⟨J', L', h3, h4, h5⟩ := c.here
   exact ⟨J', L', a.k.trans h3, h4, h5⟩
  refine ⟨⟨hst, .inr hst⟩, AnyV.mono ?_ ?_ (fun _ _ => qb a) _ _ _ _ (d J F ρ' w' Lr b (hLr.mono a) c)⟩
  ·rintro w ⟨J', L', h3, h4⟩; exact ⟨J', L', a.k.trans h3, h4⟩
  ·rintro w ⟨J', L', h3, h4⟩; exact ⟨J', L', a.k.trans h3, h4⟩) _ _ _ (h I (Lr ++ F) ρ w h1 h2))
theorem AAnyR.done (hr : Region.ready .any l.toArray listed = []) (h : Q env (R ++ Om)) : AAnyR P E l Q fuel listed env R Om := fun I F ρ w Lr h1 hLr h2 =>
 AnyV.done hr ⟨I, env, R ++ Om, .refl _, h1, SLA.together hLr h2, h⟩
end
end Go.Proofs.YtpojdepccecpgaaGreatDoor
namespace Go.Proofs.YtpojdepccecpgaaGreatDoor
open Go.Proofs.Tryz
open Go.Proofs Go.Lib Go.Shelf Go.RowKit
variable {E : World}
set_option maxRecDepth 20000
def ownsA (ids : List Nat) (rs : List (List Int)) : List AV := List.zipWith (fun i r => AV.own i r.length) ids rs
def rowA (i : Nat) (r : List Int) : Nat × AObj := (i, .grow 1 2 (cI r))
def bagA (ids : List Nat) (rs : List (List Int)) : OL := List.zipWith rowA ids rs
theorem owns_len {ids : List Nat} {rs : List (List Int)} (h : ids.length = rs.length) : (ownsA ids rs).length = rs.length := by unfold ownsA; simp [h]
theorem owns_drop : ∀ {ids : List Nat} {rs : List (List Int)} {j i : Nat} {r : List Int}, ids[j]? = some i → rs[j]? = some r → (ownsA ids rs).drop j = .own i r.length :: (ownsA ids rs).drop (j + 1)
 | [], _, _, _, _, h, _ => by simp at h
 | _ :: _, [], _, _, _, _, h => by simp at h
 | i :: ids, r :: rs, 0, _, _, h1, h2 => by
  simp at h1 h2
  subst h1 h2; rfl
 | _ :: ids, _ :: rs, j + 1, i, r, h1, h2 => owns_drop (ids := ids) (rs := rs) (by simpa using h1) (by simpa using h2)
theorem get_id {ids : List Nat} {rs : List (List Int)} (h : ids.length = rs.length) {j : Nat} (hj : j < rs.length) : ∃ i, ids[j]? = some i := ⟨_, qm (by omega)⟩
theorem get0 {l : List Int} {k : Nat} (h : k < l.length) : l[k]? = some ((l[k]?).getD 0) := by
 rw [qm h]; rfl
abbrev wCe (f : PFunc) (ja jb jc jo jt : Nat) (s : GS) : List AV := encF f ++ [.own ja f.vars.length, .own jb f.vars.length, .own jc f.vars.length, .own jo s.arrays.length, .int .i64 s.blk, .int .i64 s.pc, .int .i64 s.en, .int .i64 s.val, .int .i64 s.tr, .own jt s.trace.length, .int .i64 s.st, .int .i64 (s.ck 0), .int .i64 (s.ck 1), .int .i64 (s.ck 2), .int .i64 (s.ck 3), .int .i64 (s.ck 4), .int .i64 (s.ck 5), .int .i64 (s.ck 6), .int .i64 (s.ck 7), .bool s.ended]
abbrev wR (ja jb jc jo jt : Nat) (ids : List Nat) (s : GS) : OL := [(ja, .grow 1 2 (cI s.ints)), (jb, .grow 1 4 (cB s.bools)), (jc, .grow 1 3 (cI s.arrs)), (jo, .grow 1 47 (ownsA ids s.arrays)), (jt, .grow 1 2 (cI s.trace)), (0, bag (bagA ids s.arrays))]
abbrev wO (f : PFunc) (iw ja jb jc jo jt : Nat) (ids : List Nat) (s : GS) : OL := (iw, .cells 93 (wCe f ja jb jc jo jt s)) :: wR ja jb jc jo jt ids s
theorem wend_spec (f : PFunc) (iw ja jb jc jo jt : Nat) (ids : List Nat) (s : GS) (e : Int) : ACall prog E 75 [.po iw 0, .int .i64 e] (wO f iw ja jb jc jo jt ids s) (fun y O => y = .tup [] ∧ O = wO f iw ja jb jc jo jt ids (stopG s e)) := by
 refine zl func75 Z (by decide) Z<|zRg<|zVzMp Z<|zVzMp Z<|zVzMi Z<|zVGvnilCheckO Z<|z8 (zc j9 Z Z9 (by decide) Z Z)<|z8 (zc jr Z sizeOf45 (by decide) Z Z)<|y1 (l := [_]) (new := [_, _, _, _, _, _, _, _, _, _, _, _, _, _, _, _, _, _, _, _, _, _, _]) sizeOf45 Z Z Z Z Z Z .head Z Z<|zVGvnilCheckO Z<|z8 (zc j9 Z Z6 (by decide) Z Z)<|y1 (l := [_]) (new := [_, _, _, _, _, _, _, _, _, _, _, _, _, _, _, _, _, _, _, _, _, _, _]) Z6 Z Z Z Z Z Z .head Z Z<|z6<|yt ?_
 exact ⟨rfl, rfl⟩
theorem wplace_spec (f : PFunc) (iw ja jb jc jo jt : Nat) (ids : List Nat) (s : GS) (a i : Int) (hids : ids.length = s.arrays.length) : ACall prog E 111 [.po iw 0, .int .i64 a, .int .i64 i] (wO f iw ja jb jc jo jt ids s) (fun y O => y = .bool (placeG s a i) ∧ O = wO f iw ja jb jc jo jt ids s) := by
 refine zl func111 Z (by decide) Z<|zSr<|zVzAb Z<|z6<|zSr<|zVzMi Z<|z8 (qc Z Z)<|zVzMb Z<|zo (s := 9) Z (fun c1=>?_) (fun c1=>?_)
 ·have h1 : 0 ≤ a := by simpa using c1
  refine za Z Z c1<|zVzMi Z<|za Z Z c1<|zVzMp Z<|za Z Z c1<|zVGvnilCheckO Z<|za Z Z c1<|z8 (zc j9 Z Y0 (by decide) Z Z)<|za Z Z c1<|z8 (zi (c := .own _ _) Yf Z ⟨_, .head⟩ Z)<|za Z Z c1<|z8 (qj Z7 Z)<|za Z Z c1<|zVGvlss Z Z<|zVzPt Z c1 Z<|zVzMb Z<|zo (s := 18) Z (fun c2=>?_) (fun c2=>?_)
  ·have h2 : a < s.arrays.length := by simpa using c2
   refine za Z Z c2<|zVzMi Z<|za Z Z c2<|z8 (qc Z Z)<|zVzPt Z c2 Z<|zVzMb Z<|zo (s := 22) Z (fun c3=>?_) (fun c3=>?_)
   ·have h3 : 0 ≤ i := by simpa using c3
    obtain ⟨q, hq⟩ := get_id hids (j := a.toNat) (by omega)
    refine za Z Z c3<|zVzMi Z<|za Z Z c3<|zVzMp Z<|za Z Z c3<|zVGvnilCheckO Z<|za Z Z c3<|z8 (zc j9 Z Y0 (by decide) Z Z)<|za Z Z c3<|z8 (zi (c := .own _ _) Yf Z ⟨_, .head⟩ Z)<|za Z Z c3<|zVzMi Z<|za Z Z c3<|z8 (yj (j := a.toNat) Z7 Za Z Z (by omega) ⟨_, .t4⟩ (owns_len hids) (by omega))<|za Z Z c3<|z8 (Gv.load1G (c := _) Zn Z ⟨_, .t4⟩ (owns_drop hq (row_get h1 h2)))<|za Z Z c3<|z8 (qj jj Z)<|za Z Z c3<|zVGvlss Z Z<|zVzPt Z c3 Z<|zVzAb Z<|z6<|zf<|zj (x := .bool _) Z ?_
    exact ⟨congrArg AV.bool (by unfold placeG; simp [h1, h2, h3]), rfl⟩
   ·have h3 : ¬ 0 ≤ i := by simpa using c3
    refine z7 Z Z c3<|z7 Z Z c3<|z7 Z Z c3<|z7 Z Z c3<|z7 Z Z c3<|z7 Z Z c3<|z7 Z Z c3<|z7 Z Z c3<|z7 Z Z c3<|z7 Z Z c3<|zVzPf Z c3 Z<|zVzAb Z<|z6<|zf<|zj (x := .bool _) Z ?_
    exact ⟨congrArg AV.bool (by unfold placeG; simp [h1, h2, h3]), rfl⟩
  ·have h2 : ¬ a < s.arrays.length := by simpa using c2
   refine z7 Z Z c2<|z7 Z Z c2<|zVzPf Z c2 Z<|zVzMb Z<|z7 Z Z Z<|z7 Z Z Z<|z7 Z Z Z<|z7 Z Z Z<|z7 Z Z Z<|z7 Z Z Z<|z7 Z Z Z<|z7 Z Z Z<|z7 Z Z Z<|z7 Z Z Z<|zVzPf Z Z Z<|zVzAb Z<|z6<|zf<|zj (x := .bool _) Z ?_
   exact ⟨congrArg AV.bool (by unfold placeG; simp [h1, h2]), rfl⟩
 ·have h1 : ¬ 0 ≤ a := by simpa using c1
  refine z7 Z Z c1<|z7 Z Z c1<|z7 Z Z c1<|z7 Z Z c1<|z7 Z Z c1<|z7 Z Z c1<|z7 Z Z c1<|zVzPf Z c1 Z<|zVzMb Z<|z7 Z Z Z<|z7 Z Z Z<|zVzPf Z Z Z<|zVzMb Z<|z7 Z Z Z<|z7 Z Z Z<|z7 Z Z Z<|z7 Z Z Z<|z7 Z Z Z<|z7 Z Z Z<|z7 Z Z Z<|z7 Z Z Z<|z7 Z Z Z<|z7 Z Z Z<|zVzPf Z Z Z<|zVzAb Z<|z6<|zf<|zj (x := .bool _) Z ?_
  exact ⟨congrArg AV.bool (by unfold placeG; simp [h1]), rfl⟩
theorem words_one : ∀ j : Nat, j < 27 → ∀ k : Nat, k < 27 → decide ((kRow (j : Int)).1 = (kRow (k : Int)).1) = decide (j = k) := by decide
theorem word_op {op : Int} (h : 0 ≤ op ∧ op ≤ 26) (k : Nat) (hk : k < 27) {b : ByteArray} (hb : (kRow (k : Int)).1 = b) : ((kRow op).1 = b) ↔ op = (k : Int) := by
 subst hb
 obtain ⟨j, rfl⟩ : ∃ j : Nat, op = (j : Int) := ⟨op.toNat, by omega⟩
 have := words_one j (by omega) k hk
 rw [decide_eq_decide] at this
 rw [this]; omega
def arg_ok (f : PFunc) (op : Int) (l : List Int) : Prop := 18 ≤ op ∧ op ≤ 24 ∧ 0 < l.length ∧ ∀ v ∈ l, v < f.vars.length ∧ 0 ≤ v
theorem arg_get {f : PFunc} {op : Int} {l : List Int} (h : arg_ok f op l) {k : Nat} (hk : k < l.length) : (l[k]?).getD 0 < f.vars.length ∧ 0 ≤ (l[k]?).getD 0 := by
 rw [qm hk]; exact h.2.2.2 _ (qq hk)
theorem wpasses_spec (f : PFunc) (iw ja jb jc jo jt : Nat) (ids : List Nat) (s : GS) (op : Int) (l : List Int) (hids : ids.length = s.arrays.length) (hg : GInv f s) (ho : arg_ok f op l) : ACall prog E 108 [.po iw 0, .str (kRow op).1, .fro 1 (l.map encI)] (wO f iw ja jb jc jo jt ids s) (fun y O => y = .bool (passG s op l) ∧ O = wO f iw ja jb jc jo jt ids s) := by
 have hop : 0 ≤ op ∧ op ≤ 26 := by have := ho.1; have := ho.2.1; omega
 obtain ⟨q0, r0⟩ := arg_get ho ho.2.2.1
 obtain ⟨v0, hv0⟩ : ∃ v, (l[0]?).getD 0 = v := ⟨_, rfl⟩
 rw [hv0] at q0 r0
 have hl1 := hg.li
 have hl3 := hg.la
 have ha64 : is64 (vi s.ints v0) := vi_64 hg.i64
 refine zl func108 Z (by decide) Z<|zSr<|zVzAb Z<|z6<|zb<|zq (fun j => false) (by kernel_rfl) Z (zr (.r (.r (.rest _))))<|zTk 0 Z (zMp Z)<|zTk 1 Z (zy Z)<|zTk 2 Z (zc j9 Z Za (by decide) Z Z)<|zTk 3 Z (zi (c := .own _ _) Zn Z ⟨_, .head⟩ Z)<|zTk 4 Z (zMf Z)<|zTk 5 Z (zIM 0 j4 j5 Z Z Z ((get0 ho.2.2.1).trans (by rw [hv0]))) ?_
 refine zTk 6 Z (zLi jd Z)<|zTk 7 Z (yj (j := v0.toNat) jj Z3 Z Z (by omega) ⟨_, .t1⟩ ((cI_len _).trans hl1) (by omega))<|zTk 8 Z (qh (j := v0.toNat) Y7 Z ⟨_, .t1⟩ (vi_get (by omega) r0))<|zTk 9 Z (zAi Z)<|zDn<|zSr<|zVzAi Z<|z6<|zb<|zSr<|zVzMf Z<|zVGvlenM j4 Z<|z8 (yy Z Z)<|z6<|yn (γ := Int) [0, 1, 2, 7] (fun u => [(8, .int .i64 u)]) (fun u => wO f iw ja jb jc jo jt ids s) (fun u => u = bIf l s.ints) ?_ (fun _ _ h => h) ?_
 ·refine zk Z (fun c=>?_) (fun c=>?_)
  ·have c : 1 < l.length := by omega
   obtain ⟨q1, r1⟩ := arg_get ho c
   obtain ⟨v1, hv1⟩ : ∃ v, (l[1]?).getD 0 = v := ⟨_, rfl⟩
   rw [hv1] at q1 r1
   refine zq (fun j => false) (by kernel_rfl) Z (zr (.r (.r (.rest _))))<|zTk 0 Z (zMp Z)<|zTk 1 Z (zy Z)<|zTk 2 Z (zc j9 Z Za (by decide) Z Z)<|zTk 3 Z (zi (c := .own _ _) Zn Z ⟨_, .head⟩ Z)<|zTk 4 Z (zMf Z)<|zTk 5 Z (zIM 1 j4 j5 Z Z Z ((get0 c).trans (by rw [hv1]))) ?_
   refine zTk 6 Z (zLi jd Z)<|zTk 7 Z (yj (j := v1.toNat) jj Z3 Z Z (by omega) ⟨_, .t1⟩ ((cI_len _).trans hl1) (by omega))<|zTk 8 Z (qh (j := v1.toNat) Y7 Z ⟨_, .t1⟩ (vi_get (by omega) r1))<|zTk 9 Z (zAi Z)<|zDn ?_
   exact ⟨_, zR4, zR1, zLe, by unfold bIf; rw [if_pos c, hv1]⟩
  ·have c : ¬ 1 < l.length := by omega
   refine ze ?_
   exact ⟨_, zR4, zR1, zLe, by unfold bIf; rw [if_neg c]⟩
 ·rintro u hu
  have hb64 : is64 u := by
   rw [hu]; unfold bIf; split
   ·exact vi_64 hg.i64
   ·exact ⟨by decide, by decide⟩
  refine zb<|zSr<|z8 (yf (v := .str _) Z)<|z6<|zh<|zSr<|z8 (yw Z Z)<|zVzAb Z<|z6<|zk Z (fun c18=>?_) (fun c18=>?_)
  ·have e : op = 18 := (word_op hop 18 (by decide) rfl).1 c18
   refine zb<|zq (fun j => false) (by kernel_rfl) Z (zr (.rest _))<|zTk 0 Z (zMp Z)<|zTk 1 Z (zMp Z)<|zTk 2 Z (zy Z)<|zTk 3 Z (zc j9 Z je (by decide) Z Z)<|zTk 5 Z (zMf Z)<|zTk 6 Z (zIM 0 j4 j5 Z Z Z ((get0 ho.2.2.1).trans (by rw [hv0]))) ?_
   refine zTk 7 Z (zLi jd Z)<|zTk 10 Z (zMi Z)<|zOn 4 Z<|z8 (zi (c := .own _ _) jn Z ⟨_, .head⟩ Z)<|z6<|zOn 8 Z<|z8 (yj (j := v0.toNat) j4 j5 Z Z (by omega) ⟨_, .t3⟩ ((cI_len _).trans hl3) (by omega))<|z6<|zOn 9 Z<|z8 (qh (j := v0.toNat) jd Z ⟨_, .t3⟩ (vi_get (by omega) r0))<|z6<|zOn 11 Z<|yh Z (zr (.l (.l (.l (.l (.l (.l (.l (.rest _))))))))) (wplace_spec f iw ja jb jc jo jt ids s (vi s.arrs v0) u hids) ?_
   rintro r44 O44 ⟨rfl, rfl⟩
   refine z6<|zTk 12 Z (zAb Z)<|zDn<|zf<|zj (x := .bool _) Z ?_
   exact ⟨by unfold passG; rw [if_pos e, hv0, hu], rfl⟩
  ·have n18 : ¬ op = 18 := fun e => c18 ((word_op hop 18 (by decide) rfl).2 e)
   refine zSr<|z8 (yw Z Z)<|zVzAb Z<|z6<|zk Z (fun c19=>?_) (fun c19=>?_)
   ·have e : op = 19 := (word_op hop 19 (by decide) rfl).1 c19
    refine zb<|zq (fun j => false) (by kernel_rfl) Z (zr (.r (.l (.l (.r (.rest _))))))<|zTk 0 Z (zMp Z)<|zTk 1 Z (zy Z)<|zTk 2 Z (zc j9 Z je (by decide) Z Z)<|zTk 3 Z (zi (c := .own _ _) jn Z ⟨_, .head⟩ Z)<|zTk 4 Z (zMf Z)<|zTk 5 Z (zIM 0 j4 j5 Z Z Z ((get0 ho.2.2.1).trans (by rw [hv0]))) ?_
    refine zTk 6 Z (zLi jd Z)<|zTk 7 Z (yj (j := v0.toNat) j4 j5 Z Z (by omega) ⟨_, .t1⟩ ((cI_len _).trans hl3) (by omega))<|zTk 8 Z (qh (j := v0.toNat) jd Z ⟨_, .t1⟩ (vi_get (by omega) r0))<|zTk 9 Z (qc Z Z)<|zTk 10 Z (zAb Z)<|zDn<|y6 (zm (zp .t3))<|y6 (zm (zp .t3))<|y6 (zm (zp .t2))<|zf<|zj (x := .bool _) Z ?_
    exact ⟨by unfold passG; rw [if_neg n18, if_pos e, hv0], rfl⟩
   ·have n19 : ¬ op = 19 := fun e => c19 ((word_op hop 19 (by decide) rfl).2 e)
    refine zSr<|z8 (yw Z Z)<|zVzAb Z<|z6<|zk Z (fun c20=>?_) (fun c20=>?_)
    ·have e : op = 20 := (word_op hop 20 (by decide) rfl).1 c20
     refine zSr<|zVzMi Z<|z8 (yl Z Z)<|zVzAb Z<|z6<|zf<|zj (x := .bool _) Z ?_
     exact ⟨by unfold passG; rw [if_neg n18, if_neg n19, if_pos e, hv0]; simp, rfl⟩
    ·have n20 : ¬ op = 20 := fun e => c20 ((word_op hop 20 (by decide) rfl).2 e)
     refine zSr<|z8 (yw Z Z)<|zVzAb Z<|z6<|zk Z (fun c21=>?_) (fun c21=>?_)
     ·have e : op = 21 := (word_op hop 21 (by decide) rfl).1 c21
      refine zSr<|zVzMi Z<|zVzMi Z<|zg (rFits2 (k := 0) (by decide) ha64 hb64) Z<|zVzAb Z<|z6<|zf<|zj (x := .bool _) Z ?_
      exact ⟨by unfold passG; rw [if_neg n18, if_neg n19, if_neg n20, if_pos e, hv0, hu], rfl⟩
     ·have n21 : ¬ op = 21 := fun e => c21 ((word_op hop 21 (by decide) rfl).2 e)
      refine zSr<|z8 (yw Z Z)<|zVzAb Z<|z6<|zk Z (fun c22=>?_) (fun c22=>?_)
      ·have e : op = 22 := (word_op hop 22 (by decide) rfl).1 c22
       refine zSr<|zVzMi Z<|zVzMi Z<|zg (rFits2 (k := 1) (by decide) ha64 hb64) Z<|zVzAb Z<|z6<|zf<|zj (x := .bool _) Z ?_
       exact ⟨by unfold passG; rw [if_neg n18, if_neg n19, if_neg n20, if_neg n21, if_pos e, hv0, hu], rfl⟩
      ·have n22 : ¬ op = 22 := fun e => c22 ((word_op hop 22 (by decide) rfl).2 e)
       refine zSr<|z8 (yw Z Z)<|zVzAb Z<|z6<|zk Z (fun c23=>?_) (fun c23=>?_)
       ·have e : op = 23 := (word_op hop 23 (by decide) rfl).1 c23
        refine zSr<|zVzMi Z<|zVzMi Z<|zg (rFits2 (k := 2) (by decide) ha64 hb64) Z<|zVzAb Z<|z6<|zf<|zj (x := .bool _) Z ?_
        exact ⟨by unfold passG; rw [if_neg n18, if_neg n19, if_neg n20, if_neg n21, if_neg n22, if_pos e, hv0, hu], rfl⟩
       ·have n23 : ¬ op = 23 := fun e => c23 ((word_op hop 23 (by decide) rfl).2 e)
        refine ze<|zSr<|zVzMi Z<|z8 (qc Z Z)<|zVzMb Z<|zo (s := 78) Z (fun cz=>?_) (fun cz=>?_)
        ·have h0 : 0 ≤ vi s.ints v0 := by simpa using cz
         refine za Z Z cz<|zVzMi Z<|za Z Z cz<|z8 (Gv.leq Z Z)<|zVzPt Z cz Z<|zVzAb Z<|z6<|zf<|zj (x := .bool _) Z ?_
         exact ⟨congrArg AV.bool (by unfold passG; rw [if_neg n18, if_neg n19, if_neg n20, if_neg n21, if_neg n22, if_neg n23, hv0]; simp [h0]), rfl⟩
        ·have h0 : ¬ 0 ≤ vi s.ints v0 := by simpa using cz
         refine z7 Z Z cz<|z7 Z Z cz<|zVzPf Z cz Z<|zVzAb Z<|z6<|zf<|zj (x := .bool _) Z ?_
         exact ⟨congrArg AV.bool (by unfold passG; rw [if_neg n18, if_neg n19, if_neg n20, if_neg n21, if_neg n22, if_neg n23, hv0]; simp [h0]), rfl⟩
set_option linter.defProp false
def y7 := @AAnyR.takeK
def ql := @AAnyR.one
end Go.Proofs.YtpojdepccecpgaaGreatDoor
