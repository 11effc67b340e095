/- The table of powers of ten, out of what a call is handed. No conditions. -/
import Derived.Test.YtpojdepccecpgaaGreatDoorJp
import Derived.Test.YtpojdepccecpgaaGreatDoorJd
import Derived.Test.YtpojdepccecpgaaGreatDoorJo
import Derived.Test.YtpojdepccecpgaaGreatDoorJh
import Derived.Test.YtpojdepccecpgaaGreatDoorJj
import Derived.Lib.LaidRTab
import Derived.Test.YtpojdepccecpgaaGreatDoorRows
import Derived.Test.YtpojdepccecpgaaGreatDoorChecked
import Derived.ProofKit
import Derived.JoinedOf
import Derived.Test.YtpojdepccecpgaaGreatDoorJf
set_option linter.unusedVariables false
set_option linter.unusedSimpArgs false
set_option linter.unusedSectionVars false
namespace Go.Proofs.YtpojdepccecpgaaGreatDoor
open Go.Proofs.Tryz
open Go.Proofs Go.Lib Go.Shelf Go.RowKit
theorem ps84_3 : PlacesS prog 84 9 3 1 [.str ⟨#[]⟩, .str ⟨#[]⟩, .str ⟨#[]⟩] := ⟨_, Z9, jx, Y2, by decide, by decide, by kernel_rfl⟩
set_option maxRecDepth 20000
variable {E : World}
theorem variable_spec (v : PVar) (hv : v.name.size ≤ 1000) (ht : 0 ≤ v.ty ∧ v.ty ≤ 2) : AFun prog E 61 [.agg (encVar v)] (.str (pairW v)) := by
 have hts := ty_size ht
 refine zl func61 Z (by decide) Z<|zSr<|y2 (cs := _) Z Z Z<|z8 (zy (v := .str _) Z)<|z6<|zb<|zz (fun j => false) (by kernel_rfl) Z (zw (.rest _))<|zTk 0 Z (zFF Z1 Z jx Z Z)<|zTk 1 Z (ym (c := .str _) Z4 Z)<|zTk 2 Z (yw Z Z (by (try simp only [app_size]); (try simp only [lit_size, List.size_toArray, List.length_cons, List.length_nil]); omega))<|zTk 3 Z (zFF Z1 Z Ya Z Z)<|zTk 4 Z (zLi isAgg56 Z)<|zOn 5 Z<|zd (tyWord_spec _) Z<|z6<|zTk 6 Z (yw Z Z (by (try simp only [app_size]); (try simp only [lit_size, List.size_toArray, List.length_cons, List.length_nil]); omega))<|zTk 7 Z (zy (v := .str _) Z)<|zDn<|zh<|zi (x := .str _) Z ?_
 rfl
theorem phiLk_app {f : PFunc} {p : PPhi} {k : Nat} (h1 : k < p.from_.length) (h2 : k < p.args.length) : phiLk f p (k + 1) = phiLk f p k ++ [bname f p.from_[k], vname f p.args[k]] := by
 have e1 : (p.from_.map (bname f))[k]? = some (bname f p.from_[k]) := by rw [qf, q7 h1]; rfl
 have e2 : (p.args.map (vname f))[k]? = some (vname f p.args[k]) := by rw [qf, q7 h2]; rfl
 unfold phiLk
 rw [inter_succ e1 e2]; simp
theorem grow_push2 {α : Type} {enc : α → List AV} {xs ys : List α} {x y : α} (h : ys = xs ++ [x, y]) : (xs.map enc).flatten ++ [enc x, enc y].flatten = (ys.map enc).flatten := by subst h; simp
theorem inter_len : ∀ l m : List ByteArray, (inter l m).length ≤ l.length + m.length
 | [], _ => by simp [inter]
 | _ :: _, [] => by simp [inter]
 | a :: l, b :: m => by have := inter_len l m; simp [inter]; omega
theorem inter_in : ∀ {l m : List ByteArray} {x : ByteArray}, x ∈ inter l m → x ∈ l ∨ x ∈ m
 | [], _, _, h => by simp [inter] at h
 | _ :: _, [], _, h => by simp [inter] at h
 | a :: l, b :: m, x, h => by
  simp only [inter, List.mem_cons] at h
  rcases h with rfl | rfl | h
  ·simp
  ·simp
  ·rcases inter_in h with h | h <;> simp [h]
theorem phiLk_len {f : PFunc} {p : PPhi} {k : Nat} (h1 : k ≤ p.from_.length) (h2 : k ≤ p.args.length) : (phiLk f p k).length ≤ 3 + 2 * k := by
 have := inter_len ((p.from_.map (bname f)).take k) ((p.args.map (vname f)).take k)
 unfold phiLk
 simp only [List.length_cons]
 rw [qi, qi] at this
 omega
theorem lineS_size {ws : List ByteArray} {m : Nat} (h : ∀ x ∈ ws, x.size ≤ m) : (lineS ws).size ≤ ws.length * (m + 1) := by
 have := join_len ws m h
 have e : (Lib.join (ws.map (·.data.toList)) [32]).length = (lineS ws).size := (strL_size _).symm
 omega
theorem phiL_sz {f : PFunc} (hT : TOk f) {p : PPhi} (hp : PhiP f p) : ∀ x ∈ phiL f p, x.size ≤ 1000 := by
 obtain ⟨g1, g2, g3, g4, g5⟩ := hp
 have g4 := List.all_eq_true.1 g4
 have g5 := List.all_eq_true.1 g5
 intro x hx
 unfold phiL at hx
 simp only [List.mem_cons] at hx
 rcases hx with rfl | rfl | rfl | hx
 ·exact vname_sz hT g1
 ·decide
 ·decide
 ·rcases inter_in hx with hx | hx
  ·obtain ⟨v, hv, rfl⟩ := List.mem_map.1 hx; exact bname_sz hT (g5 v hv)
  ·obtain ⟨v, hv, rfl⟩ := List.mem_map.1 hx; exact vname_sz hT (g4 v hv)
theorem phiLk_full {f : PFunc} {p : PPhi} (h : p.args.length = p.from_.length) : phiLk f p p.args.length = phiL f p := by
 unfold phiLk phiL
 rw [List.take_of_length_le (by simp; omega), List.take_of_length_le (by simp)]
theorem phiL_len {f : PFunc} {p : PPhi} (h : p.args.length = p.from_.length) (hp : p.args.length ≤ 2100) : (phiL f p).length ≤ 5000 := by
 have := phiLk_len (f := f) (p := p) (k := p.args.length) (by omega) (by omega)
 rw [phiLk_full h] at this; omega
theorem joinedT_spec (f : PFunc) (p : PPhi) (hT : TOk f) (hp : PhiP f p) (hl : p.args.length ≤ 2100) : AFun prog E 62 [.agg (encF f), .agg (encPhi p)] (.str (lineS (phiL f p))) := by
 have hps := phiL_sz hT hp
 obtain ⟨g1, g2, g3, g4, g5⟩ := id hp
 have g4 := List.all_eq_true.1 g4
 have g5 := List.all_eq_true.1 g5
 obtain ⟨d1, d2, d3, d4⟩ := has_get g1
 have hjs : (Lib.join ((phiL f p).map (·.data.toList)) [32]).length = (lineS (phiL f p)).size := (strL_size _).symm
 have hls := lineS_size hps
 have hll := phiL_len (f := f) g2 hl
 have hmul : (phiL f p).length * (1000 + 1) ≤ 5000 * 1001 := Nat.mul_le_mul hll (Nat.le_refl _)
 refine zl func62 Z (by decide) Z<|zSr<|y2 (cs := _) Z Z Z<|y2 (cs := _) Z Z Z<|z8 (zy (v := .str _) Z)<|z6<|zSr<|zVzFF j6 Z Z5 Z Z<|zVzLf Zg Z<|zVzFF jd Z j8 Z Z<|zVzLi ji Z<|z8 (zIM p.dst.toNat js Z3 Z Z (by omega) d2)<|zVzFF Z1 Z jx Z Z<|z8 (ym (c := .str _) Z4 Z)<|AOps.buildSliceO (cps := [(0, [_]), (1, [_]), (2, [_])]) (rs := [_, _, _]) ps84_3 Z Z Z Z Z<|fun i15 => z8 (zAo Z)<|z6<|zb<|zSr<|zVzFF jd Z jc Z Z<|zVzLf jm Z<|zVGvlenM j4 Z<|zVzMi Z<|z6<|ze<|zr (γ := Nat × Nat) [2, 3, 17, 18] (fun g => [(5, .own g.2 (phiLk f p g.1).length), (19, .int .i64 g.1)]) (fun g => [(g.2, .grow 1 9 ((phiLk f p g.1).map encS).flatten)]) (fun g => g.1 ≤ p.args.length) (fun g => p.args.length - g.1) (0, i15) zR2 ⟨_, (.refl _), by rw [show phiLk f p 0 = [f.vars[p.dst.toNat].name, eqS, phiS] by unfold phiLk; rw [d4]; rfl]; rfl⟩ (qa _) ?_
 rintro ⟨k, i⟩ hk
 try dsimp only at *
 refine zSr<|zVGvlss Z Z<|z6<|zb<|zo Z (fun ck=>?_) (fun ck=>?_)
 ·have hk2 : k < p.args.length := by simp at ck; omega
  have hk3 : k < p.from_.length := by omega
  obtain ⟨b1, b2, b3, b4⟩ := hasB_get (g5 _ (qb hk3))
  obtain ⟨v1, v2, v3, v4⟩ := has_get (g4 _ (qb hk2))
  have hkl := phiLk_len (f := f) (p := p) (k := k) (by omega) (by omega)
  refine zf<|zb<|ze<|zSr<|zVzMi Z<|z8 (zIM k j4 j8 Z Z Z (q7 hk2))<|zVzLi ji Z<|zVzAi Z<|zVzAi Z<|z6<|zz (fun j => false) (by kernel_rfl) Z (zw (.rest _))<|zTk 0 Z (zMo Z)<|zTk 1 Z (zFF j6 Z jq Z Z)<|zTk 2 Z (zLf jw Z)<|zTk 3 Z (zFF jd Z jc Z Z)<|zTk 4 Z (zLf jm Z)<|zTk 5 Z (zMi Z)<|zTk 6 Z (zIM k j4 j8 Z Z Z (q7 hk3))<|zTk 7 Z (zLi ji Z)<|zTk 8 Z (ye (j := (p.from_[k]).toNat) je jj Z Z (by omega) b2)<|zTk 9 Z (zFF j5 Z jx Z Z)<|zTk 10 Z (ym (c := .str _) Z4 Z)<|zTk 11 Z (zFF j6 Z Z5 Z Z)<|zTk 12 Z (zLf Zg Z)<|zTk 13 Z (zMi Z)<|zTk 14 Z (ye (j := (p.args[k]).toNat) js Z3 Z Z (by omega) v2)<|zTk 15 Z (zFF Z1 Z jx Z Z)<|zTk 16 Z (ym (c := .str _) Z4 Z)<|zOn 17 Z<|zk (rows := [[_], [_]]) ps84_2 Z Z Z Z Z<|z6<|zOn 18 Z<|zu (k := 1) Z9 type9 Z Z Z Z Z (fun _ => .head) (by rw [grow_len (k := 1) (fun _ => rfl)]) (by decide) Z (by show (_ + 2) * 16 ≤ _; omega) (by show _ + 2 ≤ _; omega)<|fun i42 => z6<|zTk 19 Z (zAo Z)<|zDn<|zRg<|zVzAd Z Z<|zVzMi Z<|z6 ?_
  exact ⟨(k + 1, i42), zR4, ⟨congrArg (AV.own i42) (by dsimp only; rw [phiLk_app hk3 hk2]; simp), rfl, trivial⟩, ⟨_, (.refl _), by dsimp only; rw [← grow_push2 (enc := encS) (phiLk_app hk3 hk2), b4, v4]; rfl⟩, hk2, by dsimp only; omega⟩
 ·have hkn : k = p.args.length := by simp at ck; omega
  subst hkn
  rw [phiLk_full g2]
  refine y3 (GStep.know (t := 5) (rows := (phiL f p).map encS) Z .head (by intro r hr; obtain ⟨x, _, rfl⟩ := List.mem_map.1 hr; rfl) (by decide) (by simp))<|zq<|zSr<|zVzMf Z<|zd (join_spec (phiL f p) _ (by omega) (by show (Lib.join _ [32]).length ≤ _; omega)) Z<|z8 (zy (v := .str _) Z)<|z6<|zh<|zi (x := .str _) Z ?_
  rfl
theorem term_eq {f : PFunc} {t : PTerm} (h : termOK f t = true) : termLine f t = lineS (termL f t) := by
 unfold termLine termL
 rw [if_pos h]
 by_cases k0 : t.kind = 0
 ·rw [if_pos k0, if_pos k0, lineS_two, show (⟨#[106, 117, 109, 112, 32]⟩ : ByteArray) = jumpS ++ spc by decide]
 ·rw [if_neg k0, if_neg k0]
  by_cases k1 : t.kind = 1
  ·rw [if_pos k1, if_pos k1, lineS_four, show (⟨#[105, 102, 32]⟩ : ByteArray) = ifS ++ spc by decide]
  ·rw [if_neg k1, if_neg k1, lineS_two, show (⟨#[114, 101, 116, 32]⟩ : ByteArray) = retS ++ spc by decide]
theorem termL_sz {f : PFunc} (hT : TOk f) {t : PTerm} (h : termOK f t = true) : (lineS (termL f t)).size ≤ 5000 := by
 have hb : ∀ x ∈ termL f t, x.size ≤ 1000 := by
  intro x hx
  unfold termL at hx
  by_cases k0 : t.kind = 0
  ·rw [if_pos k0] at hx
   simp only [List.mem_cons, List.not_mem_nil, or_false] at hx
   rcases hx with rfl | rfl
   ·decide
   ·exact bname_sz hT (termOK_0 h k0)
  ·rw [if_neg k0] at hx
   by_cases k1 : t.kind = 1
   ·rw [if_pos k1] at hx
    obtain ⟨t1, t2, t3⟩ := termOK_1 h k1
    simp only [List.mem_cons, List.not_mem_nil, or_false] at hx
    rcases hx with rfl | rfl | rfl | rfl
    ·decide
    ·exact vname_sz hT t1
    ·exact bname_sz hT t2
    ·exact bname_sz hT t3
   ·rw [if_neg k1] at hx
    simp only [List.mem_cons, List.not_mem_nil, or_false] at hx
    rcases hx with rfl | rfl
    ·decide
    ·exact vname_sz hT (termOK_2 h k0 k1)
 have hl : (termL f t).length ≤ 4 := by unfold termL; split <;> (try split) <;> simp
 have := lineS_size hb
 have h2 : (termL f t).length * (1000 + 1) ≤ 4 * 1001 := Nat.mul_le_mul hl (Nat.le_refl _)
 omega
theorem pairW_sz {v : PVar} (hv : v.name.size ≤ 1000) (ht : 0 ≤ v.ty ∧ v.ty ≤ 2) : (pairW v).size ≤ 1100 := by
 have := ty_size ht
 unfold pairW
 rw [app_size, app_size]
 have : colon.size = 1 := rfl
 omega
theorem headLk_app {f : PFunc} {k : Nat} (h : k < f.vars.length) : headLk f (k + 1) = headLk f k ++ [pairW f.vars[k]] := by
 unfold headLk; rw [q8 h, qh]; rfl
def capT (s : ByteArray) : ByteArray := if 16384 < s.size then ⟨#[]⟩ else s
def capE (s : ByteArray) : Int := if 16384 < s.size then 4 else 0
set_option maxHeartbeats 4000000 in
theorem text_good (f : PFunc) (hS : ShapedP f) (hT : TOk f) (hN : NumsOk f) (hsm : small f) (hP : Pows E) (hL : Letters E) :
  ACall prog E 30 [.agg (encF f)] [] (fun x O => ∃ _ : Unit, x = .tup [.str (capT (textF f)), .int .i64 (capE (textF f))] ∧ Left O [] ∧ True) := by
 have hfo := hsm.ok
 have hn := hsm.names
 obtain ⟨s1, s2, s3, _, _⟩ := id hsm
 obtain ⟨hf, hu, hb, hne⟩ := shaped_ok hS
 have hpl : f.params.length ≤ f.vars.length := by have s1 := hS.1; unfold bad1 at s1; simp at s1; omega
 have hvl := hT.vars
 have hbl := hT.blks
 have hsh : shapedB f = true := by rw [shapedB_eq]; exact qj hS
 have ssp : spc.size = 1 := rfl
 have snl : nl.size = 1 := rfl
 refine zl func30 Z (by decide) Z<|zSr<|y2 (cs := _) Z Z Z<|z8 (zy (v := .str _) Z)<|zVzAi Z<|z6<|zb<|zSr<|zVGvloadWF jn jh Z Z<|zd (Shaped_spec _ (by assumption) (by omega) (by omega) (by omega) (by assumption) hL) Z<|zVGvnot Z<|z6<|yf Z (by simp [hsh])<|zf<|zSr<|zp (cs := [.raw (.pointer none), .raw (.slice none 0 0)]) zeroValue106 Z Z<|fun i4 => z6<|adoptC_wp (off := 1) (k := 1) (T := 5) (fun _ => .head) Z<|fun jb => zSr<|z8 (Gv.func Z Z)<|z8 (zy (v := .fn _ _ _) Z)<|z6<|zSr<|AOps.buildSliceO (cps := [(0, [_])]) (rs := [_]) ps84_1 Z Z Z Z Z<|fun i20 => z8 (zAo Z)<|z6<|zb<|zSr<|zVzFF j6 Z jc Z Z<|zVzLf jm Z<|zVGvlenM j4 Z<|zVzMi Z<|z6<|ze<|zr (γ := Nat × Nat) [1, 4, 5, 23] (fun g => [(6, .own g.2 (1 + g.1)), (24, .int .i64 g.1)]) (fun g => [(g.2, .grow 1 9 ((headLk f g.1).map encS).flatten), (jb, .grow 1 5 []), (i4, .cells 106 [.raw (.pointer none), .own jb 0])]) (fun g => g.1 ≤ f.params.length) (fun g => f.params.length - g.1) (0, i20) zR2 zLe (qa _) ?_
 rintro ⟨k, i⟩ hk
 try dsimp only at *
 refine zSr<|zVGvlss Z Z<|z6<|zb<|zo Z (fun ck=>?_) (fun ck=>?_)
 ·have hk2 : k < f.params.length := by simp at ck; omega
  have hk3 : k < f.vars.length := by omega
  have hv := hf.vars _ (qb hk3)
  have hvs := hT.vn _ (qb hk3)
  have hkl : (headLk f k).length = 1 + k := by unfold headLk; rw [List.length_cons, qe, qi]; omega
  refine zf<|zb<|ze<|zSr<|zVzMi Z<|zVzAi Z<|z6<|zRg<|z8 (zMo Z)<|zVzFF j6 Z Z5 Z Z<|zVzLf Zg Z<|zVzMi Z<|z8 (zIM k js Z3 Z Z Z (q7 hk3))<|zVGvloadWF isAgg58 Z3 Z Z<|zd (variable_spec _ hvs hv.2) Z<|zk (rows := [[_]]) ps84_1 Z Z Z Z Z<|zu (k := 1) Z9 type9 Z Z Z Z Z (fun _ => .head) (by rw [grow_len (k := 1) (fun _ => rfl), hkl]) (by decide) Z (by show (_ + 1) * 16 ≤ _; omega) (by show _ + 1 ≤ _; omega)<|fun i35 => z8 (zAo Z)<|z6<|zRg<|zVzAd Z Z<|zVzMi Z<|z6 ?_
  exact ⟨(k + 1, i35), zR4, zR2, ⟨_, (.refl _), by dsimp only; rw [← grow_push (enc := encS) (headLk_app hk3)]; rfl⟩, hk2, by dsimp only; omega⟩
 ·have hkn : k = f.params.length := by simp at ck; omega
  subst hkn
  have hhead : headLk f f.params.length = headL f := rfl
  rw [hhead]
  have hhl : (headL f).length = 1 + f.params.length := by rw [← hhead]; unfold headLk; rw [List.length_cons, qe, qi]; omega
  have hhs := lineS_size (ws := headL f) (m := 1100) (fun x hx => by
   unfold headL at hx
   rcases List.mem_cons.1 hx with rfl | hx
   ·decide
   ·obtain ⟨v, hv, rfl⟩ := List.mem_map.1 hx
    have hv := List.mem_of_mem_take hv
    exact pairW_sz (hT.vn v hv) (hf.vars v hv).2)
  have hhm : (headL f).length * (1100 + 1) ≤ 1001 * 1101 := Nat.mul_le_mul (by omega) (Nat.le_refl _)
  refine y3 (GStep.know (t := 6) (rows := (headL f).map encS) Z .head (by intro r hr; obtain ⟨x, _, rfl⟩ := List.mem_map.1 hr; rfl) (by decide) (by rw [qe]; exact hhl))<|y3 (y7 (yb .t1))<|zq<|zSr<|z8 (y6 (v := .fn _ _ _) Z)<|zVzMf Z<|AOps.callVA Z Z (zw (.l (.l (.rest _)))) ((line_new ⟨#[]⟩ (headL f) (by omega) (by omega) (by decide)).exact) ?_
  rintro r39 O39 ⟨j0, rfl, rfl, _⟩
  obtain ⟨ds, hds⟩ : ∃ ds, f.vars.drop f.params.length = ds := ⟨_, rfl⟩
  have hdl : ds.length ≤ 1000 := by rw [← hds, List.length_drop]; omega
  obtain ⟨a0, ha0⟩ : ∃ a0, (⟨#[]⟩ : ByteArray) ++ (lineS (headL f) ++ nl) = a0 := ⟨_, rfl⟩
  rw [ha0]
  have ha0s : a0.size ≤ 1102103 ∧ 1 ≤ a0.size := by rw [← ha0, app_size, app_size]; have : (⟨#[]⟩ : ByteArray).size = 0 := rfl; omega
  have ha0u : a0 = unB [headL f] := by rw [← ha0]; show _ = (lineS (headL f) ++ nl) ++ unB []; show _ = (lineS (headL f) ++ nl) ++ ByteArray.empty; rw [ByteArray.append_empty]; exact ByteArray.empty_append
  refine z6<|zb<|zSr<|zVzFF j6 Z Z5 Z Z<|zVzLf Zg Z<|zVzFF j6 Z jc Z Z<|zVzLf jm Z<|zVGvlenM j4 Z<|z8 (Gv.cutLoM (j := f.params.length) js Z3 Z Z Z hpl)<|zVGvlenM js Z<|zVzMi Z ?_
  rw [hds]
  refine z6<|ze<|zr (γ := Nat × Nat × ByteArray) [1, 4, 5, 45, 46] (fun g => [(47, .int .i64 g.1)]) (fun g => [(i4, .cells 106 [.po i4 0, .own g.2.1 g.2.2.size]), (g.2.1, .grow 1 5 (strAV g.2.2))]) (fun g => g.1 ≤ ds.length ∧ g.2.2 = unB (headL f :: (ds.take g.1).map varL) ∧ g.2.2.size ≤ 1102103 + g.1 * 3000 ∧ 1 ≤ g.2.2.size) (fun g => ds.length - g.1) (0, j0, a0) zR1 zLe (⟨qa _, ha0u, by dsimp only; omega, by dsimp only; omega⟩) ?_
  rintro ⟨k, j, acc⟩ ⟨hk, hacc, hsz, hnz0⟩
  try dsimp only at *
  refine zSr<|zVGvlss Z Z<|z6<|zb<|zo Z (fun ck=>?_) (fun ck=>?_)
  ·have hk2 : k < ds.length := by simp at ck; omega
   have hvm : ds[k] ∈ f.vars := List.mem_of_mem_drop (by rw [hds]; exact qb hk2)
   have hv := hf.vars _ hvm
   have hvs := hT.vn _ hvm
   have hvl2 := lineS_size (ws := varL ds[k]) (m := 1100) (fun x hx => by
    unfold varL at hx
    simp only [List.mem_cons, List.not_mem_nil, or_false] at hx
    rcases hx with rfl | rfl
    ·decide
    ·exact pairW_sz hvs hv.2)
   have hvl3 : (varL ds[k]).length = 2 := rfl
   rw [hvl3] at hvl2
   refine zf<|zb<|ze<|zSr<|z8 (zIM k js Z3 Z Z Z (q7 hk2))<|zVGvloadWF isAgg58 Z3 Z Z<|zp (cs := [.str ⟨#[]⟩, .int .i64 0]) Y7 Z Z<|fun i9 => zm Z3 Z Z Z Z Z Z .head Z<|z6<|zRg<|z8 (y6 (v := .fn _ _ _) Z)<|z8 (yd isAgg58 Z3 Z ⟨_, .head⟩ Z)<|zd (variable_spec _ hvs hv.2) Z<|zk (rows := [[_], [_]]) ps84_2 Z Z Z Z Z<|AOps.callVA Z Z (zw (.r (.l (.l (.rest _))))) ((line_used acc (varL ds[k]) (by omega) (by omega) (by omega)).exact) ?_
   rintro r55 O55 ⟨j2, rfl, rfl, _⟩
   refine z6<|zRg<|zVzAd Z Z<|zVzMi Z<|z6 ?_
   exact ⟨(k + 1, j2, acc ++ (lineS (varL ds[k]) ++ nl)), zR5, zR1, ⟨_, (.keep (.keep (.drop (.refl _)))), rfl⟩, ⟨hk2, by dsimp only; rw [q8 hk2, qh, List.map_cons, List.map_nil, ← List.cons_append, unB_app, ← hacc], by dsimp only; rw [app_size, app_size]; omega, by dsimp only; rw [app_size]; omega⟩, by dsimp only; omega⟩
  ·have hkn : k = ds.length := by simp at ck; omega
   subst hkn
   rw [qc] at hacc
   obtain ⟨P0, hP0⟩ : ∃ P0, headL f :: ds.map varL = P0 := ⟨_, rfl⟩
   have hlines : linesF f = P0 ++ f.blocks.flatMap (blkL f) := by rw [← hP0, ← hds]; rfl
   rw [hP0] at hacc
   refine zq<|zb<|zSr<|zVzFF j6 Z jq Z Z<|zVzLf jw Z<|zVGvlenM je Z<|zVzMi Z<|z6<|ze<|zr (γ := Nat × Nat × ByteArray) [1, 4, 5, 58, 59] (fun g => [(60, .int .i64 g.1)]) (fun g => [(i4, .cells 106 [.po i4 0, .own g.2.1 g.2.2.size]), (g.2.1, .grow 1 5 (strAV g.2.2))]) (fun g => g.1 ≤ f.blocks.length ∧ g.2.2 = unB (P0 ++ (f.blocks.take g.1).flatMap (blkL f)) ∧ g.2.2.size ≤ 5000000 + g.1 * 20000000000 ∧ 1 ≤ g.2.2.size) (fun g => f.blocks.length - g.1) (0, j, acc) zR1 zLe (⟨qa _, by dsimp only; rw [hacc]; simp, by dsimp only; omega, by dsimp only; omega⟩) ?_
   rintro ⟨k, j, acc3⟩ ⟨hk3, hacc3, hsz3, hnz⟩
   try dsimp only at *
   refine zSr<|zVGvlss Z Z<|z6<|zb<|zo Z (fun cb=>?_) (fun cb=>?_)
   ·have hk4 : k < f.blocks.length := by simp at cb; omega
    obtain ⟨b, hbk⟩ : ∃ b, f.blocks[k] = b := ⟨_, rfl⟩
    have hget : f.blocks[k]? = some b := by rw [q7 hk4, hbk]
    have hbm : b ∈ f.blocks := hbk ▸ qb hk4
    obtain ⟨hbn, hb1, hb2, hb3⟩ := hf.blks b hbm
    have hbs := hT.bn b hbm
    have hTb := hT.each b hbm
    have hnb := hN b hbm
    have hp1 := hTb.phis
    have hp2 := hTb.insts
    have hbl2 := lineS_size (ws := [blockS, b.name]) (m := 1000) (fun x hx => by
     simp only [List.mem_cons, List.not_mem_nil, or_false] at hx
     rcases hx with rfl | rfl
     ·decide
     ·exact hbs)
    have hbl3 : ([blockS, b.name] : List ByteArray).length = 2 := rfl
    rw [hbl3] at hbl2
    obtain ⟨Q, hQ⟩ : ∃ Q, P0 ++ (f.blocks.take k).flatMap (blkL f) ++ [[blockS, b.name]] = Q := ⟨_, rfl⟩
    refine zf<|zb<|ze<|zSr<|z8 (zIM k je jj Z Z Z hget)<|zVGvloadWF Z7 jj Z Z<|zp (cs := [.str ⟨#[]⟩, .raw (.slice none 0 0), .raw (.slice none 0 0), .int .i64 0, .int .i64 0, .int .i64 0, .int .i64 0]) jv Z Z<|fun i11 => zm jj Z Z Z Z Z Z .head Z<|z6<|zSr<|z8 (y6 (v := .fn _ _ _) Z)<|z8 (zc j5 Z jx (by decide) Z Z)<|z8 (zj (c := .str _) Z4 Z ⟨_, .head⟩ Z)<|zk (rows := [[_], [_]]) ps84_2 Z Z Z Z Z<|AOps.callVA Z Z (zw (.r (.l (.l (.rest _))))) ((line_used acc3 [blockS, b.name] (by omega) (by omega) (by omega)).exact) ?_
    rintro r68 O68 ⟨j2, rfl, rfl, _⟩
    obtain ⟨a4, ha4⟩ : ∃ a4, acc3 ++ (lineS [blockS, b.name] ++ nl) = a4 := ⟨_, rfl⟩
    have ha4s : a4.size ≤ 5003000 + k * 20000000000 ∧ 1 ≤ a4.size := by rw [← ha4, app_size, app_size]; omega
    have ha4u : a4 = unB Q := by rw [← ha4, ← hQ, unB_app, ← hacc3]
    rw [ha4]
    refine z6<|zb<|zSr<|z8 (zc j5 Z jz (by decide) Z Z)<|z8 (zj (c := .fro _ _) Zd Z ⟨_, .t2⟩ Z)<|zVGvlenM jl Z<|zVzMi Z<|z6<|ze<|zr (γ := Nat × Nat × ByteArray) [1, 4, 5, 11, 58, 59, 60, 70, 71] (fun g => [(72, .int .i64 g.1)]) (fun g => [(i4, .cells 106 [.po i4 0, .own g.2.1 g.2.2.size]), (g.2.1, .grow 1 5 (strAV g.2.2)), (i11, .cells 69 (encBlk b))]) (fun g => g.1 ≤ b.phis.length ∧ g.2.2 = unB (Q ++ (b.phis.take g.1).map (phiL f)) ∧ g.2.2.size ≤ 5003000 + k * 20000000000 + g.1 * 5006000 ∧ 1 ≤ g.2.2.size) (fun g => b.phis.length - g.1) (0, j2, a4) zR1 zLe (⟨qa _, by dsimp only; rw [ha4u]; simp, by dsimp only; omega, by dsimp only; omega⟩) ?_
    rintro ⟨m, j, acc4⟩ ⟨hm, hacc4, hsz4, hnz4⟩
    try dsimp only at *
    refine zSr<|zVGvlss Z Z<|z6<|zb<|zo Z (fun cm=>?_) (fun cm=>?_)
    ·have hm2 : m < b.phis.length := by simp at cm; omega
     obtain ⟨p, hpm⟩ : ∃ p, b.phis[m] = p := ⟨_, rfl⟩
     have hgp : b.phis[m]? = some p := by rw [q7 hm2, hpm]
     have hpmem : p ∈ b.phis := hpm ▸ qb hm2
     have hP2 := hb1 p hpmem
     have hpa := hTb.args p hpmem
     have hps := lineS_size (phiL_sz hT hP2)
     have hpl2 := phiL_len (f := f) hP2.2.1 hpa.1
     have hpm2 : (phiL f p).length * (1000 + 1) ≤ 5000 * 1001 := Nat.mul_le_mul hpl2 (Nat.le_refl _)
     refine zf<|zb<|ze<|zSr<|z8 (zIM m jl jo Z Z Z hgp)<|zVGvloadWF Zc jo Z Z<|zp (cs := [.int .i64 0, .raw (.slice none 0 0), .raw (.slice none 0 0)]) Z2 Z Z<|fun i13 => zm jo Z Z Z Z Z Z .head Z<|z6<|zRg<|z8 (y6 (v := .fn _ _ _) Z)<|zVGvloadWF jn jh Z Z<|z8 (yd Zc jo Z ⟨_, .head⟩ Z)<|zd (joinedT_spec f p hT hP2 hpa.1) Z<|zk (rows := [[_]]) ps84_1 Z Z Z Z Z<|AOps.callVA Z Z (zw (.r (.l (.l (.r (.rest _)))))) ((line_used acc4 [lineS (phiL f p)] (by simp) (by rw [lineS_one]; omega) (by omega)).exact) ?_
     rintro r81 O81 ⟨j3, rfl, rfl, _⟩
     refine z6<|zRg<|zVzAd Z Z<|zVzMi Z<|z6 ?_
     exact ⟨(m + 1, j3, acc4 ++ (lineS [lineS (phiL f p)] ++ nl)), zR9, zR1, ⟨_, (.keep (.keep (.drop (.refl _)))), rfl⟩, ⟨hm2, by dsimp only; rw [q8 hm2, hpm, qh, List.map_cons, List.map_nil, ← q9, unB_app, ← hacc4, lineS_one], by dsimp only; rw [app_size, app_size, lineS_one]; omega, by dsimp only; rw [app_size]; omega⟩, by dsimp only; omega⟩
    ·have hmn : m = b.phis.length := by simp at cm; omega
     subst hmn
     rw [qc] at hacc4
     obtain ⟨Q2, hQ2⟩ : ∃ Q2, Q ++ b.phis.map (phiL f) = Q2 := ⟨_, rfl⟩
     rw [hQ2] at hacc4
     refine zq<|zb<|zSr<|z8 (zc j5 Z Z0 (by decide) Z Z)<|z8 (zj (c := .fro _ _) Zf Z ⟨_, .t2⟩ Z)<|zVGvlenM jp Z<|zVzMi Z<|z6<|ze<|zr (γ := Nat × Nat × ByteArray) [1, 4, 5, 11, 58, 59, 60, 84, 85] (fun g => [(86, .int .i64 g.1)]) (fun g => [(i4, .cells 106 [.po i4 0, .own g.2.1 g.2.2.size]), (g.2.1, .grow 1 5 (strAV g.2.2)), (i11, .cells 69 (encBlk b))]) (fun g => g.1 ≤ b.insts.length ∧ g.2.2 = unB (Q2 ++ (b.insts.take g.1).map (wordsOf f)) ∧ g.2.2.size ≤ 15003000000 + k * 20000000000 + g.1 * 21000 ∧ 1 ≤ g.2.2.size) (fun g => b.insts.length - g.1) (0, j, acc4) zR1 zLe (⟨qa _, by dsimp only; rw [hacc4]; simp, by dsimp only; omega, by dsimp only; omega⟩) ?_
     rintro ⟨m, j, acc5⟩ ⟨hm, hacc5, hsz5, hnz5⟩
     try dsimp only at *
     refine zSr<|zVGvlss Z Z<|z6<|zb<|zo Z (fun ci=>?_) (fun ci=>?_)
     ·have hm2 : m < b.insts.length := by simp at ci; omega
      obtain ⟨x, hxm⟩ : ∃ x, b.insts[m] = x := ⟨_, rfl⟩
      have hgx : b.insts[m]? = some x := by rw [q7 hm2, hxm]
      have hxmem : x ∈ b.insts := hxm ▸ qb hm2
      have hxP := hb2 x hxmem
      obtain ⟨hxl, hxs⟩ := refLine_sz hT hxP (hnb x hxmem)
      have hxe : instLine f x = lineS (wordsOf f x) := by rw [line_eq hxP, inst_line_eq hxP]
      have hxz : (instLine f x).size ≤ 20000 := by rw [line_eq hxP]; exact hxs
      refine zf<|zb<|ze<|zSr<|z8 (zIM m jp jt Z Z Z hgx)<|zVGvloadWF Zh jt Z Z<|zp (cs := [.int .i64 0, .int .i64 0, .raw (.slice none 0 0), .int .i64 0]) Z8 Z Z<|fun i15 => zm jt Z Z Z Z Z Z .head Z<|z6<|zRg<|z8 (y6 (v := .fn _ _ _) Z)<|zVGvloadWF jn jh Z Z<|z8 (yd Zh jt Z ⟨_, .head⟩ Z)<|zd (Inst_spec f x (by omega) hT.vn (fun _ => hnb x hxmem) hP) Z<|zk (rows := [[_]]) ps84_1 Z Z Z Z Z<|AOps.callVA Z Z (zw (.r (.l (.l (.r (.rest _)))))) ((line_used acc5 [instLine f x] (by simp) (by rw [lineS_one]; omega) (by omega)).exact) ?_
      rintro r95 O95 ⟨j3, rfl, rfl, _⟩
      refine z6<|zRg<|zVzAd Z Z<|zVzMi Z<|z6 ?_
      exact ⟨(m + 1, j3, acc5 ++ (lineS [instLine f x] ++ nl)), zR9, zR1, ⟨_, (.keep (.keep (.drop (.refl _)))), rfl⟩, ⟨hm2, by dsimp only; rw [q8 hm2, hxm, qh, List.map_cons, List.map_nil, ← q9, unB_app, ← hacc5, lineS_one, hxe], by dsimp only; rw [app_size, app_size, lineS_one]; omega, by dsimp only; rw [app_size]; omega⟩, by dsimp only; omega⟩
     ·have hmn : m = b.insts.length := by simp at ci; omega
      subst hmn
      rw [qc] at hacc5
      have htz := termL_sz hT hb3
      have hte := term_eq hb3
      have hnext : P0 ++ (f.blocks.take (k + 1)).flatMap (blkL f) = (Q2 ++ b.insts.map (wordsOf f)) ++ [termL f b.term] := by
       rw [q8 hk4, hbk, List.flatMap_append, ← hQ2, ← hQ]; simp [blkL]
      refine zq<|zRg<|z8 (y6 (v := .fn _ _ _) Z)<|zVGvloadWF jn jh Z Z<|z8 (zc j5 Z jr (by decide) Z Z)<|z8 (q6 (l := [_, _, _, _]) Zt jr Z ⟨_, .t2⟩ Z Z)<|zd (Term_spec f b.term hsm) Z<|zk (rows := [[_]]) ps84_1 Z Z Z Z Z<|AOps.callVA Z Z (zw (.l (.l (.r (.rest _))))) ((line_used acc5 [termLine f b.term] (by simp) (by rw [lineS_one, hte]; omega) (by omega)).exact) ?_
      rintro r103 O103 ⟨j3, rfl, rfl, _⟩
      refine z6<|zRg<|zVzAd Z Z<|zVzMi Z<|z6 ?_
      exact ⟨(k + 1, j3, acc5 ++ (lineS [termLine f b.term] ++ nl)), zR5, zR1, ⟨_, (.keep (.keep (.drop (.refl _)))), rfl⟩, ⟨hk4, by dsimp only; rw [hnext, unB_app, ← hacc5, lineS_one, hte], by dsimp only; rw [app_size, app_size, lineS_one, hte]; omega, by dsimp only; rw [app_size]; omega⟩, by dsimp only; omega⟩
   ·have hkn : k = f.blocks.length := by simp at cb; omega
    subst hkn
    rw [qc] at hacc3
    have he : acc3 = textF f := by rw [hacc3, ← hlines]; rfl
    have hsz5 : acc3.size ≤ 5000000 + 100 * 20000000000 := Nat.le_trans hsz3 (Nat.add_le_add_left (Nat.mul_le_mul_right _ hbl) _)
    refine zq<|zb<|zSr<|yk Z (zw (.l (.l (.rest _)))) (bldLen_spec acc3) ?_
    rintro r105 O105 ⟨rfl, rfl⟩
    refine z8 (yu Z Z)<|z6<|zo Z (fun ct=>?_) (fun ct=>?_)
    ·refine zSr<|z8 (zy (v := .str _) Z)<|zVzAi Z<|z6<|zh<|afin.t2 (x := .str _) (y := .int _ _) Z Z ?_
     exact ⟨(), by unfold capT capE; rw [← he, if_pos (by omega), if_pos (by omega)], Left.none0 _, trivial⟩
    ·refine zf<|zSr<|yk Z (zw (.l (.l (.rest _)))) (bldString_spec acc3 (by omega) (by omega)) ?_
     rintro r107 O107 ⟨rfl, rfl⟩
     refine z8 (zy (v := .str _) Z)<|zVzAi Z<|z6<|zh<|afin.t2 (x := .str _) (y := .int _ _) Z Z ?_
     exact ⟨(), by unfold capT capE; rw [← he, if_neg (by omega), if_neg (by omega)], Left.none0 _, trivial⟩
end Go.Proofs.YtpojdepccecpgaaGreatDoor
namespace Go.Proofs.YtpojdepccecpgaaGreatDoor
open Go.Proofs.Tryz
open Go.Proofs
def Imp (x y : AV) : Prop := ∀ I v, RepV I x v → RepV I y v
def ImpL (xs ys : List AV) : Prop := ∀ I vs, RepL I xs vs → RepL I ys vs
theorem Imp.refl (x : AV) : Imp x x := fun _ _ h => h
theorem Imp.nil (k : Nat) : Imp (.raw (.slice none 0 0)) (.fro k []) := fun _ _ h => ⟨none, 0, 0, h, rfl, Nat.le_refl _, fun _ => rfl, trivial⟩
theorem ImpL.nil : ImpL [] [] := fun _ _ h => h
theorem ImpL.cons {x y : AV} {xs ys : List AV} (h : Imp x y) (hs : ImpL xs ys) : ImpL (x :: xs) (y :: ys) := fun I _ ⟨v, us, e, h1, h2⟩ => ⟨v, us, e, h I v h1, hs I us h2⟩
theorem Imp.agg {xs ys : List AV} (h : ImpL xs ys) : Imp (.agg xs) (.agg ys) := fun I _ ⟨vs, e, h1⟩ => ⟨vs, e, h I vs h1⟩
end Go.Proofs.YtpojdepccecpgaaGreatDoor
namespace Go.Proofs.YtpojdepccecpgaaGreatDoor
open Go.Proofs.Tryz
open Go.Proofs Go.Lib Go.Shelf Go.RowKit
theorem ps22_3 : PlacesS prog 22 58 3 2 [.str ⟨#[]⟩, .int .i64 0, .str ⟨#[]⟩, .int .i64 0, .str ⟨#[]⟩, .int .i64 0] := ⟨_, js, Z3, Y7, by decide, by decide, by kernel_rfl⟩
variable {E : World}
set_option maxRecDepth 20000
theorem ptext_spec (f : PFunc) (hS : ShapedP f) (hT : TOk f) (hN : NumsOk f) (hsm : small f) (hP : Pows E) (hL : Letters E) : AFun prog E 30 [.agg (encF f)] (.tup [.str (capT (textF f)), .int .i64 (capE (textF f))]) :=
 (text_good f hS hT hN hsm hP hL).mono fun _ _ ⟨_, e, _, _⟩ => e
theorem can_tok {f : PFunc} (hf : small f) (hT : typedB f = true) (hJ : JoinP f) : TOk (canD f) := by
 have hc := can_small hT hJ hf
 have hS := (typedS (can_typed hT hJ).1).1
 unfold bad1 at hS
 simp only [Bool.or_eq_false_iff, decide_eq_false_iff_not] at hS
 exact ⟨hc.1, by omega, hc.2.2.2.1, fun b hb => (hc.2.2.2.2 b hb).1, fun b hb => by
  obtain ⟨g1, g2, g3, g4, g5⟩ := hc.2.2.2.2 b hb
  exact ⟨by omega, by omega, fun p hp => by have := g4 p hp; omega⟩⟩
theorem can_nums {f : PFunc} (hT : typedB f = true) (hN : NumsOk f) : NumsOk (canD f) := fun b hb x hx => by
 obtain ⟨c, hc, rfl⟩ := List.mem_map.1 hb
 obtain ⟨q, hq, rfl⟩ := List.mem_map.1 hc
 obtain ⟨y, hy, rfl⟩ := List.mem_map.1 hx
 have hm : q.1 ∈ ord f := by
  obtain ⟨k, hk⟩ := List.getElem?_of_mem hq
  rw [List.getElem?_zipIdx] at hk
  cases hg : (ord f)[k]? with
  | none => rw [hg] at hk; cases hk
  | some z => rw [hg] at hk; cases hk; exact qg hg
 have hr := order_rng (typedE hT).grph.toEOk hm
 exact hN _ (blkX_mem hr.1 hr.2) y hy
theorem ctext_good (f : PFunc) (hf : small f) (hN : NumsOk f) (hL : Letters E) (hPw : Pows E) (ht : typedB f = true) (hJ : JoinP f) : AFun prog E 10 [.agg (encF f)] (.tup [.str (capT (textF (canD f))), .int .i64 (capE (textF (canD f)))]) := by
 have hc := can_typed ht hJ
 refine zl func10 Z (by decide) Z<|zSr<|y2 (cs := _) Z Z Z<|z8 (zy (v := .str _) Z)<|zVzAi Z<|z6<|zSr<|zVGvloadWF jn jh Z Z<|zd (canon_good f hf hL hPw ht hJ) Z<|z8 (zMu Z)<|z8 (yt (v := .agg _) Z Z)<|z8 (zXi Z Z)<|zp (cs := [.raw (.slice none 0 0), .raw (.slice none 0 0), .raw (.slice none 0 0)]) Za Z Z<|fun i4 => zm jh Z Z Z Z Z Z .head Z<|yi (ya (t := 4) Z .head)<|zVzAi Z<|z6<|zb<|zSr<|zVzMi Z<|zVGvneqI Z Z<|z6<|yf Z Z<|zf<|zSr<|zVGvloadWF jn jh Z Z<|zd (ptext_spec (canD f) (typedS hc.1) (can_tok hf ht hJ) (can_nums ht hN) (can_small ht hJ hf) hPw hL) Z<|z8 (yt (v := .str _) Z Z)<|z8 (zXi Z Z)<|z8 (zy (v := .str _) Z)<|zVzAi Z<|z6<|zh<|afin.t2 (x := .str _) (y := .int _ _) Z Z ?_
 rfl
def exC : PFunc := ⟨[⟨⟨#[110]⟩, 0⟩, ⟨⟨#[107]⟩, 0⟩, ⟨⟨#[109]⟩, 0⟩], [0], [⟨⟨#[97]⟩, [], [⟨2, 2, [0, 0], 0⟩], ⟨2, 2, 0, 0⟩⟩]⟩
theorem exC_typed : typedB exC = true := by decide +kernel
theorem exC_join : JoinP exC := (joinedB_iff _).1 (by decide +kernel)
theorem exC_small : small exC := by unfold small exC; simp [smallBlk]; decide
theorem exC_text : textF (canD exC) = ⟨#[102, 117, 110, 99, 32, 118, 48, 58, 105, 110, 116, 10, 118, 97, 114, 32, 118, 49, 58, 105, 110, 116, 10, 98, 108, 111, 99, 107, 32, 98, 48, 10, 118, 49, 32, 61, 32, 97, 100, 100, 32, 118, 48, 32, 118, 48, 10, 114, 101, 116, 32, 118, 49, 10]⟩ := by decide +kernel
theorem lives18_spec (hL : Letters E) (hPw : Pows E) : AFun prog E 7 [] (.bool true) := by
 have ht := ctext_good (E := E) exC exC_small (fun b hb x hx => by
  cases hb with
  | head => cases hx with
   | head => exact ⟨by decide, by decide⟩
   | tail _ h => cases h
  | tail _ h => cases h) hL hPw exC_typed exC_join
 rw [exC_text] at ht
 have ht : AFun prog E 10 [.agg (encF exC)] (.tup [.str ⟨#[102, 117, 110, 99, 32, 118, 48, 58, 105, 110, 116, 10, 118, 97, 114, 32, 118, 49, 58, 105, 110, 116, 10, 98, 108, 111, 99, 107, 32, 98, 48, 10, 118, 49, 32, 61, 32, 97, 100, 100, 32, 118, 48, 32, 118, 48, 10, 114, 101, 116, 32, 118, 49, 10]⟩, .int .i64 0]) := ht
 refine zl func7 Z (by decide) Z<|zSr<|zVzAb Z<|z6<|zSr<|z8 (y5 (cps := [(0, [_])]) (rs := [_, .int .i64 0]) pl58 Z Z Z)<|z8 (y5 (cps := [(0, [_])]) (rs := [_, .int .i64 0]) pl58 Z Z Z)<|z8 (y5 (cps := [(0, [_])]) (rs := [_, .int .i64 0]) pl58 Z Z Z)<|zk (rows := [[_, _], [_, _], [_, _]]) ps22_3 Z Z Z Z Z<|zk (rows := [[_]]) ps23_1 Z Z Z Z Z<|zk (rows := [[_], [_]]) ps23_2 Z Z Z Z Z<|z8 (y5 (cps := [(0, [_]), (1, [_]), (2, [_])]) (rs := [_, _, _, .int .i64 0]) pl61 Z Z Z)<|zk (rows := [[_, _, _, _]]) ps62_1 Z Z Z Z Z<|z8 (y5 (cps := [(0, [_]), (1, [_])]) (rs := [_, _, .int .i64 0, .int .i64 0]) pl66 Z Z Z)<|z8 (y5 (cps := [(0, [_]), (2, [_]), (3, [_, _, _, _])]) (rs := [_, .raw (.slice none 0 0), _, _, _, _, _]) pl69 Z Z Z)<|yi (GStep.slot (t := 13) Z (Imp.agg (.cons (.refl _) (.cons (.nil 3) (.cons (.refl _) (.cons (.refl _) (.cons (.refl _) (.cons (.refl _) (.cons (.refl _) .nil)))))))))<|zk (rows := [[_, _, _, _, _, _, _]]) ps24_1 Z Z Z Z Z<|z8 (y5 (cps := [(0, [_]), (1, [_]), (2, [_])]) (rs := [_, _, _]) pl26 Z Z Z)<|zp (cs := [.raw (.slice none 0 0), .raw (.slice none 0 0), .raw (.slice none 0 0)]) Za Z Z<|fun i1 => zm jh Z Z Z Z Z Z .head Z<|yi (ya (t := 1) Z .head)<|z6<|zSr<|zVGvloadWF jn jh Z Z<|zd (ht) Z<|z8 (zMu Z)<|z8 (yt (v := .str _) Z Z)<|z8 (zXi Z Z)<|z8 (zy (v := .str _) Z)<|zVzAi Z<|z6<|zSr<|zVzMi Z<|zVGveqlI Z Z<|zVzMb Z<|za Z Z Z<|z8 (y6 (v := .str _) Z)<|za Z Z Z<|z8 (Gv.eqlT Z Z)<|zVzPt Z Z Z ?_
 refine zVzAb Z<|z6<|zh<|zi (x := .bool _) Z ?_
 rfl
theorem canonUnlike_law (f g : PFunc) (hw : wFunc f) (hwg : wFunc g) (hL : Letters E) (hPw : Pows E) : AFun prog E 6 [.agg (encF f), .agg (encF g)] (.bool true) := by
 refine zl func6 Z (by decide) Z<|zSr<|y2 (cs := _) Z Z Z<|y2 (cs := _) Z Z Z<|zVzAb Z<|z6<|zb<|zSr<|zd (lives18_spec hL hPw) Z<|zVGvnot Z<|zVzMb Z ?_
 by_cases c1 : lawJoin f = true
 ·obtain ⟨sf, tf, jf⟩ := lawJoin_small c1
  refine za Z Z Z<|zVGvloadWF jn jh Z Z<|za Z Z Z<|zd (lawJoined_spec f hw hL) Z<|za Z Z Z<|zVGvnot Z<|zVzPf Z Z Z<|zVzMb Z ?_
  by_cases c2 : lawJoin g = true
  ·obtain ⟨sg, tg, jg⟩ := lawJoin_small c2
   refine za Z Z (by rw [c1]; rfl)<|zVGvloadWF jn jh Z Z<|za Z Z (by rw [c1]; rfl)<|zd (lawJoined_spec g hwg hL) Z<|za Z Z (by rw [c1]; rfl)<|zVGvnot Z<|z8 (zPf Z (by rw [c1]; rfl) Z)<|z6<|yf Z (by rw [c2]; rfl)<|zf<|zb<|zz (fun j => false) (by kernel_rfl) Z (zw (.rest _))<|zTk 0 Z (yj jn jh Z Z)<|zTk 1 Z (yj jn jh Z Z)<|zTk 3 Z (yj jn jh Z Z)<|zTk 5 Z (yj jn jh Z Z)<|zOn 2 Z<|zd (equal_good f g sf sg hL hPw tf jf tg jg) Z<|z6<|zOn 4 Z<|zd (canon18_spec f sf tf jf) Z<|z6<|zOn 6 Z<|zd (canon18_spec g sg tg jg) Z<|z6<|zOn 7 Z<|zd (refSame_spec (canD f) (canD g) (can_small tf jf sf).ok) Z<|z6<|zTk 8 Z (Gv.eqlB Zw Z Z)<|zTk 9 Z (zAb Z)<|zDn<|zh<|zi (x := .bool _) Z ?_
   exact jb (by simp)
  ·refine za Z Z (by rw [c1]; rfl)<|zVGvloadWF jn jh Z Z<|za Z Z (by rw [c1]; rfl)<|zd (lawJoined_spec g hwg hL) Z<|za Z Z (by rw [c1]; rfl)<|zVGvnot Z<|z8 (zPf Z (by rw [c1]; rfl) Z)<|z6<|yn Z (by rw [Bool.eq_false_iff.2 c2]; rfl)<|zSr<|zd (lives18_spec hL hPw) Z<|zVzAb Z<|z6<|zh<|zi (x := .bool _) Z ?_
   rfl
 ·refine za Z Z Z<|zVGvloadWF jn jh Z Z<|za Z Z Z<|zd (lawJoined_spec f hw hL) Z<|za Z Z Z<|zVGvnot Z<|zVzPf Z Z Z<|zVzMb Z<|z7 Z Z (by simp [Bool.eq_false_iff.2 c1])<|z7 Z Z (by simp [Bool.eq_false_iff.2 c1])<|z7 Z Z (by simp [Bool.eq_false_iff.2 c1])<|z8 (zPt Z (by simp [Bool.eq_false_iff.2 c1]) Z)<|z6<|yn Z Z<|zSr<|zd (lives18_spec hL hPw) Z<|zVzAb Z<|z6<|zh<|zi (x := .bool _) Z ?_
  rfl
end Go.Proofs.YtpojdepccecpgaaGreatDoor
namespace Go.Proofs.YtpojdepccecpgaaGreatDoor
open Go.Proofs.Tryz
open Go.Proofs Go.Lib Go.Shelf Go.RowKit Go.WideShapes
set_option maxRecDepth 20000
variable {W : World}
theorem decI : Dec prog W 3 encI (fun x => (Lit.int .i64 x).wf = true) := Dec.int Z6
theorem decIs : Dec prog W 23 (fun l : List Int => [.fro 1 (l.map encI)]) wL := fun en held fuel cs x h => by
 obtain ⟨l, hl, r⟩ := Dec.slice (k := 1) j4 decI (by kernel_rfl) (by decide) en held fuel cs x h
 exact ⟨l, hl.2, r⟩
theorem decVar : Dec prog W 58 encVar (fun _ => True) := fun en held fuel cs x h => by
 obtain ⟨xs, n, _, _, hl, hxl, hf⟩ := DataW.trod_struct Z1 h
 have hl : cs.length = 2 := hl.trans (by kernel_rfl)
 have hxl : xs.length = 2 := hxl
 obtain ⟨a, _, ra⟩ := Dec.at (o := 0) (k := 1) (hf 0 _ rfl) (Dec.str jy) (by omega) rfl (by kernel_rfl)
 obtain ⟨b, _, rb⟩ := Dec.at (o := 1) (k := 1) (hf 1 _ rfl) (Dec.int underlying56) (by omega) rfl (by kernel_rfl)
 exact ⟨⟨a, b⟩, trivial, yr (o := 0) ra (yr rb (RepL.fin hl))⟩
theorem decPhi : Dec prog W 71 encPhi wPhi := fun en held fuel cs x h => by
 obtain ⟨xs, n, _, _, hl, hxl, hf⟩ := DataW.trod_struct jd h
 have hl : cs.length = 3 := hl.trans (by kernel_rfl)
 have hxl : xs.length = 3 := hxl
 obtain ⟨a, _, ra⟩ := Dec.at (o := 0) (k := 1) (hf 0 _ rfl) decI (by omega) rfl (by kernel_rfl)
 obtain ⟨b, hb, rb⟩ := Dec.at (o := 1) (k := 1) (hf 1 _ rfl) decIs (by omega) rfl (by kernel_rfl)
 obtain ⟨c, hc, rc⟩ := Dec.at (o := 2) (k := 1) (hf 2 _ rfl) decIs (by omega) rfl (by kernel_rfl)
 exact ⟨⟨a, b, c⟩, ⟨hb, hc⟩, yr (o := 0) ra (yr rb (yr rc (RepL.fin hl)))⟩
def wInst (x : PInst) : Prop := wL x.args ∧ (Lit.int .i64 x.num).wf = true
theorem decInst : Dec prog W 61 encInst wInst := fun en held fuel cs x h => by
 obtain ⟨xs, n, _, _, hl, hxl, hf⟩ := DataW.trod_struct j9 h
 have hl : cs.length = 4 := hl.trans (by kernel_rfl)
 have hxl : xs.length = 4 := hxl
 obtain ⟨a, _, ra⟩ := Dec.at (o := 0) (k := 1) (hf 0 _ rfl) (Dec.int underlying59) (by omega) rfl (by kernel_rfl)
 obtain ⟨b, _, rb⟩ := Dec.at (o := 1) (k := 1) (hf 1 _ rfl) decI (by omega) rfl (by kernel_rfl)
 obtain ⟨c, hc, rc⟩ := Dec.at (o := 2) (k := 1) (hf 2 _ rfl) decIs (by omega) rfl (by kernel_rfl)
 obtain ⟨d, hd, rd⟩ := Dec.at (o := 3) (k := 1) (hf 3 _ rfl) (Dec.int underlying2) (by omega) rfl (by kernel_rfl)
 exact ⟨⟨a, b, c, d⟩, ⟨hc, hd⟩, yr (o := 0) ra (yr rb (yr rc (yr rd (RepL.fin hl))))⟩
theorem decTerm : Dec prog W 66 encTerm (fun _ => True) := fun en held fuel cs x h => by
 obtain ⟨xs, n, _, _, hl, hxl, hf⟩ := DataW.trod_struct j7 h
 have hl : cs.length = 4 := hl.trans (by kernel_rfl)
 have hxl : xs.length = 3 := hxl
 obtain ⟨a, _, ra⟩ := Dec.at (o := 0) (k := 1) (hf 0 _ rfl) (Dec.int underlying63) (by omega) rfl (by kernel_rfl)
 obtain ⟨b, _, rb⟩ := Dec.at (o := 1) (k := 1) (hf 1 _ rfl) decI (by omega) rfl (by kernel_rfl)
 obtain ⟨c, _, rc⟩ := Dec.at (o := 2) (k := 2) (hf 2 _ rfl) (Dec.pair (k := 1) jk decI (by kernel_rfl) (by kernel_rfl)) (by omega) rfl (by kernel_rfl)
 exact ⟨⟨a, b, c.1, c.2⟩, trivial, yr (o := 0) ra (yr rb (yr rc (RepL.fin hl)))⟩
def NumsI (f : PFunc) : Prop := ∀ b ∈ f.blocks, ∀ x ∈ b.insts, is64 x.num
def wBlkN (b : PBlock) : Prop := wBlk b ∧ ∀ x ∈ b.insts, -9223372036854775808 ≤ x.num ∧ x.num ≤ 9223372036854775807
theorem decBlkN : Dec prog W 69 encBlk wBlkN := fun en held fuel cs x h => by
 obtain ⟨xs, n, _, _, hl, hxl, hf⟩ := DataW.trod_struct j5 h
 have hl : cs.length = 7 := hl.trans (by kernel_rfl)
 have hxl : xs.length = 4 := hxl
 obtain ⟨a, _, ra⟩ := Dec.at (o := 0) (k := 1) (hf 0 _ rfl) (Dec.str jy) (by omega) rfl (by kernel_rfl)
 obtain ⟨b, hb, rb⟩ := Dec.at (o := 1) (k := 1) (hf 1 _ rfl) (Dec.slice (k := 3) jl decPhi (by kernel_rfl) (by decide)) (by omega) rfl (by kernel_rfl)
 obtain ⟨c, hc, rc⟩ := Dec.at (o := 2) (k := 1) (hf 2 _ rfl) (Dec.slice (k := 4) jp decInst (by kernel_rfl) (by decide)) (by omega) rfl (by kernel_rfl)
 obtain ⟨d, _, rd⟩ := Dec.at (o := 3) (k := 4) (hf 3 _ rfl) decTerm (by omega) rfl (by kernel_rfl)
 exact ⟨⟨a, b, c, d⟩, ⟨⟨hb.2, hc.2, hb.1, fun x hx => (hc.1 x hx).1⟩, fun x hx => by simpa [Lit.wf, IntKind.min, IntKind.max, IntKind.signed, IntKind.bits] using (hc.1 x hx).2⟩, yr (o := 0) ra (yr rb (yr rc (yr rd (RepL.fin hl))))⟩
theorem decFN : Dec prog W 26 encF (fun f => wFunc f ∧ NumsI f) := fun en held fuel cs x h => by
 obtain ⟨xs, n, _, _, hl, hxl, hf⟩ := DataW.trod_struct j6 h
 have hl : cs.length = 3 := hl.trans (by kernel_rfl)
 have hxl : xs.length = 3 := hxl
 obtain ⟨a, ha, ra⟩ := Dec.at (o := 0) (k := 1) (hf 0 _ rfl) (Dec.slice (k := 2) js decVar (by kernel_rfl) (by decide)) (by omega) rfl (by kernel_rfl)
 obtain ⟨b, hb, rb⟩ := Dec.at (o := 1) (k := 1) (hf 1 _ rfl) decIs (by omega) rfl (by kernel_rfl)
 obtain ⟨c, hc, rc⟩ := Dec.at (o := 2) (k := 1) (hf 2 _ rfl) (Dec.slice (k := 7) je decBlkN (by kernel_rfl) (by decide)) (by omega) rfl (by kernel_rfl)
 exact ⟨⟨a, b, c⟩, ⟨⟨ha.2, hb, hc.2, fun x hx => (hc.1 x hx).1⟩, fun x hx => (hc.1 x hx).2⟩, yr (o := 0) ra (yr rb (yr rc (RepL.fin hl)))⟩
theorem of_struct {H : Type} {enc : TypeId × Value → H} {held : Bool} {α : Type} {T : TypeId} {e : α → List AV} {ok : α → Prop} {fs : Array Field} {base : Nat} {v : Value} {d : DataW H} {p : List MemPlace} (hd : Dec prog W T e ok) (ht : prog.underlying T = some (.struct fs))
  (hv : Value.okWide prog W .any base T v) (h : DataW.Trod enc prog W 0 (fun _ => true) held T v d p) : ∃ a, ok a ∧ RepV (I0 W) (.agg (e a)) v := by
 obtain ⟨cs, rfl, _⟩ := okWide_struct ht hv
 obtain ⟨fuel, h⟩ := h
 obtain ⟨a, h1, h2⟩ := hd enc held fuel _ _ h
 exact ⟨a, h1, cs.toList, by simp, h2⟩
theorem xTab : RExtra prog Tryz.lays200_ren := ⟨by kernel_rfl, by kernel_rfl, by kernel_rfl, by kernel_rfl, by kernel_rfl, by kernel_rfl, by kernel_rfl, by kernel_rfl⟩
theorem letters_of (h : Lib.VarReads prog W "unicode.properties" (Lib.tabData .u8 Lib.propertiesTab)) (h2 : Lib.VarReads prog W "unicode.Letter" (Lib.rtabData letterT)) : Letters W :=
 ⟨tabIs_of_reads (g := 1) (by kernel_rfl) (by kernel_rfl) underlying225 Zr (by kernel_rfl) (by kernel_rfl) h,
  rvar_of_reads { Tryz.lays200 with } xTab (name := "unicode.Letter") (g := 2) (by kernel_rfl) (by kernel_rfl) h2⟩
end Go.Proofs.YtpojdepccecpgaaGreatDoor
namespace Go.Proofs.YtpojdepccecpgaaGreatDoor
open Go.Proofs.Tryz
open Go.Proofs
theorem fMay : prog.mayEnter = true := by kernel_rfl
theorem fLift : (Rows.canonUnlikeRow.lifted == prog.liftsFinal) = true := by kernel_rfl
theorem fMake : (prog.make == some Rows.canonUnlikeRow.make) = true := by kernel_rfl
theorem fLaid : laidOutB prog = true := by kernel_rfl
theorem fRow : mapsRowed prog = true := by kernel_rfl
theorem fStop : (prog.stops == []) = true := by kernel_rfl
theorem fKnob : (prog.stopKnobs == []) = true := by kernel_rfl
theorem fKeys : (Rows.canonUnlikeRow.plainKeys == prog.plainKeys) = true := by kernel_rfl
theorem fHeard : prog.stopsHeard = true := by kernel_rfl
theorem gIn : (Rows.canonUnlikeRow.inPlace == prog.inPlace 6) = true := by kernel_rfl
theorem gUn : (Rows.canonUnlikeRow.unfollowed == prog.unfollowed 6) = true := by kernel_rfl
theorem gRec : (Rows.canonUnlikeRow.recurses == prog.recurses 6) = true := by kernel_rfl
theorem gNam : (Rows.canonUnlikeRow.named == prog.varsNamed 6) = true := by kernel_rfl
theorem closed : joinedFacts prog 6 Tryz.f6 Rows.canonUnlikeSpec Rows.canonUnlikeRow = true := by
 unfold joinedFacts
 rw [fLaid, fRow, fStop, fKnob, gIn, gUn, gRec, gNam, fKeys, fHeard, fMay, fLift, fMake]
 kernel_rfl
end Go.Proofs.YtpojdepccecpgaaGreatDoor
namespace Go.Proofs.YtpojdepccecpgaaGreatDoor
open Go.Proofs.Tryz
open Go.Proofs Go.Lib Go.Shelf Go.RowKit
variable {W : World}
theorem pows_of (h : Lib.VarReads prog W "internal/strconv.uint64pow10" (Lib.tabData .u64 Lib.pow10Tab)) : Pows W :=
 tabIs_of_reads (g := 0) (by kernel_rfl) (by kernel_rfl) underlying217 underlying53 (by kernel_rfl) (by kernel_rfl) h
end Go.Proofs.YtpojdepccecpgaaGreatDoor
