/- What the listed variables of Go's library read as; programs whose numbers are int64s. No conditions. -/
import Derived.Test.YtdkhlgiohpdihaaGreatDoorZm
import Derived.Test.YtdkhlgiohpdihaaGreatDoorZj
import Derived.Test.YtdkhlgiohpdihaaGreatDoorZg
import Derived.Lib.LaidRTab
import Derived.Lib.LaidU8
import Derived.Stop.LaidErr
import Derived.Shelf.Vars
import Derived.Handed
set_option linter.unusedVariables false
set_option linter.unusedSimpArgs false
set_option linter.unusedSectionVars false
namespace Go.Proofs.YtdkhlgiohpdihaaGreatDoor
open Go.Proofs Go.Lib Go.Shelf Go.RowKit
set_option maxRecDepth 20000
variable {E : World}
theorem variable_spec (v : PVar) (hv : v.name.size ≤ 1000) (ht : 0 ≤ v.ty ∧ v.ty ≤ 2) : AFun Tryz.prog E 32 [.agg (encVar v)] (.str (pairW v)) := by
  have hts := ty_size ht
  refine ACall.intro Tryz.func32 rfl (by decide) rfl ?_
  refine AWP.seq ?_
  refine AWP.region rfl ?_
  refine AOps.boxF (cs := _) rfl rfl rfl ?_
  refine AOps.val (Gv.assign (v := .str _) rfl) ?_
  refine AOps.nil ?_
  refine AWP.seq ?_
  refine AWP.regionDraw (fun j => false) (by kernel_rfl) rfl (Part.perm (.rest _)) ?_
  refine AAny.take (i := 0) rfl (by kernel_rfl) (by kernel_rfl) (by kernel_rfl) (by kernel_rfl) (by kernel_rfl) (by kernel_rfl) (Gv.fieldF Tryz.underlying38 rfl Tryz.sizeOf9 (by decide) rfl rfl) ?_
  refine AAny.take (i := 1) rfl (by kernel_rfl) (by kernel_rfl) (by kernel_rfl) (by kernel_rfl) (by kernel_rfl) (by kernel_rfl) (Gv.load1F (c := .str _) Tryz.isAgg9 rfl) ?_
  refine AAny.take (i := 2) rfl (by kernel_rfl) (by kernel_rfl) (by kernel_rfl) (by kernel_rfl) (by kernel_rfl) (by kernel_rfl) (Gv.addT rfl rfl (by (try simp only [app_size]); (try simp only [lit_size, List.size_toArray, List.length_cons, List.length_nil]); omega)) ?_
  refine AAny.take (i := 3) rfl (by kernel_rfl) (by kernel_rfl) (by kernel_rfl) (by kernel_rfl) (by kernel_rfl) (by kernel_rfl) (Gv.fieldF Tryz.underlying38 rfl Tryz.sizeOf36 (by decide) rfl rfl) ?_
  refine AAny.take (i := 4) rfl (by kernel_rfl) (by kernel_rfl) (by kernel_rfl) (by kernel_rfl) (by kernel_rfl) (by kernel_rfl) (Gv.load1F (c := .int _ _) Tryz.isAgg36 rfl) ?_
  refine AAny.one (i := 5) rfl (by kernel_rfl) ?_
  refine AOps.callP (tyWord_spec _) rfl ?_
  refine AOps.nil ?_
  refine AAny.take (i := 6) rfl (by kernel_rfl) (by kernel_rfl) (by kernel_rfl) (by kernel_rfl) (by kernel_rfl) (by kernel_rfl) (Gv.addT rfl rfl (by (try simp only [app_size]); (try simp only [lit_size, List.size_toArray, List.length_cons, List.length_nil]); omega)) ?_
  refine AAny.take (i := 7) rfl (by kernel_rfl) (by kernel_rfl) (by kernel_rfl) (by kernel_rfl) (by kernel_rfl) (by kernel_rfl) (Gv.assign (v := .str _) rfl) ?_
  refine AAny.done (by kernel_rfl) ?_
  refine AWP.ret ?_
  repeat (first | refine aseqQ_ret ?_ | refine ablockQ_ret ?_)
  refine afin.t1 (x := .str _) rfl ?_
  rfl
theorem phiLk_app {f : PFunc} {p : PPhi} {k : Nat} (h1 : k < p.from_.length) (h2 : k < p.args.length) : phiLk f p (k + 1) = phiLk f p k ++ [bname f p.from_[k], vname f p.args[k]] := by
  have e1 : (p.from_.map (bname f))[k]? = some (bname f p.from_[k]) := by rw [List.getElem?_map, List.getElem?_eq_getElem h1]; rfl
  have e2 : (p.args.map (vname f))[k]? = some (vname f p.args[k]) := by rw [List.getElem?_map, List.getElem?_eq_getElem h2]; rfl
  unfold phiLk
  rw [inter_succ e1 e2]; simp
theorem grow_push2 {α : Type} {enc : α → List AV} {xs ys : List α} {x y : α} (h : ys = xs ++ [x, y]) : (xs.map enc).flatten ++ [enc x, enc y].flatten = (ys.map enc).flatten := by subst h; simp
theorem inter_len : ∀ l m : List ByteArray, (inter l m).length ≤ l.length + m.length
  | [], _ => by simp [inter]
  | _ :: _, [] => by simp [inter]
  | a :: l, b :: m => by have := inter_len l m; simp [inter]; omega
theorem inter_in : ∀ {l m : List ByteArray} {x : ByteArray}, x ∈ inter l m → x ∈ l ∨ x ∈ m
  | [], _, _, h => by simp [inter] at h
  | _ :: _, [], _, h => by simp [inter] at h
  | a :: l, b :: m, x, h => by
    simp only [inter, List.mem_cons] at h
    rcases h with rfl | rfl | h
    · simp
    · simp
    · rcases inter_in h with h | h <;> simp [h]
theorem phiLk_len {f : PFunc} {p : PPhi} {k : Nat} (h1 : k ≤ p.from_.length) (h2 : k ≤ p.args.length) : (phiLk f p k).length ≤ 3 + 2 * k := by
  have := inter_len ((p.from_.map (bname f)).take k) ((p.args.map (vname f)).take k)
  unfold phiLk
  simp only [List.length_cons]
  rw [List.length_take, List.length_take] at this
  omega
theorem lineS_size {ws : List ByteArray} {m : Nat} (h : ∀ x ∈ ws, x.size ≤ m) : (lineS ws).size ≤ ws.length * (m + 1) := by
  have := join_len ws m h
  have e : (Lib.join (ws.map (·.data.toList)) [32]).length = (lineS ws).size := (strL_size _).symm
  omega
theorem phiL_sz {f : PFunc} (hT : TOk f) {p : PPhi} (hp : PhiP f p) : ∀ x ∈ phiL f p, x.size ≤ 1000 := by
  obtain ⟨g1, g2, g3, g4, g5⟩ := hp
  have g4 := List.all_eq_true.1 g4
  have g5 := List.all_eq_true.1 g5
  intro x hx
  unfold phiL at hx
  simp only [List.mem_cons] at hx
  rcases hx with rfl | rfl | rfl | hx
  · exact vname_sz hT g1
  · decide
  · decide
  · rcases inter_in hx with hx | hx
    · obtain ⟨v, hv, rfl⟩ := List.mem_map.1 hx; exact bname_sz hT (g5 v hv)
    · obtain ⟨v, hv, rfl⟩ := List.mem_map.1 hx; exact vname_sz hT (g4 v hv)
theorem phiLk_full {f : PFunc} {p : PPhi} (h : p.args.length = p.from_.length) : phiLk f p p.args.length = phiL f p := by
  unfold phiLk phiL
  rw [List.take_of_length_le (by simp; omega), List.take_of_length_le (by simp)]
theorem phiL_len {f : PFunc} {p : PPhi} (h : p.args.length = p.from_.length) (hp : p.args.length ≤ 2100) : (phiL f p).length ≤ 5000 := by
  have := phiLk_len (f := f) (p := p) (k := p.args.length) (by omega) (by omega)
  rw [phiLk_full h] at this; omega
theorem joined_spec (f : PFunc) (p : PPhi) (hT : TOk f) (hp : PhiP f p) (hl : p.args.length ≤ 2100) : AFun Tryz.prog E 33 [.agg (encF f), .agg (encPhi p)] (.str (lineS (phiL f p))) := by
  have hps := phiL_sz hT hp
  obtain ⟨g1, g2, g3, g4, g5⟩ := id hp
  have g4 := List.all_eq_true.1 g4
  have g5 := List.all_eq_true.1 g5
  obtain ⟨d1, d2, d3, d4⟩ := has_get g1
  have hjs : (Lib.join ((phiL f p).map (·.data.toList)) [32]).length = (lineS (phiL f p)).size := (strL_size _).symm
  have hls := lineS_size hps
  have hll := phiL_len (f := f) g2 hl
  have hmul : (phiL f p).length * (1000 + 1) ≤ 5000 * 1001 := Nat.mul_le_mul hll (Nat.le_refl _)
  refine ACall.intro Tryz.func33 rfl (by decide) rfl ?_
  refine AWP.seq ?_
  refine AWP.region rfl ?_
  refine AOps.boxF (cs := _) rfl rfl rfl ?_
  refine AOps.boxF (cs := _) rfl rfl rfl ?_
  refine AOps.val (Gv.assign (v := .str _) rfl) ?_
  refine AOps.nil ?_
  refine AWP.seq ?_
  refine AWP.region rfl ?_
  refine AOps.val (Gv.fieldF Tryz.underlying27 rfl Tryz.sizeOf23 (by decide) rfl rfl) ?_
  refine AOps.val (Gv.load1F (c := .fro _ _) Tryz.isAgg23 rfl) ?_
  refine AOps.val (Gv.fieldF Tryz.underlying64 rfl Tryz.sizeOf3 (by decide) rfl rfl) ?_
  refine AOps.val (Gv.load1F (c := .int _ _) Tryz.isAgg3 rfl) ?_
  refine AOps.val (Gv.idxM (j := p.dst.toNat) Tryz.underlying23 Tryz.sizeOf38 rfl rfl (by omega) d2) ?_
  refine AOps.val (Gv.fieldF Tryz.underlying38 rfl Tryz.sizeOf9 (by decide) rfl rfl) ?_
  refine AOps.val (Gv.load1F (c := .str _) Tryz.isAgg9 rfl) ?_
  refine AOps.buildSliceO (cps := [(0, [_]), (1, [_]), (2, [_])]) (rs := [_, _, _]) ps62_3 rfl rfl rfl rfl rfl ?_
  intro i15
  refine AOps.val (Gv.assign (v := .own _ _) rfl) ?_
  refine AOps.nil ?_
  refine AWP.seq ?_
  refine AWP.seq ?_
  refine AWP.region rfl ?_
  refine AOps.val (Gv.fieldF Tryz.underlying64 rfl Tryz.sizeOf24 (by decide) rfl rfl) ?_
  refine AOps.val (Gv.load1F (c := .fro _ _) Tryz.isAgg24 rfl) ?_
  refine AOps.val (Gv.lenM Tryz.underlying24 rfl) ?_
  refine AOps.val (Gv.move (v := .int _ _) rfl) ?_
  refine AOps.nil ?_
  refine AWP.block ?_
  refine AWP.loop (γ := Nat × Nat) [2, 3, 17, 18] (fun g => [(5, .own g.2 (phiLk f p g.1).length), (19, .int .i64 g.1)]) (fun g => [(g.2, .grow 1 9 ((phiLk f p g.1).map encS).flatten)]) (fun g => g.1 ≤ p.args.length) (fun g => p.args.length - g.1) (0, i15) ⟨rfl, rfl, trivial⟩ ⟨_, (.refl _), by rw [show phiLk f p 0 = [f.vars[p.dst.toNat].name, eqS, phiS] by unfold phiLk; rw [d4]; rfl]; rfl⟩ (Nat.zero_le _) ?_
  rintro ⟨k, i⟩ hk
  try dsimp only at *
  refine AWP.seq ?_
  refine AWP.region rfl ?_
  refine AOps.val (Gv.lss rfl rfl) ?_
  refine AOps.nil ?_
  refine AWP.seq ?_
  refine AWP.condP rfl (fun ck => ?_) (fun ck => ?_)
  · skip
    have hk2 : k < p.args.length := by simp at ck; omega
    have hk3 : k < p.from_.length := by omega
    obtain ⟨b1, b2, b3, b4⟩ := hasB_get (g5 _ (List.getElem_mem hk3))
    obtain ⟨v1, v2, v3, v4⟩ := has_get (g4 _ (List.getElem_mem hk2))
    have hkl := phiLk_len (f := f) (p := p) (k := k) (by omega) (by omega)
    refine AWP.skip ?_
    refine AWP.seq ?_
    refine AWP.block ?_
    refine AWP.seq ?_
    refine AWP.region rfl ?_
    refine AOps.val (Gv.move (v := .int _ _) rfl) ?_
    refine AOps.val (Gv.idxM (j := k) Tryz.underlying24 Tryz.sizeOf3 rfl rfl rfl (List.getElem?_eq_getElem hk2)) ?_
    refine AOps.val (Gv.load1F (c := .int _ _) Tryz.isAgg3 rfl) ?_
    refine AOps.val (Gv.assign (v := .int _ _) rfl) ?_
    refine AOps.val (Gv.assign (v := .int _ _) rfl) ?_
    refine AOps.nil ?_
    refine AWP.regionDraw (fun j => false) (by kernel_rfl) rfl (Part.perm (.rest _)) ?_
    refine AAny.take (i := 0) rfl (by kernel_rfl) (by kernel_rfl) (by kernel_rfl) (by kernel_rfl) (by kernel_rfl) (by kernel_rfl) (Gv.move (v := .own _ _) rfl) ?_
    refine AAny.take (i := 1) rfl (by kernel_rfl) (by kernel_rfl) (by kernel_rfl) (by kernel_rfl) (by kernel_rfl) (by kernel_rfl) (Gv.fieldF Tryz.underlying27 rfl Tryz.sizeOf25 (by decide) rfl rfl) ?_
    refine AAny.take (i := 2) rfl (by kernel_rfl) (by kernel_rfl) (by kernel_rfl) (by kernel_rfl) (by kernel_rfl) (by kernel_rfl) (Gv.load1F (c := .fro _ _) Tryz.isAgg25 rfl) ?_
    refine AAny.take (i := 3) rfl (by kernel_rfl) (by kernel_rfl) (by kernel_rfl) (by kernel_rfl) (by kernel_rfl) (by kernel_rfl) (Gv.fieldF Tryz.underlying64 rfl Tryz.sizeOf24 (by decide) rfl rfl) ?_
    refine AAny.take (i := 4) rfl (by kernel_rfl) (by kernel_rfl) (by kernel_rfl) (by kernel_rfl) (by kernel_rfl) (by kernel_rfl) (Gv.load1F (c := .fro _ _) Tryz.isAgg24 rfl) ?_
    refine AAny.take (i := 5) rfl (by kernel_rfl) (by kernel_rfl) (by kernel_rfl) (by kernel_rfl) (by kernel_rfl) (by kernel_rfl) (Gv.move (v := .int _ _) rfl) ?_
    refine AAny.take (i := 6) rfl (by kernel_rfl) (by kernel_rfl) (by kernel_rfl) (by kernel_rfl) (by kernel_rfl) (by kernel_rfl) (Gv.idxM (j := k) Tryz.underlying24 Tryz.sizeOf3 rfl rfl rfl (List.getElem?_eq_getElem hk3)) ?_
    refine AAny.take (i := 7) rfl (by kernel_rfl) (by kernel_rfl) (by kernel_rfl) (by kernel_rfl) (by kernel_rfl) (by kernel_rfl) (Gv.load1F (c := .int _ _) Tryz.isAgg3 rfl) ?_
    refine AAny.take (i := 8) rfl (by kernel_rfl) (by kernel_rfl) (by kernel_rfl) (by kernel_rfl) (by kernel_rfl) (by kernel_rfl) (Gv.idxM (j := (p.from_[k]).toNat) Tryz.underlying25 Tryz.sizeOf48 rfl rfl (by omega) b2) ?_
    refine AAny.take (i := 9) rfl (by kernel_rfl) (by kernel_rfl) (by kernel_rfl) (by kernel_rfl) (by kernel_rfl) (by kernel_rfl) (Gv.fieldF Tryz.underlying48 rfl Tryz.sizeOf9 (by decide) rfl rfl) ?_
    refine AAny.take (i := 10) rfl (by kernel_rfl) (by kernel_rfl) (by kernel_rfl) (by kernel_rfl) (by kernel_rfl) (by kernel_rfl) (Gv.load1F (c := .str _) Tryz.isAgg9 rfl) ?_
    refine AAny.take (i := 11) rfl (by kernel_rfl) (by kernel_rfl) (by kernel_rfl) (by kernel_rfl) (by kernel_rfl) (by kernel_rfl) (Gv.fieldF Tryz.underlying27 rfl Tryz.sizeOf23 (by decide) rfl rfl) ?_
    refine AAny.take (i := 12) rfl (by kernel_rfl) (by kernel_rfl) (by kernel_rfl) (by kernel_rfl) (by kernel_rfl) (by kernel_rfl) (Gv.load1F (c := .fro _ _) Tryz.isAgg23 rfl) ?_
    refine AAny.take (i := 13) rfl (by kernel_rfl) (by kernel_rfl) (by kernel_rfl) (by kernel_rfl) (by kernel_rfl) (by kernel_rfl) (Gv.move (v := .int _ _) rfl) ?_
    refine AAny.take (i := 14) rfl (by kernel_rfl) (by kernel_rfl) (by kernel_rfl) (by kernel_rfl) (by kernel_rfl) (by kernel_rfl) (Gv.idxM (j := (p.args[k]).toNat) Tryz.underlying23 Tryz.sizeOf38 rfl rfl (by omega) v2) ?_
    refine AAny.take (i := 15) rfl (by kernel_rfl) (by kernel_rfl) (by kernel_rfl) (by kernel_rfl) (by kernel_rfl) (by kernel_rfl) (Gv.fieldF Tryz.underlying38 rfl Tryz.sizeOf9 (by decide) rfl rfl) ?_
    refine AAny.take (i := 16) rfl (by kernel_rfl) (by kernel_rfl) (by kernel_rfl) (by kernel_rfl) (by kernel_rfl) (by kernel_rfl) (Gv.load1F (c := .str _) Tryz.isAgg9 rfl) ?_
    refine AAny.one (i := 17) rfl (by kernel_rfl) ?_
    refine AOps.buildSliceFF (rows := [[_], [_]]) ps62_2 rfl rfl rfl rfl rfl ?_
    refine AOps.nil ?_
    refine AAny.one (i := 18) rfl (by kernel_rfl) ?_
    refine AOps.appendS (k := 1) Tryz.underlying62 Tryz.type9 rfl rfl rfl rfl rfl (fun _ => .head) (by rw [grow_len (k := 1) (fun _ => rfl)]) (by decide) rfl (by show (_ + 2) * 16 ≤ _; omega) (by show _ + 2 ≤ _; omega) ?_
    intro i42
    refine AOps.nil ?_
    refine AAny.take (i := 19) rfl (by kernel_rfl) (by kernel_rfl) (by kernel_rfl) (by kernel_rfl) (by kernel_rfl) (by kernel_rfl) (Gv.assign (v := .own _ _) rfl) ?_
    refine AAny.done (by kernel_rfl) ?_
    refine AWP.region rfl ?_
    refine AOps.val (Gv.add rfl rfl (by unfold I64; omega)) ?_
    refine AOps.val (Gv.move (v := .int _ _) rfl) ?_
    refine AOps.nil ?_
    exact ⟨(k + 1, i42), ⟨rfl, rfl, rfl, rfl, trivial⟩, ⟨congrArg (AV.own i42) (by dsimp only; rw [phiLk_app hk3 hk2]; simp), rfl, trivial⟩, ⟨_, (.refl _), by dsimp only; rw [← grow_push2 (enc := encS) (phiLk_app hk3 hk2), b4, v4]; rfl⟩, hk2, by dsimp only; omega⟩
  · skip
    have hkn : k = p.args.length := by simp at ck; omega
    subst hkn
    rw [phiLk_full g2]
    refine GStep.wp (GStep.know (t := 5) (rows := (phiL f p).map encS) rfl .head (by intro r hr; obtain ⟨x, _, rfl⟩ := List.mem_map.1 hr; rfl) (by decide) (by simp)) ?_
    refine AWP.exit ?_
    refine AWP.seq ?_
    refine AWP.region rfl ?_
    refine AOps.val (Gv.move (v := .fro _ _) rfl) ?_
    refine AOps.callP (join_spec (phiL f p) _ (by omega) (by show (Lib.join _ [32]).length ≤ _; omega)) rfl ?_
    refine AOps.val (Gv.assign (v := .str _) rfl) ?_
    refine AOps.nil ?_
    refine AWP.ret ?_
    repeat (first | refine aseqQ_ret ?_ | refine ablockQ_ret ?_)
    refine afin.t1 (x := .str _) rfl ?_
    rfl
theorem term_eq {f : PFunc} {t : PTerm} (h : termOK f t = true) : termLine f t = lineS (termL f t) := by
  unfold termLine termL
  rw [if_pos h]
  by_cases k0 : t.kind = 0
  · rw [if_pos k0, if_pos k0, lineS_two, show (⟨#[106, 117, 109, 112, 32]⟩ : ByteArray) = jumpS ++ spc by decide]
  · rw [if_neg k0, if_neg k0]
    by_cases k1 : t.kind = 1
    · rw [if_pos k1, if_pos k1, lineS_four, show (⟨#[105, 102, 32]⟩ : ByteArray) = ifS ++ spc by decide]
    · rw [if_neg k1, if_neg k1, lineS_two, show (⟨#[114, 101, 116, 32]⟩ : ByteArray) = retS ++ spc by decide]
theorem termL_sz {f : PFunc} (hT : TOk f) {t : PTerm} (h : termOK f t = true) : (lineS (termL f t)).size ≤ 5000 := by
  have hb : ∀ x ∈ termL f t, x.size ≤ 1000 := by
    intro x hx
    unfold termL at hx
    by_cases k0 : t.kind = 0
    · rw [if_pos k0] at hx
      simp only [List.mem_cons, List.not_mem_nil, or_false] at hx
      rcases hx with rfl | rfl
      · decide
      · exact bname_sz hT (termOK_0 h k0)
    · rw [if_neg k0] at hx
      by_cases k1 : t.kind = 1
      · rw [if_pos k1] at hx
        obtain ⟨t1, t2, t3⟩ := termOK_1 h k1
        simp only [List.mem_cons, List.not_mem_nil, or_false] at hx
        rcases hx with rfl | rfl | rfl | rfl
        · decide
        · exact vname_sz hT t1
        · exact bname_sz hT t2
        · exact bname_sz hT t3
      · rw [if_neg k1] at hx
        simp only [List.mem_cons, List.not_mem_nil, or_false] at hx
        rcases hx with rfl | rfl
        · decide
        · exact vname_sz hT (termOK_2 h k0 k1)
  have hl : (termL f t).length ≤ 4 := by unfold termL; split <;> (try split) <;> simp
  have := lineS_size hb
  have h2 : (termL f t).length * (1000 + 1) ≤ 4 * 1001 := Nat.mul_le_mul hl (Nat.le_refl _)
  omega
theorem pairW_sz {v : PVar} (hv : v.name.size ≤ 1000) (ht : 0 ≤ v.ty ∧ v.ty ≤ 2) : (pairW v).size ≤ 1100 := by
  have := ty_size ht
  unfold pairW
  rw [app_size, app_size]
  have : colon.size = 1 := rfl
  omega
theorem headLk_app {f : PFunc} {k : Nat} (h : k < f.vars.length) : headLk f (k + 1) = headLk f k ++ [pairW f.vars[k]] := by
  unfold headLk; rw [List.take_succ_eq_append_getElem h, List.map_append]; rfl
theorem text_bad (f : PFunc) (hf : okFunc f) (hsm : small f) (h : shapedB f = false) (hL : Letters E) : AFun Tryz.prog E 15 [.agg (encF f)] (.tup [.str ⟨#[]⟩, .int .i64 3]) := by
  have hn := hsm.names
  obtain ⟨s1, s2, s3, _, _⟩ := id hsm
  refine ACall.intro Tryz.func15 rfl (by decide) rfl ?_
  refine AWP.seq ?_
  refine AWP.region rfl ?_
  refine AOps.boxF (cs := _) rfl rfl rfl ?_
  refine AOps.val (Gv.assign (v := .str _) rfl) ?_
  refine AOps.val (Gv.assign (v := .int _ _) rfl) ?_
  refine AOps.nil ?_
  refine AWP.seq ?_
  refine AWP.seq ?_
  refine AWP.region rfl ?_
  refine AOps.val (Gv.loadWF Tryz.isAgg27 Tryz.sizeOf27 rfl rfl) ?_
  refine AOps.callP (Shaped_spec _ (by assumption) (by omega) (by omega) (by omega) (by assumption) hL) rfl ?_
  refine AOps.val (Gv.not rfl) ?_
  refine AOps.nil ?_
  refine AWP.condT rfl (by simp [h]) ?_
  refine AWP.seq ?_
  refine AWP.region rfl ?_
  refine AOps.val (Gv.assign (v := .str _) rfl) ?_
  refine AOps.val (Gv.assign (v := .int _ _) rfl) ?_
  refine AOps.nil ?_
  refine AWP.ret ?_
  repeat (first | refine aseqQ_ret ?_ | refine ablockQ_ret ?_)
  refine afin.t2 (x := .str _) (y := .int _ _) rfl rfl ?_
  rfl
def capT (s : ByteArray) : ByteArray := if 16384 < s.size then ⟨#[]⟩ else s
def capE (s : ByteArray) : Int := if 16384 < s.size then 4 else 0
set_option maxHeartbeats 4000000 in
theorem text_good (f : PFunc) (hS : ShapedP f) (hT : TOk f) (hN : NumsOk f) (hsm : small f) (hP : Pows E) (hL : Letters E) :
    ACall Tryz.prog E 15 [.agg (encF f)] [] (fun x O => ∃ _ : Unit, x = .tup [.str (capT (textF f)), .int .i64 (capE (textF f))] ∧ Left O [] ∧ True) := by
  have hfo := hsm.ok
  have hn := hsm.names
  obtain ⟨s1, s2, s3, _, _⟩ := id hsm
  obtain ⟨hf, hu, hb, hne⟩ := shaped_ok hS
  have hpl : f.params.length ≤ f.vars.length := by have s1 := hS.1; unfold bad1 at s1; simp at s1; omega
  have hvl := hT.vars
  have hbl := hT.blks
  have hsh : shapedB f = true := by rw [shapedB_eq]; exact decide_eq_true hS
  have ssp : spc.size = 1 := rfl
  have snl : nl.size = 1 := rfl
  refine ACall.intro Tryz.func15 rfl (by decide) rfl ?_
  refine AWP.seq ?_
  refine AWP.region rfl ?_
  refine AOps.boxF (cs := _) rfl rfl rfl ?_
  refine AOps.val (Gv.assign (v := .str _) rfl) ?_
  refine AOps.val (Gv.assign (v := .int _ _) rfl) ?_
  refine AOps.nil ?_
  refine AWP.seq ?_
  refine AWP.seq ?_
  refine AWP.region rfl ?_
  refine AOps.val (Gv.loadWF Tryz.isAgg27 Tryz.sizeOf27 rfl rfl) ?_
  refine AOps.callP (Shaped_spec _ (by assumption) (by omega) (by omega) (by omega) (by assumption) hL) rfl ?_
  refine AOps.val (Gv.not rfl) ?_
  refine AOps.nil ?_
  refine AWP.condF rfl (by simp [hsh]) ?_
  refine AWP.skip ?_
  refine AWP.seq ?_
  refine AWP.region rfl ?_
  refine AOps.alloc (cs := [.raw (.pointer none), .raw (.slice none 0 0)]) Tryz.zeroValue77 rfl rfl ?_
  intro i4
  refine AOps.nil ?_
  refine adoptC_wp (off := 1) (k := 1) (T := 5) (fun _ => .head) rfl ?_
  intro jb
  refine AWP.seq ?_
  refine AWP.region rfl ?_
  refine AOps.val (Gv.func rfl rfl) ?_
  refine AOps.val (Gv.assign (v := .fn _ _ _) rfl) ?_
  refine AOps.nil ?_
  refine AWP.seq ?_
  refine AWP.region rfl ?_
  refine AOps.buildSliceO (cps := [(0, [_])]) (rs := [_]) ps62_1 rfl rfl rfl rfl rfl ?_
  intro i20
  refine AOps.val (Gv.assign (v := .own _ _) rfl) ?_
  refine AOps.nil ?_
  refine AWP.seq ?_
  refine AWP.seq ?_
  refine AWP.region rfl ?_
  refine AOps.val (Gv.fieldF Tryz.underlying27 rfl Tryz.sizeOf24 (by decide) rfl rfl) ?_
  refine AOps.val (Gv.load1F (c := .fro _ _) Tryz.isAgg24 rfl) ?_
  refine AOps.val (Gv.lenM Tryz.underlying24 rfl) ?_
  refine AOps.val (Gv.move (v := .int _ _) rfl) ?_
  refine AOps.nil ?_
  refine AWP.block ?_
  refine AWP.loop (γ := Nat × Nat) [1, 4, 5, 23] (fun g => [(6, .own g.2 (1 + g.1)), (24, .int .i64 g.1)]) (fun g => [(g.2, .grow 1 9 ((headLk f g.1).map encS).flatten), (jb, .grow 1 5 []), (i4, .cells 77 [.raw (.pointer none), .own jb 0])]) (fun g => g.1 ≤ f.params.length) (fun g => f.params.length - g.1) (0, i20) ⟨rfl, rfl, trivial⟩ ⟨_, (.refl _), rfl⟩ (Nat.zero_le _) ?_
  rintro ⟨k, i⟩ hk
  try dsimp only at *
  refine AWP.seq ?_
  refine AWP.region rfl ?_
  refine AOps.val (Gv.lss rfl rfl) ?_
  refine AOps.nil ?_
  refine AWP.seq ?_
  refine AWP.condP rfl (fun ck => ?_) (fun ck => ?_)
  · skip
    have hk2 : k < f.params.length := by simp at ck; omega
    have hk3 : k < f.vars.length := by omega
    have hv := hf.vars _ (List.getElem_mem hk3)
    have hvs := hT.vn _ (List.getElem_mem hk3)
    have hkl : (headLk f k).length = 1 + k := by unfold headLk; rw [List.length_cons, List.length_map, List.length_take]; omega
    refine AWP.skip ?_
    refine AWP.seq ?_
    refine AWP.block ?_
    refine AWP.seq ?_
    refine AWP.region rfl ?_
    refine AOps.val (Gv.move (v := .int _ _) rfl) ?_
    refine AOps.val (Gv.assign (v := .int _ _) rfl) ?_
    refine AOps.nil ?_
    refine AWP.region rfl ?_
    refine AOps.val (Gv.move (v := .own _ _) rfl) ?_
    refine AOps.val (Gv.fieldF Tryz.underlying27 rfl Tryz.sizeOf23 (by decide) rfl rfl) ?_
    refine AOps.val (Gv.load1F (c := .fro _ _) Tryz.isAgg23 rfl) ?_
    refine AOps.val (Gv.move (v := .int _ _) rfl) ?_
    refine AOps.val (Gv.idxM (j := k) Tryz.underlying23 Tryz.sizeOf38 rfl rfl rfl (List.getElem?_eq_getElem hk3)) ?_
    refine AOps.val (Gv.loadWF Tryz.isAgg38 Tryz.sizeOf38 rfl rfl) ?_
    refine AOps.callP (variable_spec _ hvs hv.2) rfl ?_
    refine AOps.buildSliceFF (rows := [[_]]) ps62_1 rfl rfl rfl rfl rfl ?_
    refine AOps.appendS (k := 1) Tryz.underlying62 Tryz.type9 rfl rfl rfl rfl rfl (fun _ => .head) (by rw [grow_len (k := 1) (fun _ => rfl), hkl]) (by decide) rfl (by show (_ + 1) * 16 ≤ _; omega) (by show _ + 1 ≤ _; omega) ?_
    intro i35
    refine AOps.val (Gv.assign (v := .own _ _) rfl) ?_
    refine AOps.nil ?_
    refine AWP.region rfl ?_
    refine AOps.val (Gv.add rfl rfl (by unfold I64; omega)) ?_
    refine AOps.val (Gv.move (v := .int _ _) rfl) ?_
    refine AOps.nil ?_
    exact ⟨(k + 1, i35), ⟨rfl, rfl, rfl, rfl, trivial⟩, ⟨rfl, rfl, trivial⟩, ⟨_, (.refl _), by dsimp only; rw [← grow_push (enc := encS) (headLk_app hk3)]; rfl⟩, hk2, by dsimp only; omega⟩
  · skip
    have hkn : k = f.params.length := by simp at ck; omega
    subst hkn
    have hhead : headLk f f.params.length = headL f := rfl
    rw [hhead]
    have hhl : (headL f).length = 1 + f.params.length := by rw [← hhead]; unfold headLk; rw [List.length_cons, List.length_map, List.length_take]; omega
    have hhs := lineS_size (ws := headL f) (m := 1100) (fun x hx => by
      unfold headL at hx
      rcases List.mem_cons.1 hx with rfl | hx
      · decide
      · obtain ⟨v, hv, rfl⟩ := List.mem_map.1 hx
        have hv := List.mem_of_mem_take hv
        exact pairW_sz (hT.vn v hv) (hf.vars v hv).2)
    have hhm : (headL f).length * (1100 + 1) ≤ 1001 * 1101 := Nat.mul_le_mul (by omega) (Nat.le_refl _)
    refine GStep.wp (GStep.know (t := 6) (rows := (headL f).map encS) rfl .head (by intro r hr; obtain ⟨x, _, rfl⟩ := List.mem_map.1 hr; rfl) (by decide) (by rw [List.length_map]; exact hhl)) ?_
    refine GStep.wp (GStep.perm (Pick.perm (.tail .head))) ?_
    refine AWP.exit ?_
    refine AWP.seq ?_
    refine AWP.region rfl ?_
    refine AOps.val (Gv.move (v := .fn _ _ _) rfl) ?_
    refine AOps.val (Gv.move (v := .fro _ _) rfl) ?_
    refine AOps.callVA rfl rfl (Part.perm (.l (.l (.rest _)))) ((line_new ⟨#[]⟩ (headL f) (by omega) (by omega) (by decide)).exact) ?_
    rintro r39 O39 ⟨j0, rfl, rfl, _⟩
    obtain ⟨ds, hds⟩ : ∃ ds, f.vars.drop f.params.length = ds := ⟨_, rfl⟩
    have hdl : ds.length ≤ 1000 := by rw [← hds, List.length_drop]; omega
    obtain ⟨a0, ha0⟩ : ∃ a0, (⟨#[]⟩ : ByteArray) ++ (lineS (headL f) ++ nl) = a0 := ⟨_, rfl⟩
    rw [ha0]
    have ha0s : a0.size ≤ 1102103 ∧ 1 ≤ a0.size := by rw [← ha0, app_size, app_size]; have : (⟨#[]⟩ : ByteArray).size = 0 := rfl; omega
    have ha0u : a0 = unB [headL f] := by rw [← ha0]; show _ = (lineS (headL f) ++ nl) ++ unB []; show _ = (lineS (headL f) ++ nl) ++ ByteArray.empty; rw [ByteArray.append_empty]; exact ByteArray.empty_append
    refine AOps.nil ?_
    refine AWP.seq ?_
    refine AWP.seq ?_
    refine AWP.region rfl ?_
    refine AOps.val (Gv.fieldF Tryz.underlying27 rfl Tryz.sizeOf23 (by decide) rfl rfl) ?_
    refine AOps.val (Gv.load1F (c := .fro _ _) Tryz.isAgg23 rfl) ?_
    refine AOps.val (Gv.fieldF Tryz.underlying27 rfl Tryz.sizeOf24 (by decide) rfl rfl) ?_
    refine AOps.val (Gv.load1F (c := .fro _ _) Tryz.isAgg24 rfl) ?_
    refine AOps.val (Gv.lenM Tryz.underlying24 rfl) ?_
    refine AOps.val (Gv.cutLoM (j := f.params.length) Tryz.underlying23 Tryz.sizeOf38 rfl rfl rfl hpl) ?_
    refine AOps.val (Gv.lenM Tryz.underlying23 rfl) ?_
    refine AOps.val (Gv.move (v := .int _ _) rfl) ?_
    rw [hds]
    refine AOps.nil ?_
    refine AWP.block ?_
    refine AWP.loop (γ := Nat × Nat × ByteArray) [1, 4, 5, 45, 46] (fun g => [(47, .int .i64 g.1)]) (fun g => [(i4, .cells 77 [.po i4 0, .own g.2.1 g.2.2.size]), (g.2.1, .grow 1 5 (strAV g.2.2))]) (fun g => g.1 ≤ ds.length ∧ g.2.2 = unB (headL f :: (ds.take g.1).map varL) ∧ g.2.2.size ≤ 1102103 + g.1 * 3000 ∧ 1 ≤ g.2.2.size) (fun g => ds.length - g.1) (0, j0, a0) ⟨rfl, trivial⟩ ⟨_, (.refl _), rfl⟩ (⟨Nat.zero_le _, ha0u, by dsimp only; omega, by dsimp only; omega⟩) ?_
    rintro ⟨k, j, acc⟩ ⟨hk, hacc, hsz, hnz0⟩
    try dsimp only at *
    refine AWP.seq ?_
    refine AWP.region rfl ?_
    refine AOps.val (Gv.lss rfl rfl) ?_
    refine AOps.nil ?_
    refine AWP.seq ?_
    refine AWP.condP rfl (fun ck => ?_) (fun ck => ?_)
    · skip
      have hk2 : k < ds.length := by simp at ck; omega
      have hvm : ds[k] ∈ f.vars := List.mem_of_mem_drop (by rw [hds]; exact List.getElem_mem hk2)
      have hv := hf.vars _ hvm
      have hvs := hT.vn _ hvm
      have hvl2 := lineS_size (ws := varL ds[k]) (m := 1100) (fun x hx => by
        unfold varL at hx
        simp only [List.mem_cons, List.not_mem_nil, or_false] at hx
        rcases hx with rfl | rfl
        · decide
        · exact pairW_sz hvs hv.2)
      have hvl3 : (varL ds[k]).length = 2 := rfl
      rw [hvl3] at hvl2
      refine AWP.skip ?_
      refine AWP.seq ?_
      refine AWP.block ?_
      refine AWP.seq ?_
      refine AWP.region rfl ?_
      refine AOps.val (Gv.idxM (j := k) Tryz.underlying23 Tryz.sizeOf38 rfl rfl rfl (List.getElem?_eq_getElem hk2)) ?_
      refine AOps.val (Gv.loadWF Tryz.isAgg38 Tryz.sizeOf38 rfl rfl) ?_
      refine AOps.alloc (cs := [.str ⟨#[]⟩, .int .i64 0]) Tryz.zeroValue38 rfl rfl ?_
      intro i9
      refine AOps.storeW Tryz.sizeOf38 rfl rfl rfl rfl rfl rfl .head rfl ?_
      refine AOps.nil ?_
      refine AWP.region rfl ?_
      refine AOps.val (Gv.move (v := .fn _ _ _) rfl) ?_
      refine AOps.val (Gv.loadWC Tryz.isAgg38 Tryz.sizeOf38 rfl ⟨_, .head⟩ rfl) ?_
      refine AOps.callP (variable_spec _ hvs hv.2) rfl ?_
      refine AOps.buildSliceFF (rows := [[_], [_]]) ps62_2 rfl rfl rfl rfl rfl ?_
      refine AOps.callVA rfl rfl (Part.perm (.r (.l (.l (.rest _))))) ((line_used acc (varL ds[k]) (by omega) (by omega) (by omega)).exact) ?_
      rintro r55 O55 ⟨j2, rfl, rfl, _⟩
      refine AOps.nil ?_
      refine AWP.region rfl ?_
      refine AOps.val (Gv.add rfl rfl (by unfold I64; omega)) ?_
      refine AOps.val (Gv.move (v := .int _ _) rfl) ?_
      refine AOps.nil ?_
      exact ⟨(k + 1, j2, acc ++ (lineS (varL ds[k]) ++ nl)), ⟨rfl, rfl, rfl, rfl, rfl, trivial⟩, ⟨rfl, trivial⟩, ⟨_, (.keep (.keep (.drop (.refl _)))), rfl⟩, ⟨hk2, by dsimp only; rw [List.take_succ_eq_append_getElem hk2, List.map_append, List.map_cons, List.map_nil, ← List.cons_append, unB_app, ← hacc], by dsimp only; rw [app_size, app_size]; omega, by dsimp only; rw [app_size]; omega⟩, by dsimp only; omega⟩
    · skip
      have hkn : k = ds.length := by simp at ck; omega
      subst hkn
      rw [List.take_length] at hacc
      obtain ⟨P0, hP0⟩ : ∃ P0, headL f :: ds.map varL = P0 := ⟨_, rfl⟩
      have hlines : linesF f = P0 ++ f.blocks.flatMap (blkL f) := by rw [← hP0, ← hds]; rfl
      rw [hP0] at hacc
      refine AWP.exit ?_
      refine AWP.seq ?_
      refine AWP.seq ?_
      refine AWP.region rfl ?_
      refine AOps.val (Gv.fieldF Tryz.underlying27 rfl Tryz.sizeOf25 (by decide) rfl rfl) ?_
      refine AOps.val (Gv.load1F (c := .fro _ _) Tryz.isAgg25 rfl) ?_
      refine AOps.val (Gv.lenM Tryz.underlying25 rfl) ?_
      refine AOps.val (Gv.move (v := .int _ _) rfl) ?_
      refine AOps.nil ?_
      refine AWP.block ?_
      refine AWP.loop (γ := Nat × Nat × ByteArray) [1, 4, 5, 58, 59] (fun g => [(60, .int .i64 g.1)]) (fun g => [(i4, .cells 77 [.po i4 0, .own g.2.1 g.2.2.size]), (g.2.1, .grow 1 5 (strAV g.2.2))]) (fun g => g.1 ≤ f.blocks.length ∧ g.2.2 = unB (P0 ++ (f.blocks.take g.1).flatMap (blkL f)) ∧ g.2.2.size ≤ 5000000 + g.1 * 20000000000 ∧ 1 ≤ g.2.2.size) (fun g => f.blocks.length - g.1) (0, j, acc) ⟨rfl, trivial⟩ ⟨_, (.refl _), rfl⟩ (⟨Nat.zero_le _, by dsimp only; rw [hacc]; simp, by dsimp only; omega, by dsimp only; omega⟩) ?_
      rintro ⟨k, j, acc3⟩ ⟨hk3, hacc3, hsz3, hnz⟩
      try dsimp only at *
      refine AWP.seq ?_
      refine AWP.region rfl ?_
      refine AOps.val (Gv.lss rfl rfl) ?_
      refine AOps.nil ?_
      refine AWP.seq ?_
      refine AWP.condP rfl (fun cb => ?_) (fun cb => ?_)
      · skip
        have hk4 : k < f.blocks.length := by simp at cb; omega
        obtain ⟨b, hbk⟩ : ∃ b, f.blocks[k] = b := ⟨_, rfl⟩
        have hget : f.blocks[k]? = some b := by rw [List.getElem?_eq_getElem hk4, hbk]
        have hbm : b ∈ f.blocks := hbk ▸ List.getElem_mem hk4
        obtain ⟨hbn, hb1, hb2, hb3⟩ := hf.blks b hbm
        have hbs := hT.bn b hbm
        have hTb := hT.each b hbm
        have hnb := hN b hbm
        have hp1 := hTb.phis
        have hp2 := hTb.insts
        have hbl2 := lineS_size (ws := [blockS, b.name]) (m := 1000) (fun x hx => by
          simp only [List.mem_cons, List.not_mem_nil, or_false] at hx
          rcases hx with rfl | rfl
          · decide
          · exact hbs)
        have hbl3 : ([blockS, b.name] : List ByteArray).length = 2 := rfl
        rw [hbl3] at hbl2
        obtain ⟨Q, hQ⟩ : ∃ Q, P0 ++ (f.blocks.take k).flatMap (blkL f) ++ [[blockS, b.name]] = Q := ⟨_, rfl⟩
        refine AWP.skip ?_
        refine AWP.seq ?_
        refine AWP.block ?_
        refine AWP.seq ?_
        refine AWP.region rfl ?_
        refine AOps.val (Gv.idxM (j := k) Tryz.underlying25 Tryz.sizeOf48 rfl rfl rfl hget) ?_
        refine AOps.val (Gv.loadWF Tryz.isAgg48 Tryz.sizeOf48 rfl rfl) ?_
        refine AOps.alloc (cs := [.str ⟨#[]⟩, .raw (.slice none 0 0), .raw (.slice none 0 0), .int .i64 0, .int .i64 0, .int .i64 0, .int .i64 0]) Tryz.zeroValue48 rfl rfl ?_
        intro i11
        refine AOps.storeW Tryz.sizeOf48 rfl rfl rfl rfl rfl rfl .head rfl ?_
        refine AOps.nil ?_
        refine AWP.seq ?_
        refine AWP.region rfl ?_
        refine AOps.val (Gv.move (v := .fn _ _ _) rfl) ?_
        refine AOps.val (Gv.fieldO Tryz.underlying48 rfl Tryz.sizeOf9 (by decide) rfl rfl) ?_
        refine AOps.val (Gv.load1C (c := .str _) Tryz.isAgg9 rfl ⟨_, .head⟩ rfl) ?_
        refine AOps.buildSliceFF (rows := [[_], [_]]) ps62_2 rfl rfl rfl rfl rfl ?_
        refine AOps.callVA rfl rfl (Part.perm (.r (.l (.l (.rest _))))) ((line_used acc3 [blockS, b.name] (by omega) (by omega) (by omega)).exact) ?_
        rintro r68 O68 ⟨j2, rfl, rfl, _⟩
        obtain ⟨a4, ha4⟩ : ∃ a4, acc3 ++ (lineS [blockS, b.name] ++ nl) = a4 := ⟨_, rfl⟩
        have ha4s : a4.size ≤ 5003000 + k * 20000000000 ∧ 1 ≤ a4.size := by rw [← ha4, app_size, app_size]; omega
        have ha4u : a4 = unB Q := by rw [← ha4, ← hQ, unB_app, ← hacc3]
        rw [ha4]
        refine AOps.nil ?_
        refine AWP.seq ?_
        refine AWP.seq ?_
        refine AWP.region rfl ?_
        refine AOps.val (Gv.fieldO Tryz.underlying48 rfl Tryz.sizeOf41 (by decide) rfl rfl) ?_
        refine AOps.val (Gv.load1C (c := .fro _ _) Tryz.isAgg41 rfl ⟨_, (.tail (.tail .head))⟩ rfl) ?_
        refine AOps.val (Gv.lenM Tryz.underlying41 rfl) ?_
        refine AOps.val (Gv.move (v := .int _ _) rfl) ?_
        refine AOps.nil ?_
        refine AWP.block ?_
        refine AWP.loop (γ := Nat × Nat × ByteArray) [1, 4, 5, 11, 58, 59, 60, 70, 71] (fun g => [(72, .int .i64 g.1)]) (fun g => [(i4, .cells 77 [.po i4 0, .own g.2.1 g.2.2.size]), (g.2.1, .grow 1 5 (strAV g.2.2)), (i11, .cells 48 (encBlk b))]) (fun g => g.1 ≤ b.phis.length ∧ g.2.2 = unB (Q ++ (b.phis.take g.1).map (phiL f)) ∧ g.2.2.size ≤ 5003000 + k * 20000000000 + g.1 * 5006000 ∧ 1 ≤ g.2.2.size) (fun g => b.phis.length - g.1) (0, j2, a4) ⟨rfl, trivial⟩ ⟨_, (.refl _), rfl⟩ (⟨Nat.zero_le _, by dsimp only; rw [ha4u]; simp, by dsimp only; omega, by dsimp only; omega⟩) ?_
        rintro ⟨m, j, acc4⟩ ⟨hm, hacc4, hsz4, hnz4⟩
        try dsimp only at *
        refine AWP.seq ?_
        refine AWP.region rfl ?_
        refine AOps.val (Gv.lss rfl rfl) ?_
        refine AOps.nil ?_
        refine AWP.seq ?_
        refine AWP.condP rfl (fun cm => ?_) (fun cm => ?_)
        · skip
          have hm2 : m < b.phis.length := by simp at cm; omega
          obtain ⟨p, hpm⟩ : ∃ p, b.phis[m] = p := ⟨_, rfl⟩
          have hgp : b.phis[m]? = some p := by rw [List.getElem?_eq_getElem hm2, hpm]
          have hpmem : p ∈ b.phis := hpm ▸ List.getElem_mem hm2
          have hP2 := hb1 p hpmem
          have hpa := hTb.args p hpmem
          have hps := lineS_size (phiL_sz hT hP2)
          have hpl2 := phiL_len (f := f) hP2.2.1 hpa.1
          have hpm2 : (phiL f p).length * (1000 + 1) ≤ 5000 * 1001 := Nat.mul_le_mul hpl2 (Nat.le_refl _)
          refine AWP.skip ?_
          refine AWP.seq ?_
          refine AWP.block ?_
          refine AWP.seq ?_
          refine AWP.region rfl ?_
          refine AOps.val (Gv.idxM (j := m) Tryz.underlying41 Tryz.sizeOf64 rfl rfl rfl hgp) ?_
          refine AOps.val (Gv.loadWF Tryz.isAgg64 Tryz.sizeOf64 rfl rfl) ?_
          refine AOps.alloc (cs := [.int .i64 0, .raw (.slice none 0 0), .raw (.slice none 0 0)]) Tryz.zeroValue64 rfl rfl ?_
          intro i13
          refine AOps.storeW Tryz.sizeOf64 rfl rfl rfl rfl rfl rfl .head rfl ?_
          refine AOps.nil ?_
          refine AWP.region rfl ?_
          refine AOps.val (Gv.move (v := .fn _ _ _) rfl) ?_
          refine AOps.val (Gv.loadWF Tryz.isAgg27 Tryz.sizeOf27 rfl rfl) ?_
          refine AOps.val (Gv.loadWC Tryz.isAgg64 Tryz.sizeOf64 rfl ⟨_, .head⟩ rfl) ?_
          refine AOps.callP (joined_spec f p hT hP2 hpa.1) rfl ?_
          refine AOps.buildSliceFF (rows := [[_]]) ps62_1 rfl rfl rfl rfl rfl ?_
          refine AOps.callVA rfl rfl (Part.perm (.r (.l (.l (.r (.rest _)))))) ((line_used acc4 [lineS (phiL f p)] (by simp) (by rw [lineS_one]; omega) (by omega)).exact) ?_
          rintro r81 O81 ⟨j3, rfl, rfl, _⟩
          refine AOps.nil ?_
          refine AWP.region rfl ?_
          refine AOps.val (Gv.add rfl rfl (by unfold I64; omega)) ?_
          refine AOps.val (Gv.move (v := .int _ _) rfl) ?_
          refine AOps.nil ?_
          exact ⟨(m + 1, j3, acc4 ++ (lineS [lineS (phiL f p)] ++ nl)), ⟨rfl, rfl, rfl, rfl, rfl, rfl, rfl, rfl, rfl, trivial⟩, ⟨rfl, trivial⟩, ⟨_, (.keep (.keep (.drop (.refl _)))), rfl⟩, ⟨hm2, by dsimp only; rw [List.take_succ_eq_append_getElem hm2, hpm, List.map_append, List.map_cons, List.map_nil, ← List.append_assoc, unB_app, ← hacc4, lineS_one], by dsimp only; rw [app_size, app_size, lineS_one]; omega, by dsimp only; rw [app_size]; omega⟩, by dsimp only; omega⟩
        · skip
          have hmn : m = b.phis.length := by simp at cm; omega
          subst hmn
          rw [List.take_length] at hacc4
          obtain ⟨Q2, hQ2⟩ : ∃ Q2, Q ++ b.phis.map (phiL f) = Q2 := ⟨_, rfl⟩
          rw [hQ2] at hacc4
          refine AWP.exit ?_
          refine AWP.seq ?_
          refine AWP.seq ?_
          refine AWP.region rfl ?_
          refine AOps.val (Gv.fieldO Tryz.underlying48 rfl Tryz.sizeOf42 (by decide) rfl rfl) ?_
          refine AOps.val (Gv.load1C (c := .fro _ _) Tryz.isAgg42 rfl ⟨_, (.tail (.tail .head))⟩ rfl) ?_
          refine AOps.val (Gv.lenM Tryz.underlying42 rfl) ?_
          refine AOps.val (Gv.move (v := .int _ _) rfl) ?_
          refine AOps.nil ?_
          refine AWP.block ?_
          refine AWP.loop (γ := Nat × Nat × ByteArray) [1, 4, 5, 11, 58, 59, 60, 84, 85] (fun g => [(86, .int .i64 g.1)]) (fun g => [(i4, .cells 77 [.po i4 0, .own g.2.1 g.2.2.size]), (g.2.1, .grow 1 5 (strAV g.2.2)), (i11, .cells 48 (encBlk b))]) (fun g => g.1 ≤ b.insts.length ∧ g.2.2 = unB (Q2 ++ (b.insts.take g.1).map (wordsOf f)) ∧ g.2.2.size ≤ 15003000000 + k * 20000000000 + g.1 * 21000 ∧ 1 ≤ g.2.2.size) (fun g => b.insts.length - g.1) (0, j, acc4) ⟨rfl, trivial⟩ ⟨_, (.refl _), rfl⟩ (⟨Nat.zero_le _, by dsimp only; rw [hacc4]; simp, by dsimp only; omega, by dsimp only; omega⟩) ?_
          rintro ⟨m, j, acc5⟩ ⟨hm, hacc5, hsz5, hnz5⟩
          try dsimp only at *
          refine AWP.seq ?_
          refine AWP.region rfl ?_
          refine AOps.val (Gv.lss rfl rfl) ?_
          refine AOps.nil ?_
          refine AWP.seq ?_
          refine AWP.condP rfl (fun ci => ?_) (fun ci => ?_)
          · skip
            have hm2 : m < b.insts.length := by simp at ci; omega
            obtain ⟨x, hxm⟩ : ∃ x, b.insts[m] = x := ⟨_, rfl⟩
            have hgx : b.insts[m]? = some x := by rw [List.getElem?_eq_getElem hm2, hxm]
            have hxmem : x ∈ b.insts := hxm ▸ List.getElem_mem hm2
            have hxP := hb2 x hxmem
            obtain ⟨hxl, hxs⟩ := refLine_sz hT hxP (hnb x hxmem)
            have hxe : instLine f x = lineS (wordsOf f x) := by rw [line_eq hxP, inst_line_eq hxP]
            have hxz : (instLine f x).size ≤ 20000 := by rw [line_eq hxP]; exact hxs
            refine AWP.skip ?_
            refine AWP.seq ?_
            refine AWP.block ?_
            refine AWP.seq ?_
            refine AWP.region rfl ?_
            refine AOps.val (Gv.idxM (j := m) Tryz.underlying42 Tryz.sizeOf67 rfl rfl rfl hgx) ?_
            refine AOps.val (Gv.loadWF Tryz.isAgg67 Tryz.sizeOf67 rfl rfl) ?_
            refine AOps.alloc (cs := [.int .i64 0, .int .i64 0, .raw (.slice none 0 0), .int .i64 0]) Tryz.zeroValue67 rfl rfl ?_
            intro i15
            refine AOps.storeW Tryz.sizeOf67 rfl rfl rfl rfl rfl rfl .head rfl ?_
            refine AOps.nil ?_
            refine AWP.region rfl ?_
            refine AOps.val (Gv.move (v := .fn _ _ _) rfl) ?_
            refine AOps.val (Gv.loadWF Tryz.isAgg27 Tryz.sizeOf27 rfl rfl) ?_
            refine AOps.val (Gv.loadWC Tryz.isAgg67 Tryz.sizeOf67 rfl ⟨_, .head⟩ rfl) ?_
            refine AOps.callP (Inst_spec f x (by omega) hT.vn (fun _ => hnb x hxmem) hP) rfl ?_
            refine AOps.buildSliceFF (rows := [[_]]) ps62_1 rfl rfl rfl rfl rfl ?_
            refine AOps.callVA rfl rfl (Part.perm (.r (.l (.l (.r (.rest _)))))) ((line_used acc5 [instLine f x] (by simp) (by rw [lineS_one]; omega) (by omega)).exact) ?_
            rintro r95 O95 ⟨j3, rfl, rfl, _⟩
            refine AOps.nil ?_
            refine AWP.region rfl ?_
            refine AOps.val (Gv.add rfl rfl (by unfold I64; omega)) ?_
            refine AOps.val (Gv.move (v := .int _ _) rfl) ?_
            refine AOps.nil ?_
            exact ⟨(m + 1, j3, acc5 ++ (lineS [instLine f x] ++ nl)), ⟨rfl, rfl, rfl, rfl, rfl, rfl, rfl, rfl, rfl, trivial⟩, ⟨rfl, trivial⟩, ⟨_, (.keep (.keep (.drop (.refl _)))), rfl⟩, ⟨hm2, by dsimp only; rw [List.take_succ_eq_append_getElem hm2, hxm, List.map_append, List.map_cons, List.map_nil, ← List.append_assoc, unB_app, ← hacc5, lineS_one, hxe], by dsimp only; rw [app_size, app_size, lineS_one]; omega, by dsimp only; rw [app_size]; omega⟩, by dsimp only; omega⟩
          · skip
            have hmn : m = b.insts.length := by simp at ci; omega
            subst hmn
            rw [List.take_length] at hacc5
            have htz := termL_sz hT hb3
            have hte := term_eq hb3
            have hnext : P0 ++ (f.blocks.take (k + 1)).flatMap (blkL f) = (Q2 ++ b.insts.map (wordsOf f)) ++ [termL f b.term] := by
              rw [List.take_succ_eq_append_getElem hk4, hbk, List.flatMap_append, ← hQ2, ← hQ]; simp [blkL]
            refine AWP.exit ?_
            refine AWP.region rfl ?_
            refine AOps.val (Gv.move (v := .fn _ _ _) rfl) ?_
            refine AOps.val (Gv.loadWF Tryz.isAgg27 Tryz.sizeOf27 rfl rfl) ?_
            refine AOps.val (Gv.fieldO Tryz.underlying48 rfl Tryz.sizeOf46 (by decide) rfl rfl) ?_
            refine AOps.val (Gv.loadAC (l := [_, _, _, _]) Tryz.isAgg46 Tryz.sizeOf46 rfl ⟨_, (.tail (.tail .head))⟩ rfl rfl) ?_
            refine AOps.callP (Term_spec f b.term hsm) rfl ?_
            refine AOps.buildSliceFF (rows := [[_]]) ps62_1 rfl rfl rfl rfl rfl ?_
            refine AOps.callVA rfl rfl (Part.perm (.l (.l (.r (.rest _))))) ((line_used acc5 [termLine f b.term] (by simp) (by rw [lineS_one, hte]; omega) (by omega)).exact) ?_
            rintro r103 O103 ⟨j3, rfl, rfl, _⟩
            refine AOps.nil ?_
            refine AWP.region rfl ?_
            refine AOps.val (Gv.add rfl rfl (by unfold I64; omega)) ?_
            refine AOps.val (Gv.move (v := .int _ _) rfl) ?_
            refine AOps.nil ?_
            exact ⟨(k + 1, j3, acc5 ++ (lineS [termLine f b.term] ++ nl)), ⟨rfl, rfl, rfl, rfl, rfl, trivial⟩, ⟨rfl, trivial⟩, ⟨_, (.keep (.keep (.drop (.refl _)))), rfl⟩, ⟨hk4, by dsimp only; rw [hnext, unB_app, ← hacc5, lineS_one, hte], by dsimp only; rw [app_size, app_size, lineS_one, hte]; omega, by dsimp only; rw [app_size]; omega⟩, by dsimp only; omega⟩
      · skip
        have hkn : k = f.blocks.length := by simp at cb; omega
        subst hkn
        rw [List.take_length] at hacc3
        have he : acc3 = textF f := by rw [hacc3, ← hlines]; rfl
        have hsz5 : acc3.size ≤ 5000000 + 100 * 20000000000 := Nat.le_trans hsz3 (Nat.add_le_add_left (Nat.mul_le_mul_right _ hbl) _)
        refine AWP.exit ?_
        refine AWP.seq ?_
        refine AWP.seq ?_
        refine AWP.region rfl ?_
        refine AOps.callA rfl (Part.perm (.l (.l (.rest _)))) (bldLen_spec acc3) ?_
        rintro r105 O105 ⟨rfl, rfl⟩
        refine AOps.val (Gv.gtr rfl rfl) ?_
        refine AOps.nil ?_
        refine AWP.condP rfl (fun ct => ?_) (fun ct => ?_)
        · skip
          refine AWP.seq ?_
          refine AWP.region rfl ?_
          refine AOps.val (Gv.assign (v := .str _) rfl) ?_
          refine AOps.val (Gv.assign (v := .int _ _) rfl) ?_
          refine AOps.nil ?_
          refine AWP.ret ?_
          repeat (first | refine aseqQ_ret ?_ | refine ablockQ_ret ?_)
          refine afin.t2 (x := .str _) (y := .int _ _) rfl rfl ?_
          exact ⟨(), by unfold capT capE; rw [← he, if_pos (by omega), if_pos (by omega)], Left.none0 _, trivial⟩
        · skip
          refine AWP.skip ?_
          refine AWP.seq ?_
          refine AWP.region rfl ?_
          refine AOps.callA rfl (Part.perm (.l (.l (.rest _)))) (bldString_spec acc3 (by omega) (by omega)) ?_
          rintro r107 O107 ⟨rfl, rfl⟩
          refine AOps.val (Gv.assign (v := .str _) rfl) ?_
          refine AOps.val (Gv.assign (v := .int _ _) rfl) ?_
          refine AOps.nil ?_
          refine AWP.ret ?_
          repeat (first | refine aseqQ_ret ?_ | refine ablockQ_ret ?_)
          refine afin.t2 (x := .str _) (y := .int _ _) rfl rfl ?_
          exact ⟨(), by unfold capT capE; rw [← he, if_neg (by omega), if_neg (by omega)], Left.none0 _, trivial⟩
end Go.Proofs.YtdkhlgiohpdihaaGreatDoor
namespace Go.Proofs.YtdkhlgiohpdihaaGreatDoor
section
variable {P : Program} {env : AEnv} {O : OL}
variable {d ty : Nat} {pos : String} {af : Array Edge} {x y : Operand}
end
end Go.Proofs.YtdkhlgiohpdihaaGreatDoor
namespace Go.Proofs.YtdkhlgiohpdihaaGreatDoor
open Go.Proofs Go.Lib Go.Shelf Go.RowKit
theorem ps23_3 : PlacesS Tryz.prog 23 38 3 2 [.str ⟨#[]⟩, .int .i64 0, .str ⟨#[]⟩, .int .i64 0, .str ⟨#[]⟩, .int .i64 0] := ⟨_, Tryz.underlying23, Tryz.sizeOf38, Tryz.zeroValue38, by decide, by decide, by kernel_rfl⟩
theorem ps24_2 : PlacesS Tryz.prog 24 3 2 1 [.int .i64 0, .int .i64 0] := ⟨_, Tryz.underlying24, Tryz.sizeOf3, Tryz.zeroValue3, by decide, by decide, by kernel_rfl⟩
set_option maxRecDepth 20000
variable {E : World}
def Imp (x y : AV) : Prop := ∀ I v, RepV I x v → RepV I y v
def ImpL (xs ys : List AV) : Prop := ∀ I vs, RepL I xs vs → RepL I ys vs
theorem Imp.refl (x : AV) : Imp x x := fun _ _ h => h
theorem Imp.nil (k : Nat) : Imp (.raw (.slice none 0 0)) (.fro k []) := fun _ _ h => ⟨none, 0, 0, h, rfl, Nat.le_refl _, fun _ => rfl, trivial⟩
theorem ImpL.nil : ImpL [] [] := fun _ _ h => h
theorem ImpL.cons {x y : AV} {xs ys : List AV} (h : Imp x y) (hs : ImpL xs ys) : ImpL (x :: xs) (y :: ys) := fun I _ ⟨v, us, e, h1, h2⟩ => ⟨v, us, e, h I v h1, hs I us h2⟩
theorem Imp.agg {xs ys : List AV} (h : ImpL xs ys) : Imp (.agg xs) (.agg ys) := fun I _ ⟨vs, e, h1⟩ => ⟨vs, e, h I vs h1⟩
def livesF : PFunc := ⟨[⟨⟨#[120]⟩, 0⟩, ⟨⟨#[121]⟩, 0⟩, ⟨⟨#[122]⟩, 0⟩], [], []⟩
def livesX : PInst := ⟨2, 0, [1, 2], 0⟩
theorem livesLine : instLine livesF livesX = ⟨#[120, 32, 61, 32, 97, 100, 100, 32, 121, 32, 122]⟩ := by decide
theorem lives_spec (hT : Pows E) : AFun Tryz.prog E 14 [] (.bool true) := by
  refine ACall.intro Tryz.func14 rfl (by decide) rfl ?_
  refine AWP.seq ?_
  refine AWP.region rfl ?_
  refine AOps.val (Gv.assign (v := .bool _) rfl) ?_
  refine AOps.nil ?_
  refine AWP.seq ?_
  refine AWP.region rfl ?_
  refine AOps.val (Gv.build (cps := [(0, [_])]) (rs := [_, .int .i64 0]) pl38 rfl rfl rfl) ?_
  refine AOps.val (Gv.build (cps := [(0, [_])]) (rs := [_, .int .i64 0]) pl38 rfl rfl rfl) ?_
  refine AOps.val (Gv.build (cps := [(0, [_])]) (rs := [_, .int .i64 0]) pl38 rfl rfl rfl) ?_
  refine AOps.buildSliceFF (rows := [[_, _], [_, _], [_, _]]) ps23_3 rfl rfl rfl rfl rfl ?_
  refine AOps.val (Gv.build (cps := [(0, [_])]) (rs := [_, .raw (.slice none 0 0), .raw (.slice none 0 0)]) pl27 rfl rfl rfl) ?_
  refine GStep.ops (GStep.slot (t := 6) rfl (Imp.agg (.cons (.refl _) (.cons (.nil 1) (.cons (.nil 7) .nil))))) ?_
  refine AOps.alloc (cs := [.raw (.slice none 0 0), .raw (.slice none 0 0), .raw (.slice none 0 0)]) Tryz.zeroValue27 rfl rfl ?_
  intro i1
  refine AOps.storeW Tryz.sizeOf27 rfl rfl rfl rfl rfl rfl .head rfl ?_
  refine AOps.nil ?_
  refine AWP.seq ?_
  refine AWP.region rfl ?_
  refine AOps.val (Gv.loadWC Tryz.isAgg27 Tryz.sizeOf27 rfl ⟨_, .head⟩ rfl) ?_
  refine AOps.buildSliceFF (rows := [[_], [_]]) ps24_2 rfl rfl rfl rfl rfl ?_
  refine AOps.val (Gv.build (cps := [(0, [_]), (1, [_]), (2, [_])]) (rs := [_, _, _, .int .i64 0]) pl67 rfl rfl rfl) ?_
  refine AOps.callP (Inst_spec livesF livesX (by decide) (by decide) (fun h => by cases h) hT) rfl ?_
  refine AOps.val (Gv.eqlT rfl rfl) ?_
  refine AOps.val (Gv.assign (v := .bool _) rfl) ?_
  refine AOps.nil ?_
  refine AWP.ret ?_
  repeat (first | refine aseqQ_ret ?_ | refine ablockQ_ret ?_)
  refine afin.t1 (x := .bool _) rfl ?_
  rw [livesLine]; rfl
theorem lawShaped_spec (f : PFunc) (hf : okFunc f) (hn : okNames f) (hL : Letters E) : AFun Tryz.prog E 8 [.agg (encF f)] (.bool (decide (ShapedP f))) := by
  refine ACall.intro Tryz.func8 rfl (by decide) rfl ?_
  refine AWP.seq ?_
  refine AWP.region rfl ?_
  refine AOps.boxF (cs := _) rfl rfl rfl ?_
  refine AOps.val (Gv.assign (v := .bool _) rfl) ?_
  refine AOps.nil ?_
  refine AWP.seq ?_
  refine AWP.region rfl ?_
  refine AOps.val (Gv.loadWF Tryz.isAgg27 Tryz.sizeOf27 rfl rfl) ?_
  refine AOps.callP (refShaped_spec _ (by assumption) (by assumption) hL) rfl ?_
  refine AOps.val (Gv.assign (v := .bool _) rfl) ?_
  refine AOps.nil ?_
  refine AWP.ret ?_
  repeat (first | refine aseqQ_ret ?_ | refine ablockQ_ret ?_)
  refine afin.t1 (x := .bool _) rfl ?_
  rfl
theorem Left.none : ∀ O : OL, Left O []
  | [] => .refl _
  | _ :: O => let ⟨_, h, e⟩ := Left.none O; ⟨_, .drop h, e⟩
theorem few_ex (f : PFunc) (hf : wFunc f) : ACall Tryz.prog E 11 [.agg (encF f)] [] (fun x O' => ∃ b : Bool, x = .bool b ∧ O' = [] ∧ (b = true → little f)) :=
  ((few_spec f hf).mono fun x O' ⟨b, e, h⟩ => ⟨b, e, Left.none O', h⟩ : ACall Tryz.prog E 11 [.agg (encF f)] [] (fun x O' => ∃ b : Bool, x = .bool b ∧ Left O' [] ∧ (b = true → little f))).exact
end Go.Proofs.YtdkhlgiohpdihaaGreatDoor
namespace Go.Proofs.YtdkhlgiohpdihaaGreatDoor
open Go.Proofs Go.Lib Go.Shelf Go.RowKit Go.WideShapes
set_option maxRecDepth 20000
variable {W : World}
theorem decI : Dec Tryz.prog W 3 encI (fun x => (Lit.int .i64 x).wf = true) := Dec.int Tryz.underlying3
theorem decIs : Dec Tryz.prog W 24 (fun l : List Int => [.fro 1 (l.map encI)]) wL := fun en held fuel cs x h => by
  obtain ⟨l, hl, r⟩ := Dec.slice (k := 1) Tryz.underlying24 decI (by kernel_rfl) (by decide) en held fuel cs x h
  exact ⟨l, hl.2, r⟩
theorem decVar : Dec Tryz.prog W 38 encVar (fun _ => True) := fun en held fuel cs x h => by
  obtain ⟨xs, n, _, _, hl, hxl, hf⟩ := DataW.trod_struct Tryz.underlying38 h
  have hl : cs.length = 2 := hl.trans (by kernel_rfl)
  have hxl : xs.length = 2 := hxl
  obtain ⟨a, _, ra⟩ := Dec.at (o := 0) (k := 1) (hf 0 _ rfl) (Dec.str Tryz.underlying9) (by omega) rfl (by kernel_rfl)
  obtain ⟨b, _, rb⟩ := Dec.at (o := 1) (k := 1) (hf 1 _ rfl) (Dec.int Tryz.underlying36) (by omega) rfl (by kernel_rfl)
  exact ⟨⟨a, b⟩, trivial, RepL.fld (o := 0) ra (RepL.fld rb (RepL.fin hl))⟩
theorem decPhi : Dec Tryz.prog W 64 encPhi wPhi := fun en held fuel cs x h => by
  obtain ⟨xs, n, _, _, hl, hxl, hf⟩ := DataW.trod_struct Tryz.underlying64 h
  have hl : cs.length = 3 := hl.trans (by kernel_rfl)
  have hxl : xs.length = 3 := hxl
  obtain ⟨a, _, ra⟩ := Dec.at (o := 0) (k := 1) (hf 0 _ rfl) decI (by omega) rfl (by kernel_rfl)
  obtain ⟨b, hb, rb⟩ := Dec.at (o := 1) (k := 1) (hf 1 _ rfl) decIs (by omega) rfl (by kernel_rfl)
  obtain ⟨c, hc, rc⟩ := Dec.at (o := 2) (k := 1) (hf 2 _ rfl) decIs (by omega) rfl (by kernel_rfl)
  exact ⟨⟨a, b, c⟩, ⟨hb, hc⟩, RepL.fld (o := 0) ra (RepL.fld rb (RepL.fld rc (RepL.fin hl)))⟩
def wInst (x : PInst) : Prop := wL x.args ∧ (Lit.int .i64 x.num).wf = true
theorem decInst : Dec Tryz.prog W 67 encInst wInst := fun en held fuel cs x h => by
  obtain ⟨xs, n, _, _, hl, hxl, hf⟩ := DataW.trod_struct Tryz.underlying67 h
  have hl : cs.length = 4 := hl.trans (by kernel_rfl)
  have hxl : xs.length = 4 := hxl
  obtain ⟨a, _, ra⟩ := Dec.at (o := 0) (k := 1) (hf 0 _ rfl) (Dec.int Tryz.underlying65) (by omega) rfl (by kernel_rfl)
  obtain ⟨b, _, rb⟩ := Dec.at (o := 1) (k := 1) (hf 1 _ rfl) decI (by omega) rfl (by kernel_rfl)
  obtain ⟨c, hc, rc⟩ := Dec.at (o := 2) (k := 1) (hf 2 _ rfl) decIs (by omega) rfl (by kernel_rfl)
  obtain ⟨d, hd, rd⟩ := Dec.at (o := 3) (k := 1) (hf 3 _ rfl) (Dec.int Tryz.underlying2) (by omega) rfl (by kernel_rfl)
  exact ⟨⟨a, b, c, d⟩, ⟨hc, hd⟩, RepL.fld (o := 0) ra (RepL.fld rb (RepL.fld rc (RepL.fld rd (RepL.fin hl))))⟩
theorem decTerm : Dec Tryz.prog W 46 encTerm (fun _ => True) := fun en held fuel cs x h => by
  obtain ⟨xs, n, _, _, hl, hxl, hf⟩ := DataW.trod_struct Tryz.underlying46 h
  have hl : cs.length = 4 := hl.trans (by kernel_rfl)
  have hxl : xs.length = 3 := hxl
  obtain ⟨a, _, ra⟩ := Dec.at (o := 0) (k := 1) (hf 0 _ rfl) (Dec.int Tryz.underlying43) (by omega) rfl (by kernel_rfl)
  obtain ⟨b, _, rb⟩ := Dec.at (o := 1) (k := 1) (hf 1 _ rfl) decI (by omega) rfl (by kernel_rfl)
  obtain ⟨c, _, rc⟩ := Dec.at (o := 2) (k := 2) (hf 2 _ rfl) (Dec.pair (k := 1) Tryz.underlying44 decI (by kernel_rfl) (by kernel_rfl)) (by omega) rfl (by kernel_rfl)
  exact ⟨⟨a, b, c.1, c.2⟩, trivial, RepL.fld (o := 0) ra (RepL.fld rb (RepL.fld rc (RepL.fin hl)))⟩
theorem of_struct {H : Type} {enc : TypeId × Value → H} {held : Bool} {α : Type} {T : TypeId} {e : α → List AV} {ok : α → Prop} {fs : Array Field} {base : Nat} {v : Value} {d : DataW H} {p : List MemPlace} (hd : Dec Tryz.prog W T e ok) (ht : Tryz.prog.underlying T = some (.struct fs))
    (hv : Value.okWide Tryz.prog W .any base T v) (h : DataW.Trod enc Tryz.prog W 0 (fun _ => true) held T v d p) : ∃ a, ok a ∧ RepV (I0 W) (.agg (e a)) v := by
  obtain ⟨cs, rfl, _⟩ := okWide_struct ht hv
  obtain ⟨fuel, h⟩ := h
  obtain ⟨a, h1, h2⟩ := hd enc held fuel _ _ h
  exact ⟨a, h1, cs.toList, by simp, h2⟩
theorem xTab : RExtra Tryz.prog Tryz.lays200_ren := ⟨by kernel_rfl, by kernel_rfl, by kernel_rfl, by kernel_rfl, by kernel_rfl, by kernel_rfl, by kernel_rfl, by kernel_rfl⟩
theorem pows_of (h : Lib.VarReads Tryz.prog W "internal/strconv.uint64pow10" (Lib.tabData .u64 Lib.pow10Tab)) : Pows W :=
  tabIs_of_reads (g := 4) (by kernel_rfl) (by kernel_rfl) Tryz.underlying205 Tryz.underlying155 (by kernel_rfl) (by kernel_rfl) h
theorem letters_of (h : Lib.VarReads Tryz.prog W "unicode.properties" (Lib.tabData .u8 Lib.propertiesTab)) (h2 : Lib.VarReads Tryz.prog W "unicode.Letter" (Lib.rtabData letterT)) : Letters W :=
  ⟨tabIs_of_reads (g := 2) (by kernel_rfl) (by kernel_rfl) Tryz.underlying165 Tryz.underlying5 (by kernel_rfl) (by kernel_rfl) h,
   rvar_of_reads { Tryz.lays200 with } xTab (name := "unicode.Letter") (g := 3) (by kernel_rfl) (by kernel_rfl) h2⟩
end Go.Proofs.YtdkhlgiohpdihaaGreatDoor
namespace Go.Proofs.YtdkhlgiohpdihaaGreatDoor
open Go.Proofs Go.Lib Go.Shelf Go.RowKit
set_option maxRecDepth 20000
variable {E : World}
end Go.Proofs.YtdkhlgiohpdihaaGreatDoor
namespace Go.Proofs.YtdkhlgiohpdihaaGreatDoor
open Go.Proofs Go.Lib Go.Shelf Go.RowKit
set_option maxRecDepth 20000
variable {E : World}
theorem tok_of {f : PFunc} (hl : little f) : TOk f := by
  obtain ⟨h1, h2, h3, h4, h5, _⟩ := hl
  refine ⟨by omega, by omega, fun v hv => by have := h4 v hv; omega, fun b hb => by have := (h5 b hb).1; omega, fun b hb => ?_⟩
  obtain ⟨g1, g2, g3, g4, g5⟩ := h5 b hb
  exact ⟨by omega, by omega, fun p hp => by have := g4 p hp; omega⟩
end Go.Proofs.YtdkhlgiohpdihaaGreatDoor
namespace Go.Proofs.YtdkhlgiohpdihaaGreatDoor
open Go.Proofs Go.Lib Go.Shelf Go.RowKit
set_option maxRecDepth 20000
variable {E : World}
theorem text_own (f : PFunc) (hS : ShapedP f) (hT : TOk f) (hN : NumsOk f) (hsm : small f) (hP : Pows E) (hL : Letters E) :
    ACall Tryz.prog E 15 [.agg (encF f)] [] (fun x O => ∃ _ : Unit, x = .tup [.str (capT (textF f)), .int .i64 (capE (textF f))] ∧ O = [] ∧ True) :=
  ACall.exact (x := fun _ : Unit => .tup [.str (capT (textF f)), .int .i64 (capE (textF f))]) (M := fun _ => []) (p := fun _ => True) (text_good f hS hT hN hsm hP hL)
theorem printTells_spec (f : PFunc) (hw : wFunc f) (hN : NumsOk f) (hL : Letters E) (hT : Pows E) (hV : Vars0 E) :
    AFun Tryz.prog E 5 [.agg (encF f)] (.bool true) := by
  refine ACall.intro Tryz.func5 rfl (by decide) rfl ?_
  refine AWP.seq ?_
  refine AWP.region rfl ?_
  refine AOps.boxF (cs := _) rfl rfl rfl ?_
  refine AOps.val (Gv.assign (v := .bool _) rfl) ?_
  refine AOps.nil ?_
  refine AWP.seq ?_
  refine AWP.seq ?_
  refine AWP.region rfl ?_
  refine AOps.callP (lives_spec hT) rfl ?_
  refine AOps.val (Gv.not rfl) ?_
  refine AOps.val (Gv.move (v := .bool _) rfl) ?_
  refine AOps.guardT rfl rfl rfl ?_
  refine AOps.val (Gv.loadWF Tryz.isAgg27 Tryz.sizeOf27 rfl rfl) ?_
  refine AOps.guardT rfl rfl rfl ?_
  refine AOps.callA rfl (Part.perm (.rest _)) (few_ex f hw) ?_
  rintro r12 O12 ⟨b, rfl, rfl, hb⟩
  cases b
  · skip
    refine AOps.guardT rfl rfl rfl ?_
    refine AOps.val (Gv.not rfl) ?_
    refine AOps.val (Gv.pickF (v := .bool _) rfl rfl rfl) ?_
    refine AOps.nil ?_
    refine AWP.condT rfl rfl ?_
    refine AWP.seq ?_
    refine AWP.region rfl ?_
    refine AOps.callP (lives_spec hT) rfl ?_
    refine AOps.val (Gv.assign (v := .bool _) rfl) ?_
    refine AOps.nil ?_
    refine AWP.ret ?_
    repeat (first | refine aseqQ_ret ?_ | refine ablockQ_ret ?_)
    refine afin.t1 (x := .bool _) rfl ?_
    rfl
  · skip
    have hlit := hb rfl
    have hsm := hlit.small
    have hfo := hsm.ok
    have hn := hsm.names
    obtain ⟨s1, s2, s3, _, _⟩ := id hsm
    refine AOps.guardT rfl rfl rfl ?_
    refine AOps.val (Gv.not rfl) ?_
    refine AOps.val (Gv.pickF (v := .bool _) rfl rfl rfl) ?_
    have hsp := Shaped_spec (E := E) f hfo (by omega) (by omega) (by omega) hn hL
    rw [shapedB_eq] at hsp
    by_cases hS : ShapedP f
    · skip
      rw [decide_eq_true hS] at hsp
      have hls := lawShaped_spec (E := E) f hfo hn hL
      rw [decide_eq_true hS] at hls
      refine AOps.nil ?_
      refine AWP.condF rfl rfl ?_
      refine AWP.skip ?_
      refine AWP.seq ?_
      refine AWP.region rfl ?_
      refine AOps.val (Gv.loadWF Tryz.isAgg27 Tryz.sizeOf27 rfl rfl) ?_
      refine AOps.callA rfl (Part.perm (.rest _)) (text_own f hS (tok_of hlit) hN hsm hT hL) ?_
      rintro r18 O18 ⟨_, rfl, rfl, _⟩
      refine AOps.val (Gv.move (v := .tup _) rfl) ?_
      refine AOps.val (Gv.extract (v := .str _) rfl rfl) ?_
      refine AOps.val (Gv.extract (v := .int _ _) rfl rfl) ?_
      refine AOps.val (Gv.assign (v := .str _) rfl) ?_
      refine AOps.val (Gv.assign (v := .int _ _) rfl) ?_
      refine AOps.nil ?_
      refine AWP.seq ?_
      refine AWP.seq ?_
      refine AWP.regionDraw (fun j => false) (by kernel_rfl) rfl (Part.perm (.rest _)) ?_
      refine AAny.take (i := 0) rfl (by kernel_rfl) (by kernel_rfl) (by kernel_rfl) (by kernel_rfl) (by kernel_rfl) (by kernel_rfl) (Gv.loadWF Tryz.isAgg27 Tryz.sizeOf27 rfl rfl) ?_
      refine AAny.take (i := 2) rfl (by kernel_rfl) (by kernel_rfl) (by kernel_rfl) (by kernel_rfl) (by kernel_rfl) (by kernel_rfl) (Gv.loadWF Tryz.isAgg27 Tryz.sizeOf27 rfl rfl) ?_
      refine AAny.one (i := 1) rfl (by kernel_rfl) ?_
      refine AOps.callP (hsp) rfl ?_
      refine AOps.nil ?_
      refine AAny.one (i := 3) rfl (by kernel_rfl) ?_
      refine AOps.callP (hls) rfl ?_
      refine AOps.nil ?_
      refine AAny.take (i := 4) rfl (by kernel_rfl) (by kernel_rfl) (by kernel_rfl) (by kernel_rfl) (by kernel_rfl) (by kernel_rfl) (Gv.neqB Tryz.underlying4 rfl rfl) ?_
      refine AAny.done (by kernel_rfl) ?_
      refine AWP.condF rfl rfl ?_
      refine AWP.skip ?_
      refine AWP.seq ?_
      refine AWP.seq ?_
      refine AWP.region rfl ?_
      refine AOps.val (Gv.loadWF Tryz.isAgg27 Tryz.sizeOf27 rfl rfl) ?_
      refine AOps.callP (hls) rfl ?_
      refine AOps.val (Gv.not rfl) ?_
      refine AOps.nil ?_
      refine AWP.condF rfl rfl ?_
      refine AWP.skip ?_
      refine AWP.seq ?_
      refine AWP.region rfl ?_
      refine AOps.val (Gv.loadWF Tryz.isAgg27 Tryz.sizeOf27 rfl rfl) ?_
      refine AOps.callA rfl (Part.perm (.rest _)) (refText_own f hS (tok_of hlit) hN) ?_
      rintro r36 O36 ⟨_, rfl, rfl, hsz⟩
      refine AOps.val (Gv.assign (v := .str _) rfl) ?_
      refine AOps.nil ?_
      refine AWP.seq ?_
      refine AWP.seq ?_
      refine AWP.region rfl ?_
      refine AOps.val (Gv.move (v := .str _) rfl) ?_
      refine AOps.val (Gv.lenT Tryz.underlying9 rfl) ?_
      refine AOps.val (Gv.gtr rfl rfl) ?_
      refine AOps.nil ?_
      refine AWP.condP rfl (fun cb => ?_) (fun cb => ?_)
      · skip
        have hbig : 16384 < (textF f).size := by omega
        have e1 : capE (textF f) = 4 := by unfold capE; rw [if_pos hbig]
        have e2 : capT (textF f) = ⟨#[]⟩ := by unfold capT; rw [if_pos hbig]
        refine AWP.seq ?_
        refine AWP.region rfl ?_
        refine AOps.val (Gv.move (v := .int _ _) rfl) ?_
        refine AOps.val (Gv.eqlI rfl rfl) ?_
        refine AOps.val (Gv.move (v := .bool _) rfl) ?_
        refine AOps.guardT rfl rfl (by simp [e1]) ?_
        refine AOps.val (Gv.move (v := .str _) rfl) ?_
        refine AOps.guardT rfl rfl (by simp [e1]) ?_
        refine AOps.val (Gv.eqlT rfl rfl) ?_
        refine AOps.val (Gv.pickT (v := .bool _) rfl (by simp [e1]) rfl) ?_
        refine AOps.val (Gv.assign (v := .bool _) rfl) ?_
        refine AOps.nil ?_
        refine AWP.ret ?_
        repeat (first | refine aseqQ_ret ?_ | refine ablockQ_ret ?_)
        refine afin.t1 (x := .bool _) rfl ?_
        exact jb (by rw [e2]; rfl)
      · skip
        have hno : ¬ 16384 < (textF f).size := by omega
        have e1 : capE (textF f) = 0 := by unfold capE; rw [if_neg hno]
        have e2 : capT (textF f) = textF f := by unfold capT; rw [if_neg hno]
        have hz := zparse_spec (E := E) (textF f) (by omega) hL hT hV
        rw [parse_text hS hN, if_neg hno] at hz
        dsimp only [Option.getD] at hz
        rw [e1, e2]
        refine AWP.skip ?_
        refine AWP.seq ?_
        refine AWP.region rfl ?_
        refine AOps.val (Gv.move (v := .str _) rfl) ?_
        refine AOps.callP (hz) rfl ?_
        refine AOps.val (Gv.move (v := .tup _) rfl) ?_
        refine AOps.val (Gv.extract (v := .agg _) rfl rfl) ?_
        refine AOps.val (Gv.extract (v := .int _ _) rfl rfl) ?_
        refine AOps.alloc (cs := [.raw (.slice none 0 0), .raw (.slice none 0 0), .raw (.slice none 0 0)]) Tryz.zeroValue27 rfl rfl ?_
        intro i6
        refine AOps.storeW Tryz.sizeOf27 rfl rfl rfl rfl rfl rfl .head rfl ?_
        refine AOps.val (Gv.assign (v := .int _ _) rfl) ?_
        refine AOps.nil ?_
        refine AWP.seq ?_
        refine AWP.region rfl ?_
        refine AOps.val (Gv.move (v := .int _ _) rfl) ?_
        refine AOps.val (Gv.eqlI rfl rfl) ?_
        refine AOps.val (Gv.move (v := .bool _) rfl) ?_
        refine AOps.guardT rfl rfl rfl ?_
        refine AOps.val (Gv.move (v := .str _) rfl) ?_
        refine AOps.guardT rfl rfl rfl ?_
        refine AOps.val (Gv.move (v := .str _) rfl) ?_
        refine AOps.guardT rfl rfl rfl ?_
        refine AOps.val (Gv.eqlT rfl rfl) ?_
        refine AOps.val (Gv.pickT (v := .bool _) rfl rfl rfl) ?_
        refine AOps.val (Gv.move (v := .bool _) rfl) ?_
        refine AOps.guardT rfl rfl (by simp) ?_
        refine AOps.val (Gv.move (v := .int _ _) rfl) ?_
        refine AOps.guardT rfl rfl (by simp) ?_
        refine AOps.val (Gv.eqlI rfl rfl) ?_
        refine AOps.val (Gv.pickT (v := .bool _) rfl (by simp) rfl) ?_
        refine AOps.val (Gv.move (v := .bool _) rfl) ?_
        refine AOps.guardT rfl rfl rfl ?_
        refine AOps.val (Gv.loadWF Tryz.isAgg27 Tryz.sizeOf27 rfl rfl) ?_
        refine AOps.guardT rfl rfl rfl ?_
        refine AOps.val (Gv.loadWC Tryz.isAgg27 Tryz.sizeOf27 rfl ⟨_, .head⟩ rfl) ?_
        refine AOps.guardT rfl rfl rfl ?_
        refine AOps.callP (refSame_spec f f hfo) rfl ?_
        refine AOps.val (Gv.pickT (v := .bool _) rfl rfl rfl) ?_
        refine AOps.val (Gv.assign (v := .bool _) rfl) ?_
        refine AOps.nil ?_
        refine AWP.ret ?_
        repeat (first | refine aseqQ_ret ?_ | refine ablockQ_ret ?_)
        refine afin.t1 (x := .bool _) rfl ?_
        exact jb (by simp)
    · skip
      have hsb : shapedB f = false := by rw [shapedB_eq]; exact decide_eq_false hS
      rw [decide_eq_false hS] at hsp
      have hls := lawShaped_spec (E := E) f hfo hn hL
      rw [decide_eq_false hS] at hls
      refine AOps.nil ?_
      refine AWP.condF rfl rfl ?_
      refine AWP.skip ?_
      refine AWP.seq ?_
      refine AWP.region rfl ?_
      refine AOps.val (Gv.loadWF Tryz.isAgg27 Tryz.sizeOf27 rfl rfl) ?_
      refine AOps.callP (text_bad f hfo hsm hsb hL) rfl ?_
      refine AOps.val (Gv.move (v := .tup _) rfl) ?_
      refine AOps.val (Gv.extract (v := .str _) rfl rfl) ?_
      refine AOps.val (Gv.extract (v := .int _ _) rfl rfl) ?_
      refine AOps.val (Gv.assign (v := .str _) rfl) ?_
      refine AOps.val (Gv.assign (v := .int _ _) rfl) ?_
      refine AOps.nil ?_
      refine AWP.seq ?_
      refine AWP.seq ?_
      refine AWP.regionDraw (fun j => false) (by kernel_rfl) rfl (Part.perm (.rest _)) ?_
      refine AAny.take (i := 0) rfl (by kernel_rfl) (by kernel_rfl) (by kernel_rfl) (by kernel_rfl) (by kernel_rfl) (by kernel_rfl) (Gv.loadWF Tryz.isAgg27 Tryz.sizeOf27 rfl rfl) ?_
      refine AAny.take (i := 2) rfl (by kernel_rfl) (by kernel_rfl) (by kernel_rfl) (by kernel_rfl) (by kernel_rfl) (by kernel_rfl) (Gv.loadWF Tryz.isAgg27 Tryz.sizeOf27 rfl rfl) ?_
      refine AAny.one (i := 1) rfl (by kernel_rfl) ?_
      refine AOps.callP (hsp) rfl ?_
      refine AOps.nil ?_
      refine AAny.one (i := 3) rfl (by kernel_rfl) ?_
      refine AOps.callP (hls) rfl ?_
      refine AOps.nil ?_
      refine AAny.take (i := 4) rfl (by kernel_rfl) (by kernel_rfl) (by kernel_rfl) (by kernel_rfl) (by kernel_rfl) (by kernel_rfl) (Gv.neqB Tryz.underlying4 rfl rfl) ?_
      refine AAny.done (by kernel_rfl) ?_
      refine AWP.condF rfl rfl ?_
      refine AWP.skip ?_
      refine AWP.seq ?_
      refine AWP.seq ?_
      refine AWP.region rfl ?_
      refine AOps.val (Gv.loadWF Tryz.isAgg27 Tryz.sizeOf27 rfl rfl) ?_
      refine AOps.callP (hls) rfl ?_
      refine AOps.val (Gv.not rfl) ?_
      refine AOps.nil ?_
      refine AWP.condT rfl rfl ?_
      refine AWP.seq ?_
      refine AWP.region rfl ?_
      refine AOps.val (Gv.move (v := .int _ _) rfl) ?_
      refine AOps.val (Gv.eqlI rfl rfl) ?_
      refine AOps.val (Gv.move (v := .bool _) rfl) ?_
      refine AOps.guardT rfl rfl rfl ?_
      refine AOps.val (Gv.move (v := .str _) rfl) ?_
      refine AOps.guardT rfl rfl rfl ?_
      refine AOps.val (Gv.eqlT rfl rfl) ?_
      refine AOps.val (Gv.pickT (v := .bool _) rfl rfl rfl) ?_
      refine AOps.val (Gv.assign (v := .bool _) rfl) ?_
      refine AOps.nil ?_
      refine AWP.ret ?_
      repeat (first | refine aseqQ_ret ?_ | refine ablockQ_ret ?_)
      refine afin.t1 (x := .bool _) rfl ?_
      rfl
end Go.Proofs.YtdkhlgiohpdihaaGreatDoor
namespace Go.Proofs.YtdkhlgiohpdihaaGreatDoor
open Go.Proofs Go.Lib Go.Shelf Go.RowKit Go.WideShapes
set_option maxRecDepth 20000
variable {W : World}
def wBlkN (b : PBlock) : Prop := wBlk b ∧ ∀ x ∈ b.insts, -9223372036854775808 ≤ x.num ∧ x.num ≤ 9223372036854775807
theorem decBlkN : Dec Tryz.prog W 48 encBlk wBlkN := fun en held fuel cs x h => by
  obtain ⟨xs, n, _, _, hl, hxl, hf⟩ := DataW.trod_struct Tryz.underlying48 h
  have hl : cs.length = 7 := hl.trans (by kernel_rfl)
  have hxl : xs.length = 4 := hxl
  obtain ⟨a, _, ra⟩ := Dec.at (o := 0) (k := 1) (hf 0 _ rfl) (Dec.str Tryz.underlying9) (by omega) rfl (by kernel_rfl)
  obtain ⟨b, hb, rb⟩ := Dec.at (o := 1) (k := 1) (hf 1 _ rfl) (Dec.slice (k := 3) Tryz.underlying41 decPhi (by kernel_rfl) (by decide)) (by omega) rfl (by kernel_rfl)
  obtain ⟨c, hc, rc⟩ := Dec.at (o := 2) (k := 1) (hf 2 _ rfl) (Dec.slice (k := 4) Tryz.underlying42 decInst (by kernel_rfl) (by decide)) (by omega) rfl (by kernel_rfl)
  obtain ⟨d, _, rd⟩ := Dec.at (o := 3) (k := 4) (hf 3 _ rfl) decTerm (by omega) rfl (by kernel_rfl)
  exact ⟨⟨a, b, c, d⟩, ⟨⟨hb.2, hc.2, hb.1, fun x hx => (hc.1 x hx).1⟩, fun x hx => by simpa [Lit.wf, IntKind.min, IntKind.max, IntKind.signed, IntKind.bits] using (hc.1 x hx).2⟩, RepL.fld (o := 0) ra (RepL.fld rb (RepL.fld rc (RepL.fld rd (RepL.fin hl))))⟩
theorem decFN : Dec Tryz.prog W 27 encF (fun f => wFunc f ∧ NumsOk f) := fun en held fuel cs x h => by
  obtain ⟨xs, n, _, _, hl, hxl, hf⟩ := DataW.trod_struct Tryz.underlying27 h
  have hl : cs.length = 3 := hl.trans (by kernel_rfl)
  have hxl : xs.length = 3 := hxl
  obtain ⟨a, ha, ra⟩ := Dec.at (o := 0) (k := 1) (hf 0 _ rfl) (Dec.slice (k := 2) Tryz.underlying23 decVar (by kernel_rfl) (by decide)) (by omega) rfl (by kernel_rfl)
  obtain ⟨b, hb, rb⟩ := Dec.at (o := 1) (k := 1) (hf 1 _ rfl) decIs (by omega) rfl (by kernel_rfl)
  obtain ⟨c, hc, rc⟩ := Dec.at (o := 2) (k := 1) (hf 2 _ rfl) (Dec.slice (k := 7) Tryz.underlying25 decBlkN (by kernel_rfl) (by decide)) (by omega) rfl (by kernel_rfl)
  exact ⟨⟨a, b, c⟩, ⟨⟨ha.2, hb, hc.2, fun x hx => (hc.1 x hx).1⟩, fun x hx => (hc.1 x hx).2⟩, RepL.fld (o := 0) ra (RepL.fld rb (RepL.fld rc (RepL.fin hl)))⟩
theorem len_of (h : W.ShapedOpen Tryz.prog) : ∃ m, W.cell? ⟨5, 0, none⟩ = some (.int .i64 m) :=
  cell_of_shapedOpen_int (P := Tryz.prog) (g := 5) (t := 3) (zero := #[.int .i64 0]) h (of_decide_eq_true (by kernel_rfl)) (by kernel_rfl) rfl (by kernel_rfl) (by kernel_rfl) Tryz.underlying3
theorem star_text : "*" ++ "errors.errorString" = "*errors.errorString" := by decide
theorem star_row (u : TypeId) (h : Tryz.prog.typeName? 3 u = some "*errors.errorString") : u = 238 :=
  typeName_ptr_named (nm := "errors.errorString") (by rw [star_text]; kernel_rfl) (by kernel_rfl) (by decide) u (by rw [star_text]; exact h)
theorem syn_of {text : List UInt8} {r : List (String × DataW Unit)} (h : laidMet Tryz.prog (("strconv.ErrSyntax", .iface "*errors.errorString" (.ptr (.agg [.lit (.string text)]))) :: r) W) : ∃ t p, W.cell? ⟨8, 0, none⟩ = some (.iface t p) := by
  obtain ⟨a1, t1, hv1, _⟩ := laid_sentinel (g := 8) h (by kernel_rfl) (by kernel_rfl) Tryz.underlying79 star_row Tryz.underlying238 Tryz.underlying240 rfl rfl Tryz.underlying9 (by kernel_rfl) (by kernel_rfl)
  exact ⟨_, _, World.var?_cell (g := 8) (by kernel_rfl) hv1 0⟩
theorem ran_of {text : List UInt8} {r : List (String × DataW Unit)} (h : laidMet Tryz.prog (("strconv.ErrRange", .iface "*errors.errorString" (.ptr (.agg [.lit (.string text)]))) :: r) W) : ∃ t p, W.cell? ⟨9, 0, none⟩ = some (.iface t p) := by
  obtain ⟨a1, t1, hv1, _⟩ := laid_sentinel (g := 9) h (by kernel_rfl) (by kernel_rfl) Tryz.underlying79 star_row Tryz.underlying238 Tryz.underlying240 rfl rfl Tryz.underlying9 (by kernel_rfl) (by kernel_rfl)
  exact ⟨_, _, World.var?_cell (g := 9) (by kernel_rfl) hv1 0⟩
theorem tabs_of (h1 : Lib.VarReads Tryz.prog W "unicode/utf8.first" Lib.firstData) (h2 : Lib.VarReads Tryz.prog W "unicode/utf8.acceptRanges" Lib.acceptData) : Lib.Utf8Tabs 0 1 W :=
  utf8Tabs_of_reads (ρ := Tryz.lays260_ren) { Tryz.lays260 with } ⟨by kernel_rfl, by kernel_rfl, by kernel_rfl, by kernel_rfl, by kernel_rfl, by kernel_rfl, by kernel_rfl⟩ h1 h2
theorem wrap_of {H : Type} {enc : TypeId × Value → H} {os : Os} {f : FuncId} {fn : Func} {s : ChangeSpec} {X : World → Array Value → Prop}
    (hX : ∀ (w w' : World) (args : Array Value), w.heap = w'.heap → X w args → X w' args)
    (own : ownKnob Tryz.prog.godebug = none) (started : os.Started) (noInit : Tryz.prog.inits.idxOf? f = none) (hfn : Tryz.prog.funcs[f]? = some fn)
    (witness : ∃ (w : World) (tape : Tape) (i : Input), w.os = os ∧ (w.forCall tape i).Shaped Tryz.checked.prog ∧ i.vars = [] ∧ Input.okWide Tryz.checked.prog (w.forCall tape i) .any w.heap.size f i ∧
      ((s.pre enc Tryz.checked.prog fn [] false (w.forCall tape i).memory i.args ∧ X (w.forCall tape i).memory i.args) ∧ sizedMet enc Tryz.checked.prog fn (OpenSpec.ofChange s) false (w.forCall tape i).memory i.args) ∧ ({} : Assume).holds Tryz.checked.prog (lone (Frame.enter Tryz.checked.prog f i.args .normal) [] (w.forCall tape i)))
    (contract : ∀ (W : World) (base : Nat) (args : Array Value) (ds gs : List (DataW H)) (before : List MemPlace),
      (∀ (j : Nat) t v, fn.params[j]? = some t → args[j]? = some v → Value.okWide Tryz.prog W .any base t v) →
      DataW.Whole enc Tryz.prog fn.params.toList s.vars false W args.toList ds gs before → X W args → W.ShapedOpen Tryz.prog →
      Calls Tryz.prog f args W fun e W' => ∃ v, e = .returned v ∧ s.post enc Tryz.prog fn false true false false W args v W') :
    ReturnsInHanded {} Tryz.checked os f .any (fun w args => (s.pre enc Tryz.prog fn [] false w args ∧ X w args) ∧ sizedMet enc Tryz.prog fn (OpenSpec.ofChange s) false w args) (s.post enc Tryz.prog fn false true false false) := by
  refine returnsInHanded_of_calls own started noInit witness fun w tape i _ hsh _ hok hpre _ => ?_
  obtain ⟨_, _, _, fn', hfn', _, _, _, _, hval⟩ := hok
  have e : fn' = fn := Option.some.inj (hfn'.symm.trans hfn)
  rw [e] at hval
  obtain ⟨⟨⟨ds, gs, before, hw, _⟩, hx⟩, _⟩ := hpre
  exact (contract _ _ i.args ds gs before hval (DataW.Whole.of_heap (w' := w.forCall tape i) (by rfl) hw) (hX _ _ _ (by rfl) hx) hsh).mono fun e W' ⟨v, he, hp⟩ => by rw [he]; exact ChangeSpec.post_blind hp
end Go.Proofs.YtdkhlgiohpdihaaGreatDoor
