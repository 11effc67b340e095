/- strings.Builder: what is written is put behind what was; a line. No conditions but bounds. -/
import Derived.Test.YtdkhlgiohpdihaaGreatDoorZl
import Derived.Shelf.Strings.Builder1
set_option linter.unusedVariables false
set_option linter.unusedSimpArgs false
set_option linter.unusedSectionVars false
namespace Go.Proofs.YtdkhlgiohpdihaaGreatDoor
open Go.Proofs Go.Lib Go.Shelf Go.RowKit
theorem ps62_3 : PlacesS Tryz.prog 62 9 3 1 [.str ⟨#[]⟩, .str ⟨#[]⟩, .str ⟨#[]⟩] := ⟨_, Tryz.underlying62, Tryz.sizeOf9, Tryz.zeroValue9, by decide, by decide, by kernel_rfl⟩
set_option maxRecDepth 20000
variable {E : World}
theorem lit_size (a : Array UInt8) : (⟨a⟩ : ByteArray).size = a.size := rfl
theorem unB_app : ∀ (ls : List (List ByteArray)) (l : List ByteArray), unB (ls ++ [l]) = unB ls ++ (lineS l ++ nl)
  | [], l => by show (lineS l ++ nl) ++ unB [] = unB [] ++ (lineS l ++ nl); show (lineS l ++ nl) ++ ByteArray.empty = ByteArray.empty ++ _; rw [ByteArray.append_empty, ByteArray.empty_append]
  | x :: ls, l => by rw [List.cons_append, unB, unB_app ls l, unB]; simp only [ByteArray.append_assoc]
theorem lineS_snoc (w : ByteArray) (ws : List ByteArray) (a : ByteArray) : lineS ((w :: ws) ++ [a]) = (lineS (w :: ws) ++ spc) ++ a := joinS_app w ws a
theorem lineS_one (w : ByteArray) : lineS [w] = w := joinS_one w
theorem lineS_two (a b : ByteArray) : lineS [a, b] = (a ++ spc) ++ b := by rw [show [a, b] = [a] ++ [b] from rfl, lineS_snoc, lineS_one]
theorem lineS_three (a b c : ByteArray) : lineS [a, b, c] = (((a ++ spc) ++ b) ++ spc) ++ c := by rw [show [a, b, c] = [a, b] ++ [c] from rfl, lineS_snoc, lineS_two]
theorem lineS_four (a b c d : ByteArray) : lineS [a, b, c, d] = (((((a ++ spc) ++ b) ++ spc) ++ c) ++ spc) ++ d := by rw [show [a, b, c, d] = [a, b, c] ++ [d] from rfl, lineS_snoc, lineS_three]
theorem ty_row {t : Int} (h : 0 ≤ t ∧ t ≤ 2) : ([[.str ⟨#[105, 110, 116]⟩], [.str ⟨#[98, 111, 111, 108]⟩], [.str ⟨#[97, 114, 114]⟩]] : List (List AV))[t.toNat]? = some [.str (tyWord t)] := by
  have : t = 0 ∨ t = 1 ∨ t = 2 := by omega
  rcases this with rfl | rfl | rfl <;> rfl
theorem ty_size {t : Int} (h : 0 ≤ t ∧ t ≤ 2) : (tyWord t).size ≤ 4 := by
  have : t = 0 ∨ t = 1 ∨ t = 2 := by omega
  rcases this with rfl | rfl | rfl <;> decide
structure TBlk (b : PBlock) : Prop where
  phis : b.phis.length ≤ 2100
  insts : b.insts.length ≤ 2100
  args : ∀ p ∈ b.phis, p.args.length ≤ 2100 ∧ p.from_.length ≤ 2100
structure TOk (f : PFunc) : Prop where
  vars : f.vars.length ≤ 1000
  blks : f.blocks.length ≤ 100
  vn : ∀ v ∈ f.vars, v.name.size ≤ 1000
  bn : ∀ b ∈ f.blocks, b.name.size ≤ 1000
  each : ∀ b ∈ f.blocks, TBlk b
theorem inst_line_eq {f : PFunc} {x : PInst} (h : InstP f x) : refLine f x = lineS (wordsOf f x) := by
  rw [← line_eq h]; unfold instLine; rw [if_pos ((instOK_iff f x).2 h)]; rfl
theorem inter_succ : ∀ {l m : List ByteArray} {k : Nat} {a b : ByteArray}, l[k]? = some a → m[k]? = some b → inter (l.take (k + 1)) (m.take (k + 1)) = inter (l.take k) (m.take k) ++ [a, b]
  | [], _, _, _, _, h, _ => by simp at h
  | _ :: _, [], _, _, _, _, h => by simp at h
  | x :: l, y :: m, 0, a, b, h1, h2 => by
    simp at h1 h2; subst h1 h2
    simp [inter]
  | x :: l, y :: m, k + 1, a, b, h1, h2 => by
    rw [List.take_succ_cons, List.take_succ_cons, List.take_succ_cons, List.take_succ_cons, inter, inter, inter_succ (by simpa using h1) (by simpa using h2)]; rfl
def phiLk (f : PFunc) (p : PPhi) (k : Nat) : List ByteArray := vname f p.dst :: eqS :: phiS :: inter ((p.from_.map (bname f)).take k) ((p.args.map (vname f)).take k)
theorem phiLk_succ {f : PFunc} {p : PPhi} {k : Nat} (h1 : k < p.from_.length) (h2 : k < p.args.length) : lineS (phiLk f p (k + 1)) = (((lineS (phiLk f p k) ++ spc) ++ bname f p.from_[k]) ++ spc) ++ vname f p.args[k] := by
  have e1 : (p.from_.map (bname f))[k]? = some (bname f p.from_[k]) := by rw [List.getElem?_map, List.getElem?_eq_getElem h1]; rfl
  have e2 : (p.args.map (vname f))[k]? = some (vname f p.args[k]) := by rw [List.getElem?_map, List.getElem?_eq_getElem h2]; rfl
  unfold phiLk
  rw [inter_succ e1 e2]
  have : ∀ (a : ByteArray) (l : List ByteArray) (x y : ByteArray), a :: (l ++ [x, y]) = ((a :: l) ++ [x]) ++ [y] := fun a l x y => by simp
  rw [show vname f p.dst :: eqS :: phiS :: (inter ((p.from_.map (bname f)).take k) ((p.args.map (vname f)).take k) ++ [bname f p.from_[k], vname f p.args[k]]) = ((vname f p.dst :: eqS :: phiS :: inter ((p.from_.map (bname f)).take k) ((p.args.map (vname f)).take k)) ++ [bname f p.from_[k]]) ++ [vname f p.args[k]] by simp]
  rw [List.cons_append, lineS_snoc, ← List.cons_append, lineS_snoc]
def headLk (f : PFunc) (k : Nat) : List ByteArray := funcS :: (f.vars.take k).map pairW
theorem headLk_succ {f : PFunc} {k : Nat} (h : k < f.vars.length) : lineS (headLk f (k + 1)) = (((lineS (headLk f k) ++ spc) ++ f.vars[k].name) ++ colon) ++ tyWord f.vars[k].ty := by
  unfold headLk
  rw [List.take_succ_eq_append_getElem h, List.map_append, List.map_cons, List.map_nil, ← List.cons_append, lineS_snoc]
  unfold pairW
  simp only [ByteArray.append_assoc]
theorem var_line (v : PVar) : lineS (varL v) = ((((⟨#[118, 97, 114, 32]⟩ : ByteArray) ++ v.name) ++ colon) ++ tyWord v.ty) := by
  unfold varL; rw [lineS_two]; unfold pairW
  have : (⟨#[118, 97, 114, 32]⟩ : ByteArray) = varS ++ spc := by decide
  rw [this]; simp only [ByteArray.append_assoc]
theorem vname_sz {f : PFunc} (hT : TOk f) {v : Int} (h : hasV f v = true) : (vname f v).size ≤ 1000 := by
  obtain ⟨h1, _, _, h2⟩ := has_get h
  rw [h2]; exact hT.vn _ (List.getElem_mem h1)
theorem bname_sz {f : PFunc} (hT : TOk f) {v : Int} (h : hasB f v = true) : (bname f v).size ≤ 1000 := by
  obtain ⟨h1, _, _, h2⟩ := hasB_get h
  rw [h2]; exact hT.bn _ (List.getElem_mem h1)
theorem refLine_sz {f : PFunc} (hT : TOk f) {x : PInst} (hx : InstP f x) (hI : -9223372036854775808 ≤ x.num ∧ x.num ≤ 9223372036854775807) : x.args.length ≤ 3 ∧ (refLine f x).size ≤ 20000 := by
  have hF := instP_F hx
  have h3 := takesL_len x.op
  have hl := hF.len
  have hs := refArgs_size hT.vn x x.args.length (Nat.le_refl _)
  have hi := itoa_length_le x.num hI.1 hI.2
  refine ⟨by omega, ?_⟩
  unfold refLine
  split
  · rw [app_size, app_size, strL_size]
    have : spc.size = 1 := rfl
    omega
  · omega
theorem Left.none0 : ∀ O : OL, Left O []
  | [] => ⟨_, .refl _, rfl⟩
  | x :: O => let ⟨_, h1, h2⟩ := Left.none0 O; ⟨_, .drop h1, h2⟩
theorem refText_ex (f : PFunc) (hS : ShapedP f) (hT : TOk f) (hn : NumsOk f) : ACall Tryz.prog E 9 [.agg (encF f)] [] (fun x O => ∃ _ : Unit, x = .str (textF f) ∧ Left O [] ∧ (textF f).size ≤ 1000002000000) := by
  obtain ⟨hf, hu, hb, hne⟩ := shaped_ok hS
  have hpar := hS.2.1
  have hpl : f.params.length ≤ f.vars.length := by have s1 := hS.1; unfold bad1 at s1; simp at s1; omega
  have hvl := hT.vars
  have hbl := hT.blks
  refine ACall.intro Tryz.func9 rfl (by decide) rfl ?_
  refine AWP.seq ?_
  refine AWP.region rfl ?_
  refine AOps.boxF (cs := _) rfl rfl rfl ?_
  refine AOps.val (Gv.assign (v := .str _) rfl) ?_
  refine AOps.nil ?_
  refine AWP.seq ?_
  refine AWP.region rfl ?_
  refine AOps.buildSliceFF (rows := [[_], [_], [_]]) ps62_3 rfl rfl rfl rfl rfl ?_
  refine AOps.val (Gv.assign (v := .fro _ _) rfl) ?_
  refine AOps.nil ?_
  refine AWP.seq ?_
  refine AWP.region rfl ?_
  refine AOps.val (Gv.assign (v := .str _) rfl) ?_
  refine AOps.nil ?_
  refine AWP.seq ?_
  refine AWP.seq ?_
  refine AWP.region rfl ?_
  refine AOps.val (Gv.fieldF Tryz.underlying27 rfl Tryz.sizeOf24 (by decide) rfl rfl) ?_
  refine AOps.val (Gv.load1F (c := .fro _ _) Tryz.isAgg24 rfl) ?_
  refine AOps.val (Gv.lenM Tryz.underlying24 rfl) ?_
  refine AOps.val (Gv.move (v := .int _ _) rfl) ?_
  refine AOps.nil ?_
  refine AWP.block ?_
  refine AWP.loop (γ := Nat × ByteArray) [1, 3, 19] (fun g => [(20, .int .i64 g.1), (4, .str g.2)]) (fun g => []) (fun g => g.1 ≤ f.params.length ∧ g.2 = lineS (headLk f g.1) ∧ g.2.size ≤ 4 + g.1 * 1100) (fun g => f.params.length - g.1) (0, funcS) ⟨rfl, rfl, trivial⟩ ⟨_, (.refl _), rfl⟩ (⟨Nat.zero_le _, (lineS_one funcS).symm, by decide⟩) ?_
  rintro ⟨k, acc⟩ ⟨hk, hacc, hsz⟩
  try dsimp only at *
  refine AWP.seq ?_
  refine AWP.region rfl ?_
  refine AOps.val (Gv.lss rfl rfl) ?_
  refine AOps.nil ?_
  refine AWP.seq ?_
  refine AWP.condP rfl (fun ck => ?_) (fun ck => ?_)
  · skip
    have hk2 : k < f.params.length := by omega
    have hk3 : k < f.vars.length := by omega
    have hv := hf.vars _ (List.getElem_mem hk3)
    have hvs := hT.vn _ (List.getElem_mem hk3)
    have hts := ty_size hv.2
    refine AWP.skip ?_
    refine AWP.seq ?_
    refine AWP.block ?_
    refine AWP.seq ?_
    refine AWP.region rfl ?_
    refine AOps.val (Gv.move (v := .int _ _) rfl) ?_
    refine AOps.val (Gv.assign (v := .int _ _) rfl) ?_
    refine AOps.nil ?_
    refine AWP.regionDraw (fun j => false) (by kernel_rfl) rfl (Part.perm (.rest _)) ?_
    refine AAny.take (i := 0) rfl (by kernel_rfl) (by kernel_rfl) (by kernel_rfl) (by kernel_rfl) (by kernel_rfl) (by kernel_rfl) (Gv.move (v := .str _) rfl) ?_
    refine AAny.take (i := 1) rfl (by kernel_rfl) (by kernel_rfl) (by kernel_rfl) (by kernel_rfl) (by kernel_rfl) (by kernel_rfl) (Gv.addT rfl rfl (by (try simp only [app_size]); (try simp only [lit_size, List.size_toArray, List.length_cons, List.length_nil]); omega)) ?_
    refine AAny.take (i := 2) rfl (by kernel_rfl) (by kernel_rfl) (by kernel_rfl) (by kernel_rfl) (by kernel_rfl) (by kernel_rfl) (Gv.fieldF Tryz.underlying27 rfl Tryz.sizeOf23 (by decide) rfl rfl) ?_
    refine AAny.take (i := 3) rfl (by kernel_rfl) (by kernel_rfl) (by kernel_rfl) (by kernel_rfl) (by kernel_rfl) (by kernel_rfl) (Gv.load1F (c := .fro _ _) Tryz.isAgg23 rfl) ?_
    refine AAny.take (i := 4) rfl (by kernel_rfl) (by kernel_rfl) (by kernel_rfl) (by kernel_rfl) (by kernel_rfl) (by kernel_rfl) (Gv.move (v := .int _ _) rfl) ?_
    refine AAny.take (i := 5) rfl (by kernel_rfl) (by kernel_rfl) (by kernel_rfl) (by kernel_rfl) (by kernel_rfl) (by kernel_rfl) (Gv.idxM (j := k) Tryz.underlying23 Tryz.sizeOf38 rfl rfl rfl (List.getElem?_eq_getElem hk3)) ?_
    refine AAny.take (i := 6) rfl (by kernel_rfl) (by kernel_rfl) (by kernel_rfl) (by kernel_rfl) (by kernel_rfl) (by kernel_rfl) (Gv.fieldF Tryz.underlying38 rfl Tryz.sizeOf9 (by decide) rfl rfl) ?_
    refine AAny.take (i := 7) rfl (by kernel_rfl) (by kernel_rfl) (by kernel_rfl) (by kernel_rfl) (by kernel_rfl) (by kernel_rfl) (Gv.load1F (c := .str _) Tryz.isAgg9 rfl) ?_
    refine AAny.take (i := 8) rfl (by kernel_rfl) (by kernel_rfl) (by kernel_rfl) (by kernel_rfl) (by kernel_rfl) (by kernel_rfl) (Gv.addT rfl rfl (by (try simp only [app_size]); (try simp only [lit_size, List.size_toArray, List.length_cons, List.length_nil]); omega)) ?_
    refine AAny.take (i := 9) rfl (by kernel_rfl) (by kernel_rfl) (by kernel_rfl) (by kernel_rfl) (by kernel_rfl) (by kernel_rfl) (Gv.addT rfl rfl (by (try simp only [app_size]); (try simp only [lit_size, List.size_toArray, List.length_cons, List.length_nil]); omega)) ?_
    refine AAny.take (i := 10) rfl (by kernel_rfl) (by kernel_rfl) (by kernel_rfl) (by kernel_rfl) (by kernel_rfl) (by kernel_rfl) (Gv.move (v := .fro _ _) rfl) ?_
    refine AAny.take (i := 11) rfl (by kernel_rfl) (by kernel_rfl) (by kernel_rfl) (by kernel_rfl) (by kernel_rfl) (by kernel_rfl) (Gv.fieldF Tryz.underlying27 rfl Tryz.sizeOf23 (by decide) rfl rfl) ?_
    refine AAny.take (i := 12) rfl (by kernel_rfl) (by kernel_rfl) (by kernel_rfl) (by kernel_rfl) (by kernel_rfl) (by kernel_rfl) (Gv.load1F (c := .fro _ _) Tryz.isAgg23 rfl) ?_
    refine AAny.take (i := 13) rfl (by kernel_rfl) (by kernel_rfl) (by kernel_rfl) (by kernel_rfl) (by kernel_rfl) (by kernel_rfl) (Gv.move (v := .int _ _) rfl) ?_
    refine AAny.take (i := 14) rfl (by kernel_rfl) (by kernel_rfl) (by kernel_rfl) (by kernel_rfl) (by kernel_rfl) (by kernel_rfl) (Gv.idxM (j := k) Tryz.underlying23 Tryz.sizeOf38 rfl rfl rfl (List.getElem?_eq_getElem hk3)) ?_
    refine AAny.take (i := 15) rfl (by kernel_rfl) (by kernel_rfl) (by kernel_rfl) (by kernel_rfl) (by kernel_rfl) (by kernel_rfl) (Gv.fieldF Tryz.underlying38 rfl Tryz.sizeOf36 (by decide) rfl rfl) ?_
    refine AAny.take (i := 16) rfl (by kernel_rfl) (by kernel_rfl) (by kernel_rfl) (by kernel_rfl) (by kernel_rfl) (by kernel_rfl) (Gv.load1F (c := .int _ _) Tryz.isAgg36 rfl) ?_
    refine AAny.take (i := 17) rfl (by kernel_rfl) (by kernel_rfl) (by kernel_rfl) (by kernel_rfl) (by kernel_rfl) (by kernel_rfl) (Gv.idxF (j := f.vars[k].ty.toNat) Tryz.underlying62 Tryz.sizeOf9 rfl rfl (by have := hv.2.1; omega) (ty_row hv.2)) ?_
    refine AAny.take (i := 18) rfl (by kernel_rfl) (by kernel_rfl) (by kernel_rfl) (by kernel_rfl) (by kernel_rfl) (by kernel_rfl) (Gv.load1F (c := .str _) Tryz.isAgg9 rfl) ?_
    refine AAny.take (i := 19) rfl (by kernel_rfl) (by kernel_rfl) (by kernel_rfl) (by kernel_rfl) (by kernel_rfl) (by kernel_rfl) (Gv.addT rfl rfl (by (try simp only [app_size]); (try simp only [lit_size, List.size_toArray, List.length_cons, List.length_nil]); omega)) ?_
    refine AAny.take (i := 20) rfl (by kernel_rfl) (by kernel_rfl) (by kernel_rfl) (by kernel_rfl) (by kernel_rfl) (by kernel_rfl) (Gv.assign (v := .str _) rfl) ?_
    refine AAny.done (by kernel_rfl) ?_
    refine AWP.region rfl ?_
    refine AOps.val (Gv.add rfl rfl (by unfold I64; omega)) ?_
    refine AOps.val (Gv.move (v := .int _ _) rfl) ?_
    refine AOps.nil ?_
    exact ⟨(k + 1, (((acc ++ spc) ++ f.vars[k].name) ++ colon) ++ tyWord f.vars[k].ty), ⟨rfl, rfl, rfl, trivial⟩, ⟨rfl, rfl, trivial⟩, ⟨_, (.refl _), rfl⟩, ⟨hk2, by dsimp only; rw [headLk_succ hk3, hacc], by dsimp only; simp only [app_size]; have e1 : spc.size = 1 := rfl; have e2 : colon.size = 1 := rfl; omega⟩, by dsimp only; omega⟩
  · skip
    obtain rfl : k = f.params.length := by omega
    have hhead : headLk f f.params.length = headL f := rfl
    refine AWP.exit ?_
    refine AWP.seq ?_
    refine AWP.region rfl ?_
    refine AOps.val (Gv.move (v := .str _) rfl) ?_
    refine AOps.val (Gv.addT rfl rfl (by (try simp only [app_size]); (try simp only [lit_size, List.size_toArray, List.length_cons, List.length_nil]); omega)) ?_
    refine AOps.val (Gv.assign (v := .str _) rfl) ?_
    refine AOps.nil ?_
    refine AWP.seq ?_
    refine AWP.seq ?_
    refine AWP.region rfl ?_
    refine AOps.val (Gv.fieldF Tryz.underlying27 rfl Tryz.sizeOf24 (by decide) rfl rfl) ?_
    refine AOps.val (Gv.load1F (c := .fro _ _) Tryz.isAgg24 rfl) ?_
    refine AOps.val (Gv.lenM Tryz.underlying24 rfl) ?_
    refine AOps.val (Gv.assign (v := .int _ _) rfl) ?_
    refine AOps.nil ?_
    refine AWP.block ?_
    refine AWP.loop (γ := Nat × ByteArray) [1, 3] (fun g => [(6, .int .i64 g.1), (4, .str g.2)]) (fun g => []) (fun g => f.params.length ≤ g.1 ∧ g.1 ≤ f.vars.length ∧ g.2 = unB (headL f :: ((f.vars.take g.1).drop f.params.length).map varL) ∧ g.2.size ≤ 5 + g.1 * 1100) (fun g => f.vars.length - g.1) (f.params.length, acc ++ nl) ⟨rfl, rfl, trivial⟩ ⟨_, (.refl _), rfl⟩ (⟨Nat.le_refl _, hpl, by dsimp only; rw [List.drop_eq_nil_of_le (by rw [List.length_take]; omega), hacc, hhead]; show _ = (lineS (headL f) ++ nl) ++ ByteArray.empty; rw [ByteArray.append_empty], by dsimp only; rw [app_size]; have e1 : nl.size = 1 := rfl; omega⟩) ?_
    rintro ⟨i, acc2⟩ ⟨hi1, hi2, hacc2, hsz2⟩
    try dsimp only at *
    refine AWP.seq ?_
    refine AWP.seq ?_
    refine AWP.region rfl ?_
    refine AOps.val (Gv.move (v := .int _ _) rfl) ?_
    refine AOps.val (Gv.fieldF Tryz.underlying27 rfl Tryz.sizeOf23 (by decide) rfl rfl) ?_
    refine AOps.val (Gv.load1F (c := .fro _ _) Tryz.isAgg23 rfl) ?_
    refine AOps.val (Gv.lenM Tryz.underlying23 rfl) ?_
    refine AOps.val (Gv.lss rfl rfl) ?_
    refine AOps.nil ?_
    refine AWP.condP rfl (fun ci => ?_) (fun ci => ?_)
    · skip
      have hi3 : i < f.vars.length := by simpa using ci
      have hv := hf.vars _ (List.getElem_mem hi3)
      have hvs := hT.vn _ (List.getElem_mem hi3)
      have hts := ty_size hv.2
      refine AWP.skip ?_
      refine AWP.seq ?_
      refine AWP.block ?_
      refine AWP.regionDraw (fun j => false) (by kernel_rfl) rfl (Part.perm (.rest _)) ?_
      refine AAny.take (i := 0) rfl (by kernel_rfl) (by kernel_rfl) (by kernel_rfl) (by kernel_rfl) (by kernel_rfl) (by kernel_rfl) (Gv.move (v := .str _) rfl) ?_
      refine AAny.take (i := 1) rfl (by kernel_rfl) (by kernel_rfl) (by kernel_rfl) (by kernel_rfl) (by kernel_rfl) (by kernel_rfl) (Gv.addT rfl rfl (by (try simp only [app_size]); (try simp only [lit_size, List.size_toArray, List.length_cons, List.length_nil]); omega)) ?_
      refine AAny.take (i := 2) rfl (by kernel_rfl) (by kernel_rfl) (by kernel_rfl) (by kernel_rfl) (by kernel_rfl) (by kernel_rfl) (Gv.fieldF Tryz.underlying27 rfl Tryz.sizeOf23 (by decide) rfl rfl) ?_
      refine AAny.take (i := 3) rfl (by kernel_rfl) (by kernel_rfl) (by kernel_rfl) (by kernel_rfl) (by kernel_rfl) (by kernel_rfl) (Gv.load1F (c := .fro _ _) Tryz.isAgg23 rfl) ?_
      refine AAny.take (i := 4) rfl (by kernel_rfl) (by kernel_rfl) (by kernel_rfl) (by kernel_rfl) (by kernel_rfl) (by kernel_rfl) (Gv.move (v := .int _ _) rfl) ?_
      refine AAny.take (i := 5) rfl (by kernel_rfl) (by kernel_rfl) (by kernel_rfl) (by kernel_rfl) (by kernel_rfl) (by kernel_rfl) (Gv.idxM (j := i) Tryz.underlying23 Tryz.sizeOf38 rfl rfl rfl (List.getElem?_eq_getElem hi3)) ?_
      refine AAny.take (i := 6) rfl (by kernel_rfl) (by kernel_rfl) (by kernel_rfl) (by kernel_rfl) (by kernel_rfl) (by kernel_rfl) (Gv.fieldF Tryz.underlying38 rfl Tryz.sizeOf9 (by decide) rfl rfl) ?_
      refine AAny.take (i := 7) rfl (by kernel_rfl) (by kernel_rfl) (by kernel_rfl) (by kernel_rfl) (by kernel_rfl) (by kernel_rfl) (Gv.load1F (c := .str _) Tryz.isAgg9 rfl) ?_
      refine AAny.take (i := 8) rfl (by kernel_rfl) (by kernel_rfl) (by kernel_rfl) (by kernel_rfl) (by kernel_rfl) (by kernel_rfl) (Gv.addT rfl rfl (by (try simp only [app_size]); (try simp only [lit_size, List.size_toArray, List.length_cons, List.length_nil]); omega)) ?_
      refine AAny.take (i := 9) rfl (by kernel_rfl) (by kernel_rfl) (by kernel_rfl) (by kernel_rfl) (by kernel_rfl) (by kernel_rfl) (Gv.addT rfl rfl (by (try simp only [app_size]); (try simp only [lit_size, List.size_toArray, List.length_cons, List.length_nil]); omega)) ?_
      refine AAny.take (i := 10) rfl (by kernel_rfl) (by kernel_rfl) (by kernel_rfl) (by kernel_rfl) (by kernel_rfl) (by kernel_rfl) (Gv.move (v := .fro _ _) rfl) ?_
      refine AAny.take (i := 11) rfl (by kernel_rfl) (by kernel_rfl) (by kernel_rfl) (by kernel_rfl) (by kernel_rfl) (by kernel_rfl) (Gv.fieldF Tryz.underlying27 rfl Tryz.sizeOf23 (by decide) rfl rfl) ?_
      refine AAny.take (i := 12) rfl (by kernel_rfl) (by kernel_rfl) (by kernel_rfl) (by kernel_rfl) (by kernel_rfl) (by kernel_rfl) (Gv.load1F (c := .fro _ _) Tryz.isAgg23 rfl) ?_
      refine AAny.take (i := 13) rfl (by kernel_rfl) (by kernel_rfl) (by kernel_rfl) (by kernel_rfl) (by kernel_rfl) (by kernel_rfl) (Gv.move (v := .int _ _) rfl) ?_
      refine AAny.take (i := 14) rfl (by kernel_rfl) (by kernel_rfl) (by kernel_rfl) (by kernel_rfl) (by kernel_rfl) (by kernel_rfl) (Gv.idxM (j := i) Tryz.underlying23 Tryz.sizeOf38 rfl rfl rfl (List.getElem?_eq_getElem hi3)) ?_
      refine AAny.take (i := 15) rfl (by kernel_rfl) (by kernel_rfl) (by kernel_rfl) (by kernel_rfl) (by kernel_rfl) (by kernel_rfl) (Gv.fieldF Tryz.underlying38 rfl Tryz.sizeOf36 (by decide) rfl rfl) ?_
      refine AAny.take (i := 16) rfl (by kernel_rfl) (by kernel_rfl) (by kernel_rfl) (by kernel_rfl) (by kernel_rfl) (by kernel_rfl) (Gv.load1F (c := .int _ _) Tryz.isAgg36 rfl) ?_
      refine AAny.take (i := 17) rfl (by kernel_rfl) (by kernel_rfl) (by kernel_rfl) (by kernel_rfl) (by kernel_rfl) (by kernel_rfl) (Gv.idxF (j := f.vars[i].ty.toNat) Tryz.underlying62 Tryz.sizeOf9 rfl rfl (by have := hv.2.1; omega) (ty_row hv.2)) ?_
      refine AAny.take (i := 18) rfl (by kernel_rfl) (by kernel_rfl) (by kernel_rfl) (by kernel_rfl) (by kernel_rfl) (by kernel_rfl) (Gv.load1F (c := .str _) Tryz.isAgg9 rfl) ?_
      refine AAny.take (i := 19) rfl (by kernel_rfl) (by kernel_rfl) (by kernel_rfl) (by kernel_rfl) (by kernel_rfl) (by kernel_rfl) (Gv.addT rfl rfl (by (try simp only [app_size]); (try simp only [lit_size, List.size_toArray, List.length_cons, List.length_nil]); omega)) ?_
      refine AAny.take (i := 20) rfl (by kernel_rfl) (by kernel_rfl) (by kernel_rfl) (by kernel_rfl) (by kernel_rfl) (by kernel_rfl) (Gv.addT rfl rfl (by (try simp only [app_size]); (try simp only [lit_size, List.size_toArray, List.length_cons, List.length_nil]); omega)) ?_
      refine AAny.take (i := 21) rfl (by kernel_rfl) (by kernel_rfl) (by kernel_rfl) (by kernel_rfl) (by kernel_rfl) (by kernel_rfl) (Gv.assign (v := .str _) rfl) ?_
      refine AAny.done (by kernel_rfl) ?_
      refine AWP.region rfl ?_
      refine AOps.val (Gv.move (v := .int _ _) rfl) ?_
      refine AOps.val (Gv.add rfl rfl (by unfold I64; omega)) ?_
      refine AOps.val (Gv.assign (v := .int _ _) rfl) ?_
      refine AOps.nil ?_
      exact ⟨(i + 1, ((((acc2 ++ (⟨#[118, 97, 114, 32]⟩ : ByteArray)) ++ f.vars[i].name) ++ colon) ++ tyWord f.vars[i].ty) ++ nl), ⟨rfl, rfl, trivial⟩, ⟨rfl, rfl, trivial⟩, ⟨_, (.refl _), rfl⟩, ⟨by dsimp only; omega, hi3, by dsimp only; rw [List.take_succ_eq_append_getElem hi3, List.drop_append_of_le_length (by rw [List.length_take]; omega), List.map_append, List.map_cons, List.map_nil, ← List.cons_append, unB_app, ← hacc2, var_line]; simp only [ByteArray.append_assoc], by dsimp only; simp only [app_size]; have e1 : nl.size = 1 := rfl; have e2 : colon.size = 1 := rfl; have e3 : (⟨#[118, 97, 114, 32]⟩ : ByteArray).size = 4 := rfl; omega⟩, by dsimp only; omega⟩
    · skip
      obtain rfl : i = f.vars.length := by have : ¬ i < f.vars.length := (by simpa using ci); omega
      rw [List.take_length] at hacc2
      obtain ⟨P0, hP0⟩ : ∃ P0, headL f :: (f.vars.drop f.params.length).map varL = P0 := ⟨_, rfl⟩
      have hlines : linesF f = P0 ++ f.blocks.flatMap (blkL f) := by rw [← hP0]; rfl
      rw [hP0] at hacc2
      refine AWP.exit ?_
      refine AWP.seq ?_
      refine AWP.seq ?_
      refine AWP.region rfl ?_
      refine AOps.val (Gv.fieldF Tryz.underlying27 rfl Tryz.sizeOf25 (by decide) rfl rfl) ?_
      refine AOps.val (Gv.load1F (c := .fro _ _) Tryz.isAgg25 rfl) ?_
      refine AOps.val (Gv.lenM Tryz.underlying25 rfl) ?_
      refine AOps.val (Gv.move (v := .int _ _) rfl) ?_
      refine AOps.nil ?_
      refine AWP.block ?_
      refine AWP.loop (γ := Nat × ByteArray) [1, 78, 79] (fun g => [(80, .int .i64 g.1), (4, .str g.2)]) (fun g => []) (fun g => g.1 ≤ f.blocks.length ∧ g.2 = unB (P0 ++ (f.blocks.take g.1).flatMap (blkL f)) ∧ g.2.size ≤ 2000000 + g.1 * 10000000000) (fun g => f.blocks.length - g.1) (0, acc2) ⟨rfl, rfl, trivial⟩ ⟨_, (.refl _), rfl⟩ (⟨Nat.zero_le _, by dsimp only; rw [hacc2]; simp, by dsimp only; omega⟩) ?_
      rintro ⟨k, acc3⟩ ⟨hk3, hacc3, hsz3⟩
      try dsimp only at *
      refine AWP.seq ?_
      refine AWP.region rfl ?_
      refine AOps.val (Gv.lss rfl rfl) ?_
      refine AOps.nil ?_
      refine AWP.seq ?_
      refine AWP.condP rfl (fun cb => ?_) (fun cb => ?_)
      · skip
        have hk4 : k < f.blocks.length := by omega
        obtain ⟨b, hbk⟩ : ∃ b, f.blocks[k] = b := ⟨_, rfl⟩
        have hget : f.blocks[k]? = some b := by rw [List.getElem?_eq_getElem hk4, hbk]
        have hbm : b ∈ f.blocks := hbk ▸ List.getElem_mem hk4
        obtain ⟨hbn, hb1, hb2, hb3⟩ := hf.blks b hbm
        have hbs := hT.bn b hbm
        have hTb := hT.each b hbm
        have hnb := hn b hbm
        have hp1 := hTb.phis
        have hp2 := hTb.insts
        obtain ⟨Q, hQ⟩ : ∃ Q, P0 ++ (f.blocks.take k).flatMap (blkL f) ++ [[blockS, b.name]] = Q := ⟨_, rfl⟩
        refine AWP.skip ?_
        refine AWP.seq ?_
        refine AWP.block ?_
        refine AWP.seq ?_
        refine AWP.region rfl ?_
        refine AOps.val (Gv.idxM (j := k) Tryz.underlying25 Tryz.sizeOf48 rfl rfl rfl hget) ?_
        refine AOps.val (Gv.loadWF Tryz.isAgg48 Tryz.sizeOf48 rfl rfl) ?_
        refine AOps.alloc (cs := [.str ⟨#[]⟩, .raw (.slice none 0 0), .raw (.slice none 0 0), .int .i64 0, .int .i64 0, .int .i64 0, .int .i64 0]) Tryz.zeroValue48 rfl rfl ?_
        intro i8
        refine AOps.storeW Tryz.sizeOf48 rfl rfl rfl rfl rfl rfl .head rfl ?_
        refine AOps.nil ?_
        refine AWP.seq ?_
        refine AWP.region rfl ?_
        refine AOps.val (Gv.move (v := .str _) rfl) ?_
        refine AOps.val (Gv.addT rfl rfl (by (try simp only [app_size]); (try simp only [lit_size, List.size_toArray, List.length_cons, List.length_nil]); omega)) ?_
        refine AOps.val (Gv.fieldO Tryz.underlying48 rfl Tryz.sizeOf9 (by decide) rfl rfl) ?_
        refine AOps.val (Gv.load1C (c := .str _) Tryz.isAgg9 rfl ⟨_, .head⟩ rfl) ?_
        refine AOps.val (Gv.addT rfl rfl (by (try simp only [app_size]); (try simp only [lit_size, List.size_toArray, List.length_cons, List.length_nil]); omega)) ?_
        refine AOps.val (Gv.addT rfl rfl (by (try simp only [app_size]); (try simp only [lit_size, List.size_toArray, List.length_cons, List.length_nil]); omega)) ?_
        refine AOps.val (Gv.assign (v := .str _) rfl) ?_
        refine AOps.nil ?_
        refine AWP.seq ?_
        refine AWP.seq ?_
        refine AWP.region rfl ?_
        refine AOps.val (Gv.fieldO Tryz.underlying48 rfl Tryz.sizeOf41 (by decide) rfl rfl) ?_
        refine AOps.val (Gv.load1C (c := .fro _ _) Tryz.isAgg41 rfl ⟨_, .head⟩ rfl) ?_
        refine AOps.val (Gv.lenM Tryz.underlying41 rfl) ?_
        refine AOps.val (Gv.move (v := .int _ _) rfl) ?_
        refine AOps.nil ?_
        refine AWP.block ?_
        refine AWP.loop (γ := Nat × ByteArray) [1, 8, 78, 79, 80, 91, 92] (fun g => [(93, .int .i64 g.1), (4, .str g.2)]) (fun g => [(i8, .cells 48 (encBlk b))]) (fun g => g.1 ≤ b.phis.length ∧ g.2 = unB (Q ++ (b.phis.take g.1).map (phiL f)) ∧ g.2.size ≤ 2001100 + k * 10000000000 + g.1 * 4300000) (fun g => b.phis.length - g.1) (0, ((acc3 ++ (⟨#[98, 108, 111, 99, 107, 32]⟩ : ByteArray)) ++ b.name) ++ nl) ⟨rfl, rfl, trivial⟩ ⟨_, (.refl _), rfl⟩ (⟨Nat.zero_le _, by dsimp only; rw [List.take_zero, List.map_nil, List.append_nil, ← hQ, unB_app, ← hacc3, lineS_two, show (⟨#[98, 108, 111, 99, 107, 32]⟩ : ByteArray) = blockS ++ spc by decide]; simp only [ByteArray.append_assoc], by dsimp only; simp only [app_size]; have e1 : nl.size = 1 := rfl; have e2 : (⟨#[98, 108, 111, 99, 107, 32]⟩ : ByteArray).size = 6 := rfl; omega⟩) ?_
        rintro ⟨j, acc4⟩ ⟨hj, hacc4, hsz4⟩
        try dsimp only at *
        refine AWP.seq ?_
        refine AWP.region rfl ?_
        refine AOps.val (Gv.lss rfl rfl) ?_
        refine AOps.nil ?_
        refine AWP.seq ?_
        refine AWP.condP rfl (fun cj => ?_) (fun cj => ?_)
        · skip
          have hj2 : j < b.phis.length := by simp at cj; omega
          obtain ⟨p, hpj⟩ : ∃ p, b.phis[j] = p := ⟨_, rfl⟩
          have hgp : b.phis[j]? = some p := by rw [List.getElem?_eq_getElem hj2, hpj]
          have hpm : p ∈ b.phis := hpj ▸ List.getElem_mem hj2
          obtain ⟨g1, g2, g3, g4, g5⟩ := hb1 p hpm
          have g4 := List.all_eq_true.1 g4
          have g5 := List.all_eq_true.1 g5
          obtain ⟨d1, d2, d3, d4⟩ := has_get g1
          have hds := vname_sz hT g1
          have hpa := hTb.args p hpm
          have hds2 : (f.vars[p.dst.toNat]).name.size ≤ 1000 := by rw [← d4]; exact hds
          refine AWP.skip ?_
          refine AWP.seq ?_
          refine AWP.block ?_
          refine AWP.seq ?_
          refine AWP.region rfl ?_
          refine AOps.val (Gv.idxM (j := j) Tryz.underlying41 Tryz.sizeOf64 rfl rfl rfl hgp) ?_
          refine AOps.val (Gv.loadWF Tryz.isAgg64 Tryz.sizeOf64 rfl rfl) ?_
          refine AOps.alloc (cs := [.int .i64 0, .raw (.slice none 0 0), .raw (.slice none 0 0)]) Tryz.zeroValue64 rfl rfl ?_
          intro i10
          refine AOps.storeW Tryz.sizeOf64 rfl rfl rfl rfl rfl rfl .head rfl ?_
          refine AOps.nil ?_
          refine AWP.seq ?_
          refine AWP.region rfl ?_
          refine AOps.val (Gv.move (v := .str _) rfl) ?_
          refine AOps.val (Gv.fieldF Tryz.underlying27 rfl Tryz.sizeOf23 (by decide) rfl rfl) ?_
          refine AOps.val (Gv.load1F (c := .fro _ _) Tryz.isAgg23 rfl) ?_
          refine AOps.val (Gv.fieldO Tryz.underlying64 rfl Tryz.sizeOf3 (by decide) rfl rfl) ?_
          refine AOps.val (Gv.load1C (c := .int _ _) Tryz.isAgg3 rfl ⟨_, .head⟩ rfl) ?_
          refine AOps.val (Gv.idxM (j := p.dst.toNat) Tryz.underlying23 Tryz.sizeOf38 rfl rfl (by omega) d2) ?_
          refine AOps.val (Gv.fieldF Tryz.underlying38 rfl Tryz.sizeOf9 (by decide) rfl rfl) ?_
          refine AOps.val (Gv.load1F (c := .str _) Tryz.isAgg9 rfl) ?_
          refine AOps.val (Gv.addT rfl rfl (by (try simp only [app_size]); (try simp only [lit_size, List.size_toArray, List.length_cons, List.length_nil]); omega)) ?_
          refine AOps.val (Gv.addT rfl rfl (by (try simp only [app_size]); (try simp only [lit_size, List.size_toArray, List.length_cons, List.length_nil]); omega)) ?_
          refine AOps.val (Gv.assign (v := .str _) rfl) ?_
          refine AOps.nil ?_
          refine AWP.seq ?_
          refine AWP.seq ?_
          refine AWP.region rfl ?_
          refine AOps.val (Gv.fieldO Tryz.underlying64 rfl Tryz.sizeOf24 (by decide) rfl rfl) ?_
          refine AOps.val (Gv.load1C (c := .fro _ _) Tryz.isAgg24 rfl ⟨_, .head⟩ rfl) ?_
          refine AOps.val (Gv.lenM Tryz.underlying24 rfl) ?_
          refine AOps.val (Gv.move (v := .int _ _) rfl) ?_
          refine AOps.nil ?_
          refine AWP.block ?_
          refine AWP.loop (γ := Nat × ByteArray) [1, 8, 10, 78, 79, 80, 91, 92, 93, 108, 109] (fun g => [(110, .int .i64 g.1), (4, .str g.2)]) (fun g => [(i10, .cells 64 (encPhi p)), (i8, .cells 48 (encBlk b))]) (fun g => g.1 ≤ p.args.length ∧ g.2 = acc4 ++ lineS (phiLk f p g.1) ∧ g.2.size ≤ 2002110 + k * 10000000000 + j * 4300000 + g.1 * 2002) (fun g => p.args.length - g.1) (0, (acc4 ++ f.vars[p.dst.toNat].name) ++ (⟨#[32, 61, 32, 112, 104, 105]⟩ : ByteArray)) ⟨rfl, rfl, trivial⟩ ⟨_, (.refl _), rfl⟩ (⟨Nat.zero_le _, by dsimp only; rw [← d4]; show _ = acc4 ++ lineS [vname f p.dst, eqS, phiS]; rw [lineS_three, show (⟨#[32, 61, 32, 112, 104, 105]⟩ : ByteArray) = ((spc ++ eqS) ++ spc) ++ phiS by decide]; simp only [ByteArray.append_assoc], by dsimp only; simp only [app_size]; have e2 : (⟨#[32, 61, 32, 112, 104, 105]⟩ : ByteArray).size = 6 := rfl; omega⟩) ?_
          rintro ⟨m, acc5⟩ ⟨hm, hacc5, hsz5⟩
          try dsimp only at *
          refine AWP.seq ?_
          refine AWP.region rfl ?_
          refine AOps.val (Gv.lss rfl rfl) ?_
          refine AOps.nil ?_
          refine AWP.seq ?_
          refine AWP.condP rfl (fun cm => ?_) (fun cm => ?_)
          · skip
            have hm2 : m < p.args.length := by simp at cm; omega
            have hm3 : m < p.from_.length := by omega
            obtain ⟨b1, b2, b3, b4⟩ := hasB_get (g5 _ (List.getElem_mem hm3))
            obtain ⟨v1, v2, v3, v4⟩ := has_get (g4 _ (List.getElem_mem hm2))
            have hs1 := bname_sz hT (g5 _ (List.getElem_mem hm3))
            have hs2 := vname_sz hT (g4 _ (List.getElem_mem hm2))
            have hs3 : (f.blocks[(p.from_[m]).toNat]).name.size ≤ 1000 := by rw [← b4]; exact hs1
            have hs4 : (f.vars[(p.args[m]).toNat]).name.size ≤ 1000 := by rw [← v4]; exact hs2
            refine AWP.skip ?_
            refine AWP.seq ?_
            refine AWP.block ?_
            refine AWP.seq ?_
            refine AWP.region rfl ?_
            refine AOps.val (Gv.move (v := .int _ _) rfl) ?_
            refine AOps.val (Gv.idxM (j := m) Tryz.underlying24 Tryz.sizeOf3 rfl rfl rfl (List.getElem?_eq_getElem hm2)) ?_
            refine AOps.val (Gv.load1F (c := .int _ _) Tryz.isAgg3 rfl) ?_
            refine AOps.val (Gv.assign (v := .int _ _) rfl) ?_
            refine AOps.val (Gv.assign (v := .int _ _) rfl) ?_
            refine AOps.nil ?_
            refine AWP.regionDraw (fun j => false) (by kernel_rfl) rfl (Part.perm (.r (.rest _))) ?_
            refine AAny.take (i := 0) rfl (by kernel_rfl) (by kernel_rfl) (by kernel_rfl) (by kernel_rfl) (by kernel_rfl) (by kernel_rfl) (Gv.move (v := .str _) rfl) ?_
            refine AAny.take (i := 1) rfl (by kernel_rfl) (by kernel_rfl) (by kernel_rfl) (by kernel_rfl) (by kernel_rfl) (by kernel_rfl) (Gv.addT rfl rfl (by (try simp only [app_size]); (try simp only [lit_size, List.size_toArray, List.length_cons, List.length_nil]); omega)) ?_
            refine AAny.take (i := 2) rfl (by kernel_rfl) (by kernel_rfl) (by kernel_rfl) (by kernel_rfl) (by kernel_rfl) (by kernel_rfl) (Gv.fieldF Tryz.underlying27 rfl Tryz.sizeOf25 (by decide) rfl rfl) ?_
            refine AAny.take (i := 3) rfl (by kernel_rfl) (by kernel_rfl) (by kernel_rfl) (by kernel_rfl) (by kernel_rfl) (by kernel_rfl) (Gv.load1F (c := .fro _ _) Tryz.isAgg25 rfl) ?_
            refine AAny.take (i := 4) rfl (by kernel_rfl) (by kernel_rfl) (by kernel_rfl) (by kernel_rfl) (by kernel_rfl) (by kernel_rfl) (Gv.fieldO Tryz.underlying64 rfl Tryz.sizeOf24 (by decide) rfl rfl) ?_
            refine AAny.take (i := 5) rfl (by kernel_rfl) (by kernel_rfl) (by kernel_rfl) (by kernel_rfl) (by kernel_rfl) (by kernel_rfl) (Gv.load1C (c := .fro _ _) Tryz.isAgg24 rfl ⟨_, .head⟩ rfl) ?_
            refine AAny.take (i := 6) rfl (by kernel_rfl) (by kernel_rfl) (by kernel_rfl) (by kernel_rfl) (by kernel_rfl) (by kernel_rfl) (Gv.move (v := .int _ _) rfl) ?_
            refine AAny.take (i := 7) rfl (by kernel_rfl) (by kernel_rfl) (by kernel_rfl) (by kernel_rfl) (by kernel_rfl) (by kernel_rfl) (Gv.idxM (j := m) Tryz.underlying24 Tryz.sizeOf3 rfl rfl rfl (List.getElem?_eq_getElem hm3)) ?_
            refine AAny.take (i := 8) rfl (by kernel_rfl) (by kernel_rfl) (by kernel_rfl) (by kernel_rfl) (by kernel_rfl) (by kernel_rfl) (Gv.load1F (c := .int _ _) Tryz.isAgg3 rfl) ?_
            refine AAny.take (i := 9) rfl (by kernel_rfl) (by kernel_rfl) (by kernel_rfl) (by kernel_rfl) (by kernel_rfl) (by kernel_rfl) (Gv.idxM (j := (p.from_[m]).toNat) Tryz.underlying25 Tryz.sizeOf48 rfl rfl (by omega) b2) ?_
            refine AAny.take (i := 10) rfl (by kernel_rfl) (by kernel_rfl) (by kernel_rfl) (by kernel_rfl) (by kernel_rfl) (by kernel_rfl) (Gv.fieldF Tryz.underlying48 rfl Tryz.sizeOf9 (by decide) rfl rfl) ?_
            refine AAny.take (i := 11) rfl (by kernel_rfl) (by kernel_rfl) (by kernel_rfl) (by kernel_rfl) (by kernel_rfl) (by kernel_rfl) (Gv.load1F (c := .str _) Tryz.isAgg9 rfl) ?_
            refine AAny.take (i := 12) rfl (by kernel_rfl) (by kernel_rfl) (by kernel_rfl) (by kernel_rfl) (by kernel_rfl) (by kernel_rfl) (Gv.addT rfl rfl (by (try simp only [app_size]); (try simp only [lit_size, List.size_toArray, List.length_cons, List.length_nil]); omega)) ?_
            refine AAny.take (i := 13) rfl (by kernel_rfl) (by kernel_rfl) (by kernel_rfl) (by kernel_rfl) (by kernel_rfl) (by kernel_rfl) (Gv.addT rfl rfl (by (try simp only [app_size]); (try simp only [lit_size, List.size_toArray, List.length_cons, List.length_nil]); omega)) ?_
            refine AAny.take (i := 14) rfl (by kernel_rfl) (by kernel_rfl) (by kernel_rfl) (by kernel_rfl) (by kernel_rfl) (by kernel_rfl) (Gv.fieldF Tryz.underlying27 rfl Tryz.sizeOf23 (by decide) rfl rfl) ?_
            refine AAny.take (i := 15) rfl (by kernel_rfl) (by kernel_rfl) (by kernel_rfl) (by kernel_rfl) (by kernel_rfl) (by kernel_rfl) (Gv.load1F (c := .fro _ _) Tryz.isAgg23 rfl) ?_
            refine AAny.take (i := 16) rfl (by kernel_rfl) (by kernel_rfl) (by kernel_rfl) (by kernel_rfl) (by kernel_rfl) (by kernel_rfl) (Gv.move (v := .int _ _) rfl) ?_
            refine AAny.take (i := 17) rfl (by kernel_rfl) (by kernel_rfl) (by kernel_rfl) (by kernel_rfl) (by kernel_rfl) (by kernel_rfl) (Gv.idxM (j := (p.args[m]).toNat) Tryz.underlying23 Tryz.sizeOf38 rfl rfl (by omega) v2) ?_
            refine AAny.take (i := 18) rfl (by kernel_rfl) (by kernel_rfl) (by kernel_rfl) (by kernel_rfl) (by kernel_rfl) (by kernel_rfl) (Gv.fieldF Tryz.underlying38 rfl Tryz.sizeOf9 (by decide) rfl rfl) ?_
            refine AAny.take (i := 19) rfl (by kernel_rfl) (by kernel_rfl) (by kernel_rfl) (by kernel_rfl) (by kernel_rfl) (by kernel_rfl) (Gv.load1F (c := .str _) Tryz.isAgg9 rfl) ?_
            refine AAny.take (i := 20) rfl (by kernel_rfl) (by kernel_rfl) (by kernel_rfl) (by kernel_rfl) (by kernel_rfl) (by kernel_rfl) (Gv.addT rfl rfl (by (try simp only [app_size]); (try simp only [lit_size, List.size_toArray, List.length_cons, List.length_nil]); omega)) ?_
            refine AAny.take (i := 21) rfl (by kernel_rfl) (by kernel_rfl) (by kernel_rfl) (by kernel_rfl) (by kernel_rfl) (by kernel_rfl) (Gv.assign (v := .str _) rfl) ?_
            refine AAny.done (by kernel_rfl) ?_
            refine AWP.region rfl ?_
            refine AOps.val (Gv.add rfl rfl (by unfold I64; omega)) ?_
            refine AOps.val (Gv.move (v := .int _ _) rfl) ?_
            refine AOps.nil ?_
            exact ⟨(m + 1, (((acc5 ++ spc) ++ f.blocks[(p.from_[m]).toNat].name) ++ spc) ++ f.vars[(p.args[m]).toNat].name), ⟨rfl, rfl, rfl, rfl, rfl, rfl, rfl, rfl, rfl, rfl, rfl, trivial⟩, ⟨rfl, rfl, trivial⟩, ⟨_, (.refl _), rfl⟩, ⟨hm2, by dsimp only; rw [phiLk_succ hm3 hm2, b4, v4, hacc5]; simp only [ByteArray.append_assoc], by dsimp only; simp only [app_size]; have e1 : spc.size = 1 := rfl; omega⟩, by dsimp only; omega⟩
          · skip
            obtain rfl : m = p.args.length := by simp at cm; omega
            have hfull : phiLk f p p.args.length = phiL f p := by
              unfold phiLk phiL
              rw [List.take_of_length_le (by simp; omega), List.take_of_length_le (by simp)]
            refine AWP.exit ?_
            refine AWP.region rfl ?_
            refine AOps.val (Gv.move (v := .str _) rfl) ?_
            refine AOps.val (Gv.addT rfl rfl (by (try simp only [app_size]); (try simp only [lit_size, List.size_toArray, List.length_cons, List.length_nil]); omega)) ?_
            refine AOps.val (Gv.assign (v := .str _) rfl) ?_
            refine AOps.nil ?_
            refine AWP.region rfl ?_
            refine AOps.val (Gv.add rfl rfl (by unfold I64; omega)) ?_
            refine AOps.val (Gv.move (v := .int _ _) rfl) ?_
            refine AOps.nil ?_
            exact ⟨(j + 1, acc5 ++ nl), ⟨rfl, rfl, rfl, rfl, rfl, rfl, rfl, trivial⟩, ⟨rfl, rfl, trivial⟩, ⟨_, (.drop (.refl _)), rfl⟩, ⟨hj2, by dsimp only; rw [List.take_succ_eq_append_getElem hj2, hpj, List.map_append, List.map_cons, List.map_nil, ← List.append_assoc, unB_app, ← hacc4, hacc5, hfull]; simp only [ByteArray.append_assoc], by dsimp only; rw [app_size]; have e1 : nl.size = 1 := rfl; omega⟩, by dsimp only; omega⟩
        · skip
          obtain rfl : j = b.phis.length := by simp at cj; omega
          rw [List.take_length] at hacc4
          obtain ⟨Q2, hQ2⟩ : ∃ Q2, Q ++ b.phis.map (phiL f) = Q2 := ⟨_, rfl⟩
          rw [hQ2] at hacc4
          refine AWP.exit ?_
          refine AWP.seq ?_
          refine AWP.seq ?_
          refine AWP.region rfl ?_
          refine AOps.val (Gv.fieldO Tryz.underlying48 rfl Tryz.sizeOf42 (by decide) rfl rfl) ?_
          refine AOps.val (Gv.load1C (c := .fro _ _) Tryz.isAgg42 rfl ⟨_, .head⟩ rfl) ?_
          refine AOps.val (Gv.lenM Tryz.underlying42 rfl) ?_
          refine AOps.val (Gv.move (v := .int _ _) rfl) ?_
          refine AOps.nil ?_
          refine AWP.block ?_
          refine AWP.loop (γ := Nat × ByteArray) [1, 8, 78, 79, 80, 141, 142] (fun g => [(143, .int .i64 g.1), (4, .str g.2)]) (fun g => [(i8, .cells 48 (encBlk b))]) (fun g => g.1 ≤ b.insts.length ∧ g.2 = unB (Q2 ++ (b.insts.take g.1).map (wordsOf f)) ∧ g.2.size ≤ 9032001100 + k * 10000000000 + g.1 * 20001) (fun g => b.insts.length - g.1) (0, acc4) ⟨rfl, rfl, trivial⟩ ⟨_, (.refl _), rfl⟩ (⟨Nat.zero_le _, by dsimp only; rw [List.take_zero, List.map_nil, List.append_nil, hacc4], by dsimp only; omega⟩) ?_
          rintro ⟨j, acc6⟩ ⟨hj2, hacc6, hsz6⟩
          try dsimp only at *
          refine AWP.seq ?_
          refine AWP.region rfl ?_
          refine AOps.val (Gv.lss rfl rfl) ?_
          refine AOps.nil ?_
          refine AWP.seq ?_
          refine AWP.condP rfl (fun ci2 => ?_) (fun ci2 => ?_)
          · skip
            have hj3 : j < b.insts.length := by simp at ci2; omega
            obtain ⟨x, hxj⟩ : ∃ x, b.insts[j] = x := ⟨_, rfl⟩
            have hgx : b.insts[j]? = some x := by rw [List.getElem?_eq_getElem hj3, hxj]
            have hxm : x ∈ b.insts := hxj ▸ List.getElem_mem hj3
            have hxP := hb2 x hxm
            have hxF := instP_F hxP
            obtain ⟨hxl, hxs⟩ := refLine_sz hT hxP (hnb x hxm)
            have hdst : (kRow x.op).2.2 ≠ ⟨#[]⟩ → hasV f x.dst = true := fun h => by
              rcases hxF.dst with ⟨d, _⟩ | ⟨_, _, d⟩
              · rw [makesB_eq, decide_eq_false h] at d; cases d
              · exact d
            refine AWP.skip ?_
            refine AWP.seq ?_
            refine AWP.block ?_
            refine AWP.seq ?_
            refine AWP.region rfl ?_
            refine AOps.val (Gv.idxM (j := j) Tryz.underlying42 Tryz.sizeOf67 rfl rfl rfl hgx) ?_
            refine AOps.val (Gv.loadWF Tryz.isAgg67 Tryz.sizeOf67 rfl rfl) ?_
            refine AOps.alloc (cs := [.int .i64 0, .int .i64 0, .raw (.slice none 0 0), .int .i64 0]) Tryz.zeroValue67 rfl rfl ?_
            intro i14
            refine AOps.storeW Tryz.sizeOf67 rfl rfl rfl rfl rfl rfl .head rfl ?_
            refine AOps.nil ?_
            refine AWP.region rfl ?_
            refine AOps.val (Gv.move (v := .str _) rfl) ?_
            refine AOps.val (Gv.loadWF Tryz.isAgg27 Tryz.sizeOf27 rfl rfl) ?_
            refine AOps.val (Gv.loadWC Tryz.isAgg67 Tryz.sizeOf67 rfl ⟨_, .head⟩ rfl) ?_
            refine AOps.callP (refInst_spec f x hxP hdst (by omega) hT.vn (hnb x hxm)) rfl ?_
            refine AOps.val (Gv.addT rfl rfl (by (try simp only [app_size]); (try simp only [lit_size, List.size_toArray, List.length_cons, List.length_nil]); omega)) ?_
            refine AOps.val (Gv.addT rfl rfl (by (try simp only [app_size]); (try simp only [lit_size, List.size_toArray, List.length_cons, List.length_nil]); omega)) ?_
            refine AOps.val (Gv.assign (v := .str _) rfl) ?_
            refine AOps.nil ?_
            refine AWP.region rfl ?_
            refine AOps.val (Gv.add rfl rfl (by unfold I64; omega)) ?_
            refine AOps.val (Gv.move (v := .int _ _) rfl) ?_
            refine AOps.nil ?_
            exact ⟨(j + 1, (acc6 ++ refLine f x) ++ nl), ⟨rfl, rfl, rfl, rfl, rfl, rfl, rfl, trivial⟩, ⟨rfl, rfl, trivial⟩, ⟨_, (.drop (.refl _)), rfl⟩, ⟨hj3, by dsimp only; rw [List.take_succ_eq_append_getElem hj3, hxj, List.map_append, List.map_cons, List.map_nil, ← List.append_assoc, unB_app, ← hacc6, inst_line_eq hxP]; simp only [ByteArray.append_assoc], by dsimp only; simp only [app_size]; have e1 : nl.size = 1 := rfl; omega⟩, by dsimp only; omega⟩
          · skip
            obtain rfl : j = b.insts.length := by simp at ci2; omega
            rw [List.take_length] at hacc6
            have hnext : P0 ++ (f.blocks.take (k + 1)).flatMap (blkL f) = (Q2 ++ b.insts.map (wordsOf f)) ++ [termL f b.term] := by
              rw [List.take_succ_eq_append_getElem hk4, hbk, List.flatMap_append, ← hQ2, ← hQ]; simp [blkL]
            refine AWP.exit ?_
            refine AWP.seq ?_
            refine AWP.region rfl ?_
            refine AOps.val (Gv.fieldO Tryz.underlying48 rfl Tryz.sizeOf46 (by decide) rfl rfl) ?_
            refine AOps.val (Gv.loadAC (l := [_, _, _, _]) Tryz.isAgg46 Tryz.sizeOf46 rfl ⟨_, .head⟩ rfl rfl) ?_
            refine AOps.alloc (cs := [.int .i64 0, .int .i64 0, .int .i64 0, .int .i64 0]) Tryz.zeroValue46 rfl rfl ?_
            intro i15
            refine AOps.storeW Tryz.sizeOf46 rfl rfl rfl rfl rfl rfl .head rfl ?_
            refine AOps.nil ?_
            refine AWP.seq ?_
            refine AWP.region rfl ?_
            refine AOps.val (Gv.fieldO Tryz.underlying46 rfl Tryz.sizeOf43 (by decide) rfl rfl) ?_
            refine AOps.val (Gv.load1C (c := .int _ _) Tryz.isAgg43 rfl ⟨_, .head⟩ rfl) ?_
            refine AOps.nil ?_
            refine AWP.block ?_
            refine AWP.seq ?_
            refine AWP.region rfl ?_
            refine AOps.val (Gv.eqlI rfl rfl) ?_
            refine AOps.val (Gv.assign (v := .bool _) rfl) ?_
            refine AOps.nil ?_
            refine AWP.condP rfl (fun k0 => ?_) (fun k0 => ?_)
            · skip
              have k0 : b.term.kind = 0 := k0
              obtain ⟨b1, b2, b3, b4⟩ := hasB_get (termOK_0 hb3 k0)
              have hs1 := bname_sz hT (termOK_0 hb3 k0)
              have hs3 : (f.blocks[b.term.to0.toNat]).name.size ≤ 1000 := by rw [← b4]; exact hs1
              refine AWP.region rfl ?_
              refine AOps.val (Gv.move (v := .str _) rfl) ?_
              refine AOps.val (Gv.addT rfl rfl (by (try simp only [app_size]); (try simp only [lit_size, List.size_toArray, List.length_cons, List.length_nil]); omega)) ?_
              refine AOps.val (Gv.fieldF Tryz.underlying27 rfl Tryz.sizeOf25 (by decide) rfl rfl) ?_
              refine AOps.val (Gv.load1F (c := .fro _ _) Tryz.isAgg25 rfl) ?_
              refine AOps.val (Gv.fieldO Tryz.underlying46 rfl Tryz.sizeOf44 (by decide) rfl rfl) ?_
              refine AOps.val (Gv.idxAO (j := 0) Tryz.underlying44 Tryz.sizeOf3 rfl rfl rfl (by decide) rfl) ?_
              refine AOps.val (Gv.load1C (c := .int _ _) Tryz.isAgg3 rfl ⟨_, .head⟩ rfl) ?_
              refine AOps.val (Gv.idxM (j := b.term.to0.toNat) Tryz.underlying25 Tryz.sizeOf48 rfl rfl (by omega) b2) ?_
              refine AOps.val (Gv.fieldF Tryz.underlying48 rfl Tryz.sizeOf9 (by decide) rfl rfl) ?_
              refine AOps.val (Gv.load1F (c := .str _) Tryz.isAgg9 rfl) ?_
              refine AOps.val (Gv.addT rfl rfl (by (try simp only [app_size]); (try simp only [lit_size, List.size_toArray, List.length_cons, List.length_nil]); omega)) ?_
              refine AOps.val (Gv.addT rfl rfl (by (try simp only [app_size]); (try simp only [lit_size, List.size_toArray, List.length_cons, List.length_nil]); omega)) ?_
              refine AOps.val (Gv.assign (v := .str _) rfl) ?_
              refine AOps.nil ?_
              refine AWP.region rfl ?_
              refine AOps.val (Gv.add rfl rfl (by unfold I64; omega)) ?_
              refine AOps.val (Gv.move (v := .int _ _) rfl) ?_
              refine AOps.nil ?_
              exact ⟨(k + 1, ((acc6 ++ (⟨#[106, 117, 109, 112, 32]⟩ : ByteArray)) ++ f.blocks[b.term.to0.toNat].name) ++ nl), ⟨rfl, rfl, rfl, trivial⟩, ⟨rfl, rfl, trivial⟩, ⟨_, (.drop (.drop (.refl _))), rfl⟩, ⟨hk4, by dsimp only; rw [hnext, unB_app, ← hacc6]; unfold termL; rw [if_pos k0, lineS_two, b4, show (⟨#[106, 117, 109, 112, 32]⟩ : ByteArray) = jumpS ++ spc by decide]; simp only [ByteArray.append_assoc], by dsimp only; simp only [app_size]; have e1 : nl.size = 1 := rfl; have e2 : (⟨#[106, 117, 109, 112, 32]⟩ : ByteArray).size = 5 := rfl; omega⟩, by dsimp only; omega⟩
            · skip
              have k0 : ¬ b.term.kind = 0 := k0
              refine AWP.seq ?_
              refine AWP.region rfl ?_
              refine AOps.val (Gv.eqlI rfl rfl) ?_
              refine AOps.val (Gv.assign (v := .bool _) rfl) ?_
              refine AOps.nil ?_
              refine AWP.condP rfl (fun k1 => ?_) (fun k1 => ?_)
              · skip
                have k1 : b.term.kind = 1 := k1
                obtain ⟨t1, t2, t3⟩ := termOK_1 hb3 k1
                obtain ⟨v1, v2, v3, v4⟩ := has_get t1
                obtain ⟨b1, b2, b3, b4⟩ := hasB_get t2
                obtain ⟨c1, c2, c3, c4⟩ := hasB_get t3
                have hs1 : (f.vars[b.term.var.toNat]).name.size ≤ 1000 := by rw [← v4]; exact vname_sz hT t1
                have hs2 : (f.blocks[b.term.to0.toNat]).name.size ≤ 1000 := by rw [← b4]; exact bname_sz hT t2
                have hs3 : (f.blocks[b.term.to1.toNat]).name.size ≤ 1000 := by rw [← c4]; exact bname_sz hT t3
                refine AWP.regionDraw (fun j => false) (by kernel_rfl) rfl (Part.perm (.r (.rest _))) ?_
                refine AAny.take (i := 0) rfl (by kernel_rfl) (by kernel_rfl) (by kernel_rfl) (by kernel_rfl) (by kernel_rfl) (by kernel_rfl) (Gv.move (v := .str _) rfl) ?_
                refine AAny.take (i := 1) rfl (by kernel_rfl) (by kernel_rfl) (by kernel_rfl) (by kernel_rfl) (by kernel_rfl) (by kernel_rfl) (Gv.addT rfl rfl (by (try simp only [app_size]); (try simp only [lit_size, List.size_toArray, List.length_cons, List.length_nil]); omega)) ?_
                refine AAny.take (i := 2) rfl (by kernel_rfl) (by kernel_rfl) (by kernel_rfl) (by kernel_rfl) (by kernel_rfl) (by kernel_rfl) (Gv.fieldF Tryz.underlying27 rfl Tryz.sizeOf23 (by decide) rfl rfl) ?_
                refine AAny.take (i := 3) rfl (by kernel_rfl) (by kernel_rfl) (by kernel_rfl) (by kernel_rfl) (by kernel_rfl) (by kernel_rfl) (Gv.load1F (c := .fro _ _) Tryz.isAgg23 rfl) ?_
                refine AAny.take (i := 4) rfl (by kernel_rfl) (by kernel_rfl) (by kernel_rfl) (by kernel_rfl) (by kernel_rfl) (by kernel_rfl) (Gv.fieldO Tryz.underlying46 rfl Tryz.sizeOf3 (by decide) rfl rfl) ?_
                refine AAny.take (i := 5) rfl (by kernel_rfl) (by kernel_rfl) (by kernel_rfl) (by kernel_rfl) (by kernel_rfl) (by kernel_rfl) (Gv.load1C (c := .int _ _) Tryz.isAgg3 rfl ⟨_, .head⟩ rfl) ?_
                refine AAny.take (i := 6) rfl (by kernel_rfl) (by kernel_rfl) (by kernel_rfl) (by kernel_rfl) (by kernel_rfl) (by kernel_rfl) (Gv.idxM (j := b.term.var.toNat) Tryz.underlying23 Tryz.sizeOf38 rfl rfl (by omega) v2) ?_
                refine AAny.take (i := 7) rfl (by kernel_rfl) (by kernel_rfl) (by kernel_rfl) (by kernel_rfl) (by kernel_rfl) (by kernel_rfl) (Gv.fieldF Tryz.underlying38 rfl Tryz.sizeOf9 (by decide) rfl rfl) ?_
                refine AAny.take (i := 8) rfl (by kernel_rfl) (by kernel_rfl) (by kernel_rfl) (by kernel_rfl) (by kernel_rfl) (by kernel_rfl) (Gv.load1F (c := .str _) Tryz.isAgg9 rfl) ?_
                refine AAny.take (i := 9) rfl (by kernel_rfl) (by kernel_rfl) (by kernel_rfl) (by kernel_rfl) (by kernel_rfl) (by kernel_rfl) (Gv.addT rfl rfl (by (try simp only [app_size]); (try simp only [lit_size, List.size_toArray, List.length_cons, List.length_nil]); omega)) ?_
                refine AAny.take (i := 10) rfl (by kernel_rfl) (by kernel_rfl) (by kernel_rfl) (by kernel_rfl) (by kernel_rfl) (by kernel_rfl) (Gv.addT rfl rfl (by (try simp only [app_size]); (try simp only [lit_size, List.size_toArray, List.length_cons, List.length_nil]); omega)) ?_
                refine AAny.take (i := 11) rfl (by kernel_rfl) (by kernel_rfl) (by kernel_rfl) (by kernel_rfl) (by kernel_rfl) (by kernel_rfl) (Gv.fieldF Tryz.underlying27 rfl Tryz.sizeOf25 (by decide) rfl rfl) ?_
                refine AAny.take (i := 12) rfl (by kernel_rfl) (by kernel_rfl) (by kernel_rfl) (by kernel_rfl) (by kernel_rfl) (by kernel_rfl) (Gv.load1F (c := .fro _ _) Tryz.isAgg25 rfl) ?_
                refine AAny.take (i := 13) rfl (by kernel_rfl) (by kernel_rfl) (by kernel_rfl) (by kernel_rfl) (by kernel_rfl) (by kernel_rfl) (Gv.fieldO Tryz.underlying46 rfl Tryz.sizeOf44 (by decide) rfl rfl) ?_
                refine AAny.take (i := 14) rfl (by kernel_rfl) (by kernel_rfl) (by kernel_rfl) (by kernel_rfl) (by kernel_rfl) (by kernel_rfl) (Gv.idxAO (j := 0) Tryz.underlying44 Tryz.sizeOf3 rfl rfl rfl (by decide) rfl) ?_
                refine AAny.take (i := 15) rfl (by kernel_rfl) (by kernel_rfl) (by kernel_rfl) (by kernel_rfl) (by kernel_rfl) (by kernel_rfl) (Gv.load1C (c := .int _ _) Tryz.isAgg3 rfl ⟨_, .head⟩ rfl) ?_
                refine AAny.take (i := 16) rfl (by kernel_rfl) (by kernel_rfl) (by kernel_rfl) (by kernel_rfl) (by kernel_rfl) (by kernel_rfl) (Gv.idxM (j := b.term.to0.toNat) Tryz.underlying25 Tryz.sizeOf48 rfl rfl (by omega) b2) ?_
                refine AAny.take (i := 17) rfl (by kernel_rfl) (by kernel_rfl) (by kernel_rfl) (by kernel_rfl) (by kernel_rfl) (by kernel_rfl) (Gv.fieldF Tryz.underlying48 rfl Tryz.sizeOf9 (by decide) rfl rfl) ?_
                refine AAny.take (i := 18) rfl (by kernel_rfl) (by kernel_rfl) (by kernel_rfl) (by kernel_rfl) (by kernel_rfl) (by kernel_rfl) (Gv.load1F (c := .str _) Tryz.isAgg9 rfl) ?_
                refine AAny.take (i := 19) rfl (by kernel_rfl) (by kernel_rfl) (by kernel_rfl) (by kernel_rfl) (by kernel_rfl) (by kernel_rfl) (Gv.addT rfl rfl (by (try simp only [app_size]); (try simp only [lit_size, List.size_toArray, List.length_cons, List.length_nil]); omega)) ?_
                refine AAny.take (i := 20) rfl (by kernel_rfl) (by kernel_rfl) (by kernel_rfl) (by kernel_rfl) (by kernel_rfl) (by kernel_rfl) (Gv.addT rfl rfl (by (try simp only [app_size]); (try simp only [lit_size, List.size_toArray, List.length_cons, List.length_nil]); omega)) ?_
                refine AAny.take (i := 21) rfl (by kernel_rfl) (by kernel_rfl) (by kernel_rfl) (by kernel_rfl) (by kernel_rfl) (by kernel_rfl) (Gv.fieldF Tryz.underlying27 rfl Tryz.sizeOf25 (by decide) rfl rfl) ?_
                refine AAny.take (i := 22) rfl (by kernel_rfl) (by kernel_rfl) (by kernel_rfl) (by kernel_rfl) (by kernel_rfl) (by kernel_rfl) (Gv.load1F (c := .fro _ _) Tryz.isAgg25 rfl) ?_
                refine AAny.take (i := 23) rfl (by kernel_rfl) (by kernel_rfl) (by kernel_rfl) (by kernel_rfl) (by kernel_rfl) (by kernel_rfl) (Gv.fieldO Tryz.underlying46 rfl Tryz.sizeOf44 (by decide) rfl rfl) ?_
                refine AAny.take (i := 24) rfl (by kernel_rfl) (by kernel_rfl) (by kernel_rfl) (by kernel_rfl) (by kernel_rfl) (by kernel_rfl) (Gv.idxAO (j := 1) Tryz.underlying44 Tryz.sizeOf3 rfl rfl rfl (by decide) rfl) ?_
                refine AAny.take (i := 25) rfl (by kernel_rfl) (by kernel_rfl) (by kernel_rfl) (by kernel_rfl) (by kernel_rfl) (by kernel_rfl) (Gv.load1C (c := .int _ _) Tryz.isAgg3 rfl ⟨_, .head⟩ rfl) ?_
                refine AAny.take (i := 26) rfl (by kernel_rfl) (by kernel_rfl) (by kernel_rfl) (by kernel_rfl) (by kernel_rfl) (by kernel_rfl) (Gv.idxM (j := b.term.to1.toNat) Tryz.underlying25 Tryz.sizeOf48 rfl rfl (by omega) c2) ?_
                refine AAny.take (i := 27) rfl (by kernel_rfl) (by kernel_rfl) (by kernel_rfl) (by kernel_rfl) (by kernel_rfl) (by kernel_rfl) (Gv.fieldF Tryz.underlying48 rfl Tryz.sizeOf9 (by decide) rfl rfl) ?_
                refine AAny.take (i := 28) rfl (by kernel_rfl) (by kernel_rfl) (by kernel_rfl) (by kernel_rfl) (by kernel_rfl) (by kernel_rfl) (Gv.load1F (c := .str _) Tryz.isAgg9 rfl) ?_
                refine AAny.take (i := 29) rfl (by kernel_rfl) (by kernel_rfl) (by kernel_rfl) (by kernel_rfl) (by kernel_rfl) (by kernel_rfl) (Gv.addT rfl rfl (by (try simp only [app_size]); (try simp only [lit_size, List.size_toArray, List.length_cons, List.length_nil]); omega)) ?_
                refine AAny.take (i := 30) rfl (by kernel_rfl) (by kernel_rfl) (by kernel_rfl) (by kernel_rfl) (by kernel_rfl) (by kernel_rfl) (Gv.addT rfl rfl (by (try simp only [app_size]); (try simp only [lit_size, List.size_toArray, List.length_cons, List.length_nil]); omega)) ?_
                refine AAny.take (i := 31) rfl (by kernel_rfl) (by kernel_rfl) (by kernel_rfl) (by kernel_rfl) (by kernel_rfl) (by kernel_rfl) (Gv.assign (v := .str _) rfl) ?_
                refine AAny.done (by kernel_rfl) ?_
                refine AWP.region rfl ?_
                refine AOps.val (Gv.add rfl rfl (by unfold I64; omega)) ?_
                refine AOps.val (Gv.move (v := .int _ _) rfl) ?_
                refine AOps.nil ?_
                exact ⟨(k + 1, ((((((acc6 ++ (⟨#[105, 102, 32]⟩ : ByteArray)) ++ f.vars[b.term.var.toNat].name) ++ spc) ++ f.blocks[b.term.to0.toNat].name) ++ spc) ++ f.blocks[b.term.to1.toNat].name) ++ nl), ⟨rfl, rfl, rfl, trivial⟩, ⟨rfl, rfl, trivial⟩, ⟨_, (.drop (.drop (.refl _))), rfl⟩, ⟨hk4, by dsimp only; rw [hnext, unB_app, ← hacc6]; unfold termL; rw [if_neg k0, if_pos k1, lineS_four, v4, b4, c4, show (⟨#[105, 102, 32]⟩ : ByteArray) = ifS ++ spc by decide]; simp only [ByteArray.append_assoc], by dsimp only; simp only [app_size]; have e1 : nl.size = 1 := rfl; have e2 : (⟨#[105, 102, 32]⟩ : ByteArray).size = 3 := rfl; have e3 : spc.size = 1 := rfl; omega⟩, by dsimp only; omega⟩
              · skip
                have k1 : ¬ b.term.kind = 1 := k1
                have t1 := termOK_2 hb3 k0 k1
                obtain ⟨v1, v2, v3, v4⟩ := has_get t1
                have hs1 : (f.vars[b.term.var.toNat]).name.size ≤ 1000 := by rw [← v4]; exact vname_sz hT t1
                refine AWP.region rfl ?_
                refine AOps.val (Gv.move (v := .str _) rfl) ?_
                refine AOps.val (Gv.addT rfl rfl (by (try simp only [app_size]); (try simp only [lit_size, List.size_toArray, List.length_cons, List.length_nil]); omega)) ?_
                refine AOps.val (Gv.fieldF Tryz.underlying27 rfl Tryz.sizeOf23 (by decide) rfl rfl) ?_
                refine AOps.val (Gv.load1F (c := .fro _ _) Tryz.isAgg23 rfl) ?_
                refine AOps.val (Gv.fieldO Tryz.underlying46 rfl Tryz.sizeOf3 (by decide) rfl rfl) ?_
                refine AOps.val (Gv.load1C (c := .int _ _) Tryz.isAgg3 rfl ⟨_, .head⟩ rfl) ?_
                refine AOps.val (Gv.idxM (j := b.term.var.toNat) Tryz.underlying23 Tryz.sizeOf38 rfl rfl (by omega) v2) ?_
                refine AOps.val (Gv.fieldF Tryz.underlying38 rfl Tryz.sizeOf9 (by decide) rfl rfl) ?_
                refine AOps.val (Gv.load1F (c := .str _) Tryz.isAgg9 rfl) ?_
                refine AOps.val (Gv.addT rfl rfl (by (try simp only [app_size]); (try simp only [lit_size, List.size_toArray, List.length_cons, List.length_nil]); omega)) ?_
                refine AOps.val (Gv.addT rfl rfl (by (try simp only [app_size]); (try simp only [lit_size, List.size_toArray, List.length_cons, List.length_nil]); omega)) ?_
                refine AOps.val (Gv.assign (v := .str _) rfl) ?_
                refine AOps.nil ?_
                refine AWP.region rfl ?_
                refine AOps.val (Gv.add rfl rfl (by unfold I64; omega)) ?_
                refine AOps.val (Gv.move (v := .int _ _) rfl) ?_
                refine AOps.nil ?_
                exact ⟨(k + 1, ((acc6 ++ (⟨#[114, 101, 116, 32]⟩ : ByteArray)) ++ f.vars[b.term.var.toNat].name) ++ nl), ⟨rfl, rfl, rfl, trivial⟩, ⟨rfl, rfl, trivial⟩, ⟨_, (.drop (.drop (.refl _))), rfl⟩, ⟨hk4, by dsimp only; rw [hnext, unB_app, ← hacc6]; unfold termL; rw [if_neg k0, if_neg k1, lineS_two, v4, show (⟨#[114, 101, 116, 32]⟩ : ByteArray) = retS ++ spc by decide]; simp only [ByteArray.append_assoc], by dsimp only; simp only [app_size]; have e1 : nl.size = 1 := rfl; have e2 : (⟨#[114, 101, 116, 32]⟩ : ByteArray).size = 4 := rfl; omega⟩, by dsimp only; omega⟩
      · skip
        obtain rfl : k = f.blocks.length := by simp at cb; omega
        rw [List.take_length] at hacc3
        have he : acc3 = textF f := by rw [hacc3, ← hlines]; rfl
        refine AWP.exit ?_
        refine AWP.seq ?_
        refine AWP.region rfl ?_
        refine AOps.val (Gv.move (v := .str _) rfl) ?_
        refine AOps.val (Gv.assign (v := .str _) rfl) ?_
        refine AOps.nil ?_
        refine AWP.ret ?_
        repeat (first | refine aseqQ_ret ?_ | refine ablockQ_ret ?_)
        refine afin.t1 (x := .str _) rfl ?_
        exact ⟨(), by rw [he], Left.none0 _, by rw [← he]; omega⟩
theorem refText_own (f : PFunc) (hS : ShapedP f) (hT : TOk f) (hn : NumsOk f) : ACall Tryz.prog E 9 [.agg (encF f)] [] (fun x O => ∃ _ : Unit, x = .str (textF f) ∧ O = [] ∧ (textF f).size ≤ 1000002000000) :=
  ACall.exact (x := fun _ : Unit => .str (textF f)) (M := fun _ => []) (p := fun _ => (textF f).size ≤ 1000002000000) (refText_ex f hS hT hn)
end Go.Proofs.YtdkhlgiohpdihaaGreatDoor
namespace Go.Proofs.YtdkhlgiohpdihaaGreatDoor
open Go Go.Shelf Go.RowKit Go.Proofs Go.Lib
variable {P : Program} {ρ : Ren}
set_option maxHeartbeats 1000000 in
set_option maxRecDepth 100000 in
theorem string_raw (L : Lays.n169 P ρ) (X : Builder.Extra P ρ) (b g cap : Nat) (p : Value) (cur : Array Value) (l : List UInt8) (w : World) (hbk : w.heap[b]? = some (.cells #[p, .slice (some ⟨g, 0, none⟩) l.length cap] (ρ.t 72) (0, 0)))
    (hg : w.heap[g]? = some (.cells cur (ρ.t 5) (0, 0))) (hnc : l.length ≤ cap) (hcs : cap ≤ cur.size) (hsm : l.length ≤ 9223372036854775807) (hcell : ∀ (j : Nat) (x : UInt8), l[j]? = some x → cur[j]? = some (Value.int .u8 x.toNat)) (h0 : l ≠ []) :
    Calls P (ρ.f 169) #[.pointer (some ⟨b, 0, none⟩)] w fun e w' => e = .returned (.string ⟨l.toArray⟩) ∧ w' = w.drew.freeze ⟨g, 0, none⟩ l.length := by
  have hl0 : l.length ≠ 0 := by simpa using h0
  have c1 : w.drew.cell? ⟨b, 1, none⟩ = some (.slice (some ⟨g, 0, none⟩) l.length cap) := by
    have : w.drew.heap[b]? = some (.cells #[p, .slice (some ⟨g, 0, none⟩) l.length cap] (ρ.t 72) (0, 0)) := hbk
    rw [Lib.cell_of_heap this]; rfl
  have hSD : (Builtin.unsafeSliceData_ #[(ρ.t 37)] (ρ.t 127) #[.slice (some ⟨g, 0, none⟩) l.length cap]).run P w.drew = .ok (.pointer (some ⟨g, 0, none⟩)) w.drew :=
    Lib.run_unsafeSliceData_row _ _ _ _ _ _ (by omega)
  have hg' : w.drew.heap[g]? = some (.cells cur (ρ.t 5) (0, 0)) := hg
  have hUS : (Builtin.unsafeString_ #[(ρ.t 127), (ρ.t 3)] (ρ.t 9) #[.pointer (some ⟨g, 0, none⟩), .int .i64 l.length]).run P w.drew = .ok (.string ⟨l.toArray⟩) (w.drew.freeze ⟨g, 0, none⟩ l.length) := by
    refine Lib.run_unsafeString_row w.drew (ρ.t 127) (ρ.t 3) (ρ.t 9) (ρ.t 5) L.t127 X.cellsByte g cur.size (by simp [World.shape?, hg']) l h0 (by omega) (by omega) ?_
    intro j x hx
    have ha : (⟨g, 0, none⟩ : Addr).add j = ⟨g, j, none⟩ := by unfold Addr.add; split <;> simp_all
    rw [ha, Lib.cell_of_heap hg']
    exact hcell j x hx
  have mixed := L.mixed
  have t72 := L.t72; have a72 := L.a72; have z72 := L.z72; have v72 := L.v72; have u72 := run_underlying L.t72
  have t70 := L.t70; have a70 := L.a70; have z70 := L.z70; have v70 := L.v70; have u70 := run_underlying L.t70
  have t37 := L.t37; have a37 := L.a37; have z37 := L.z37; have v37 := L.v37; have u37 := run_underlying L.t37
  have t127 := L.t127; have a127 := L.a127; have z127 := L.z127; have v127 := L.v127; have u127 := run_underlying L.t127
  have t3 := L.t3; have a3 := L.a3; have z3 := L.z3; have v3 := L.v3; have u3 := run_underlying L.t3
  have t9 := L.t9; have a9 := L.a9; have z9 := L.z9; have v9 := L.v9; have u9 := run_underlying L.t9
  have t5 := X.t5; have a5 := X.a5; have z5 := X.z5; have v5 := X.v5; have u5 := run_underlying X.t5
  go_enter L.f169, Body.n169_ntmps ρ
  go_wp2
  go_region_o
  all_goals (go_wp2; go_ret; exact ⟨rfl, rfl⟩)
end Go.Proofs.YtdkhlgiohpdihaaGreatDoor
namespace Go.Proofs.YtdkhlgiohpdihaaGreatDoor
open Go.Proofs Go.Lib Go.Shelf Go.RowKit
set_option maxRecDepth 20000
variable {E : World}
theorem check_new {i : Nat} {x : AV} : ACall Tryz.prog E 60 [.po i 0] [(i, .cells 77 [.raw (.pointer none), x])] (fun z O' => z = .tup [] ∧ O' = [(i, .cells 77 [.po i 0, x])]) := by
  refine ACall.intro Tryz.func60 rfl (by decide) rfl ?_
  refine AWP.seq ?_
  refine AWP.region rfl ?_
  refine AOps.val (Gv.move (v := .po _ _) rfl) ?_
  refine AOps.val (Gv.nilCheckO rfl) ?_
  refine AOps.val (Gv.fieldO Tryz.underlying77 rfl Tryz.sizeOf74 (by decide) rfl rfl) ?_
  refine AOps.val (Gv.load1C (c := .raw _) Tryz.isAgg74 rfl ⟨_, .head⟩ rfl) ?_
  refine AOps.val (Gv.eqlNilR (by kernel_rfl) rfl) ?_
  refine AOps.nil ?_
  refine AWP.condT rfl rfl ?_
  refine AWP.region rfl ?_
  refine AOps.val (Gv.move (v := .po _ _) rfl) ?_
  refine AOps.val (Gv.move (v := .po _ _) rfl) ?_
  refine AOps.val (Gv.toUnsafe Tryz.underlying74 Tryz.underlying160 Tryz.type77 (by decide) rfl ⟨_, .head⟩ (by show 0 < 2; omega)) ?_
  refine AOps.val (Gv.noEscape Tryz.func88 rfl rfl (by kernel_rfl) (by kernel_rfl) rfl) ?_
  refine AOps.val (Gv.fromUnsafe Tryz.underlying160 Tryz.underlying74 Tryz.type77 rfl ⟨_, .head⟩ (by kernel_rfl)) ?_
  refine AOps.val (Gv.nilCheckO rfl) ?_
  refine AOps.val (Gv.fieldO Tryz.underlying77 rfl Tryz.sizeOf74 (by decide) rfl rfl) ?_
  refine AOps.storeC (l := [_]) (new := [_, _]) Tryz.sizeOf74 rfl rfl rfl rfl rfl rfl .head rfl rfl ?_
  refine AOps.nil ?_
  repeat (first | refine aseqQ_ret ?_ | refine ablockQ_ret ?_)
  refine afin.t0 ?_
  exact ⟨rfl, rfl⟩
theorem check_used {i : Nat} {x : AV} : ACall Tryz.prog E 60 [.po i 0] [(i, .cells 77 [.po i 0, x])] (fun z O' => z = .tup [] ∧ O' = [(i, .cells 77 [.po i 0, x])]) := by
  refine ACall.intro Tryz.func60 rfl (by decide) rfl ?_
  refine AWP.seq ?_
  refine AWP.region rfl ?_
  refine AOps.val (Gv.move (v := .po _ _) rfl) ?_
  refine AOps.val (Gv.nilCheckO rfl) ?_
  refine AOps.val (Gv.fieldO Tryz.underlying77 rfl Tryz.sizeOf74 (by decide) rfl rfl) ?_
  refine AOps.val (Gv.load1C (c := .po _ _) Tryz.isAgg74 rfl ⟨_, .head⟩ rfl) ?_
  refine AOps.val (Gv.eqlNilO (by kernel_rfl) rfl) ?_
  refine AOps.nil ?_
  refine AWP.condF rfl rfl ?_
  refine AWP.seq ?_
  refine AWP.region rfl ?_
  refine AOps.val (Gv.move (v := .po _ _) rfl) ?_
  refine AOps.val (Gv.nilCheckO rfl) ?_
  refine AOps.val (Gv.fieldO Tryz.underlying77 rfl Tryz.sizeOf74 (by decide) rfl rfl) ?_
  refine AOps.val (Gv.load1C (c := .po _ _) Tryz.isAgg74 rfl ⟨_, .head⟩ rfl) ?_
  refine AOps.val (Gv.move (v := .po _ _) rfl) ?_
  refine AOps.val (Gv.neqPO Tryz.underlying74 Tryz.type77 rfl rfl) ?_
  refine AOps.nil ?_
  refine AWP.condF rfl rfl ?_
  refine AWP.skip ?_
  repeat (first | refine aseqQ_ret ?_ | refine ablockQ_ret ?_)
  refine afin.t0 ?_
  exact ⟨rfl, rfl⟩
def bldO (i j : Nat) (p0 : AV) (acc : ByteArray) : OL := [(i, .cells 77 [p0, .own j acc.size]), (j, .grow 1 5 (strAV acc))]
theorem bld_push {i j : Nat} {acc s : ByteArray} : [(i, AObj.cells 77 [.po i 0, .own j (acc.size + s.size)]), (j, .grow 1 5 (strAV acc ++ strAV s))] = bldO i j (.po i 0) (acc ++ s) := by
  unfold bldO; rw [strAV_app, ByteArray.size_append]
theorem write_new {i j : Nat} (acc s : ByteArray) (hb : acc.size + s.size ≤ 140737488355328) : ACall Tryz.prog E 30 [.po i 0, .str s] (bldO i j (.raw (.pointer none)) acc)
    (fun z O' => ∃ j' : Nat, z = .tup [.int .i64 s.size, .raw .nilIface] ∧ Left O' (bldO i j' (.po i 0) (acc ++ s)) ∧ True) := by
  have hl := strAV_len acc
  refine ACall.intro Tryz.func30 rfl (by decide) rfl ?_
  refine AWP.seq ?_
  refine AWP.region rfl ?_
  refine AOps.val (Gv.assign (v := .int _ _) rfl) ?_
  refine AOps.val (Gv.assign (v := .raw _) rfl) ?_
  refine AOps.nil ?_
  refine AWP.seq ?_
  refine AWP.region rfl ?_
  refine AOps.val (Gv.move (v := .po _ _) rfl) ?_
  refine AOps.callA rfl (Part.perm (.l (.r (.rest _)))) (check_new) ?_
  rintro r7 O7 ⟨rfl, rfl⟩
  refine AOps.nil ?_
  refine AWP.seq ?_
  refine AWP.region rfl ?_
  refine AOps.val (Gv.move (v := .po _ _) rfl) ?_
  refine AOps.val (Gv.move (v := .po _ _) rfl) ?_
  refine AOps.val (Gv.nilCheckO rfl) ?_
  refine AOps.val (Gv.fieldO Tryz.underlying77 rfl Tryz.sizeOf75 (by decide) rfl rfl) ?_
  refine AOps.val (Gv.load1C (c := .own _ _) Tryz.isAgg75 rfl ⟨_, .head⟩ rfl) ?_
  refine AOps.val (Gv.move (v := .str _) rfl) ?_
  refine AOps.appendT Tryz.underlying75 Tryz.underlying9 Tryz.type5 rfl rfl rfl rfl rfl (fun _ => (.tail .head)) (by omega) (by omega) ?_
  intro i14
  refine AOps.val (Gv.nilCheckO rfl) ?_
  refine AOps.val (Gv.fieldO Tryz.underlying77 rfl Tryz.sizeOf75 (by decide) rfl rfl) ?_
  refine AOps.storeC (l := [_]) (new := [_, _]) Tryz.sizeOf75 rfl rfl rfl rfl rfl rfl .head rfl rfl ?_
  refine AOps.nil ?_
  refine AWP.seq ?_
  refine AWP.region rfl ?_
  refine AOps.val (Gv.move (v := .str _) rfl) ?_
  refine AOps.val (Gv.lenT Tryz.underlying9 rfl) ?_
  refine AOps.val (Gv.assign (v := .int _ _) rfl) ?_
  refine AOps.val (Gv.assign (v := .raw _) rfl) ?_
  refine AOps.nil ?_
  refine AWP.ret ?_
  repeat (first | refine aseqQ_ret ?_ | refine ablockQ_ret ?_)
  refine afin.t2 (x := .int _ _) (y := .raw _) rfl rfl ?_
  exact ⟨i14, rfl, ⟨_, .refl _, bld_push⟩, trivial⟩
theorem write_used {i j : Nat} (acc s : ByteArray) (hb : acc.size + s.size ≤ 140737488355328) : ACall Tryz.prog E 30 [.po i 0, .str s] (bldO i j (.po i 0) acc)
    (fun z O' => ∃ j' : Nat, z = .tup [.int .i64 s.size, .raw .nilIface] ∧ Left O' (bldO i j' (.po i 0) (acc ++ s)) ∧ True) := by
  have hl := strAV_len acc
  refine ACall.intro Tryz.func30 rfl (by decide) rfl ?_
  refine AWP.seq ?_
  refine AWP.region rfl ?_
  refine AOps.val (Gv.assign (v := .int _ _) rfl) ?_
  refine AOps.val (Gv.assign (v := .raw _) rfl) ?_
  refine AOps.nil ?_
  refine AWP.seq ?_
  refine AWP.region rfl ?_
  refine AOps.val (Gv.move (v := .po _ _) rfl) ?_
  refine AOps.callA rfl (Part.perm (.l (.r (.rest _)))) (check_used) ?_
  rintro r7 O7 ⟨rfl, rfl⟩
  refine AOps.nil ?_
  refine AWP.seq ?_
  refine AWP.region rfl ?_
  refine AOps.val (Gv.move (v := .po _ _) rfl) ?_
  refine AOps.val (Gv.move (v := .po _ _) rfl) ?_
  refine AOps.val (Gv.nilCheckO rfl) ?_
  refine AOps.val (Gv.fieldO Tryz.underlying77 rfl Tryz.sizeOf75 (by decide) rfl rfl) ?_
  refine AOps.val (Gv.load1C (c := .own _ _) Tryz.isAgg75 rfl ⟨_, .head⟩ rfl) ?_
  refine AOps.val (Gv.move (v := .str _) rfl) ?_
  refine AOps.appendT Tryz.underlying75 Tryz.underlying9 Tryz.type5 rfl rfl rfl rfl rfl (fun _ => (.tail .head)) (by omega) (by omega) ?_
  intro i14
  refine AOps.val (Gv.nilCheckO rfl) ?_
  refine AOps.val (Gv.fieldO Tryz.underlying77 rfl Tryz.sizeOf75 (by decide) rfl rfl) ?_
  refine AOps.storeC (l := [_]) (new := [_, _]) Tryz.sizeOf75 rfl rfl rfl rfl rfl rfl .head rfl rfl ?_
  refine AOps.nil ?_
  refine AWP.seq ?_
  refine AWP.region rfl ?_
  refine AOps.val (Gv.move (v := .str _) rfl) ?_
  refine AOps.val (Gv.lenT Tryz.underlying9 rfl) ?_
  refine AOps.val (Gv.assign (v := .int _ _) rfl) ?_
  refine AOps.val (Gv.assign (v := .raw _) rfl) ?_
  refine AOps.nil ?_
  refine AWP.ret ?_
  repeat (first | refine aseqQ_ret ?_ | refine ablockQ_ret ?_)
  refine afin.t2 (x := .int _ _) (y := .raw _) rfl rfl ?_
  exact ⟨i14, rfl, ⟨_, .refl _, bld_push⟩, trivial⟩
theorem line_new {i j : Nat} (acc : ByteArray) (ws : List ByteArray) (hw : ws.length ≤ 100000000) (hz : (lineS ws).size ≤ 10000000000000) (hb : acc.size ≤ 10000000000000) : ACall Tryz.prog E 29 ([.fro 1 (ws.map encS)] ++ [.po i 0]) (bldO i j (.raw (.pointer none)) acc)
    (fun z O' => ∃ j' : Nat, z = .tup [] ∧ Left O' (bldO i j' (.po i 0) (acc ++ (lineS ws ++ nl))) ∧ True) := by
  have hjs : (Lib.join (ws.map (·.data.toList)) [32]).length = (lineS ws).size := (strL_size _).symm
  refine ACall.intro Tryz.func29 rfl (by decide) rfl ?_
  refine AWP.region rfl ?_
  refine AOps.val (Gv.move (v := .fro _ _) rfl) ?_
  refine AOps.callP (join_spec ws _ (by omega) (by show (Lib.join _ [32]).length ≤ _; omega)) rfl ?_
  refine AOps.val (Gv.addT rfl rfl (by show (lineS ws).size + 1 ≤ _; omega)) ?_
  refine AOps.callA rfl (Part.perm (.l (.l (.rest _)))) ((write_new acc (lineS ws ++ nl) (by rw [app_size]; show _ + (_ + 1) ≤ _; omega)).exact) ?_
  rintro r6 O6 ⟨j2, rfl, rfl, _⟩
  refine AOps.nil ?_
  repeat (first | refine aseqQ_ret ?_ | refine ablockQ_ret ?_)
  refine afin.t0 ?_
  exact ⟨j2, rfl, ⟨_, .refl _, rfl⟩, trivial⟩
theorem line_used {i j : Nat} (acc : ByteArray) (ws : List ByteArray) (hw : ws.length ≤ 100000000) (hz : (lineS ws).size ≤ 10000000000000) (hb : acc.size ≤ 10000000000000) : ACall Tryz.prog E 29 ([.fro 1 (ws.map encS)] ++ [.po i 0]) (bldO i j (.po i 0) acc)
    (fun z O' => ∃ j' : Nat, z = .tup [] ∧ Left O' (bldO i j' (.po i 0) (acc ++ (lineS ws ++ nl))) ∧ True) := by
  have hjs : (Lib.join (ws.map (·.data.toList)) [32]).length = (lineS ws).size := (strL_size _).symm
  refine ACall.intro Tryz.func29 rfl (by decide) rfl ?_
  refine AWP.region rfl ?_
  refine AOps.val (Gv.move (v := .fro _ _) rfl) ?_
  refine AOps.callP (join_spec ws _ (by omega) (by show (Lib.join _ [32]).length ≤ _; omega)) rfl ?_
  refine AOps.val (Gv.addT rfl rfl (by show (lineS ws).size + 1 ≤ _; omega)) ?_
  refine AOps.callA rfl (Part.perm (.l (.l (.rest _)))) ((write_used acc (lineS ws ++ nl) (by rw [app_size]; show _ + (_ + 1) ≤ _; omega)).exact) ?_
  rintro r6 O6 ⟨j2, rfl, rfl, _⟩
  refine AOps.nil ?_
  repeat (first | refine aseqQ_ret ?_ | refine ablockQ_ret ?_)
  refine afin.t0 ?_
  exact ⟨j2, rfl, ⟨_, .refl _, rfl⟩, trivial⟩
theorem bldLen_spec {i j : Nat} {p0 : AV} (acc : ByteArray) : ACall Tryz.prog E 35 [.po i 0] (bldO i j p0 acc) (fun z O' => z = .int .i64 acc.size ∧ O' = bldO i j p0 acc) := by
  refine ACall.intro Tryz.func35 rfl (by decide) rfl ?_
  refine AWP.seq ?_
  refine AWP.region rfl ?_
  refine AOps.val (Gv.assign (v := .int _ _) rfl) ?_
  refine AOps.nil ?_
  refine AWP.seq ?_
  refine AWP.region rfl ?_
  refine AOps.val (Gv.move (v := .po _ _) rfl) ?_
  refine AOps.val (Gv.nilCheckO rfl) ?_
  refine AOps.val (Gv.fieldO Tryz.underlying77 rfl Tryz.sizeOf75 (by decide) rfl rfl) ?_
  refine AOps.val (Gv.load1C (c := .own _ _) Tryz.isAgg75 rfl ⟨_, .head⟩ rfl) ?_
  refine AOps.val (Gv.lenO Tryz.underlying75 rfl) ?_
  refine AOps.val (Gv.assign (v := .int _ _) rfl) ?_
  refine AOps.nil ?_
  refine AWP.ret ?_
  repeat (first | refine aseqQ_ret ?_ | refine ablockQ_ret ?_)
  refine afin.t1 (x := .int _ _) rfl ?_
  exact ⟨rfl, rfl⟩
theorem bldString_spec {i j : Nat} {p0 : AV} (acc : ByteArray) (h0 : acc.size ≠ 0) (hb : acc.size ≤ 140737488355328) : ACall Tryz.prog E 36 [.po i 0] (bldO i j p0 acc) (fun z O' => z = .str acc ∧ O' = []) := fun I F w vs h1 h2 => by
  obtain ⟨v, us, rfl, ⟨b, c, e1, rfl⟩, h3⟩ := h1
  have h3 : us = [] := h3
  subst h3
  obtain ⟨ht, L, hL, hS⟩ := h2
  obtain ⟨A, B0, rfl, hA, B, C, rfl, hB, hC⟩ := hL
  have hC : C = [] := hC
  subst hC
  obtain ⟨b', c', ws, e2, hws, hwc, rfl⟩ := hA
  simp only at e2
  rw [e1] at e2
  cases e2
  obtain ⟨v0, us, rfl, hv0, v1, us2, rfl, ⟨g, cg, e3, rfl⟩, hz⟩ := hws
  have hz : us2 = [] := hz
  subst hz
  obtain ⟨g', cg', n', bs, e4, hbs, hbc, h5, h6, h7⟩ := hB
  simp only at e4
  rw [e3] at e4
  simp only [Option.some.injEq, Prod.mk.injEq] at e4
  obtain ⟨rfl, rfl⟩ := e4
  have hv := strAV_un hbs
  subst hv
  have hlen := strCells_length acc
  have hl2 : acc.data.toList.length = acc.size := Array.length_toList
  rcases h7 with ⟨ea, hc0, _⟩ | ⟨g2, junk, ea, rfl, hj⟩
  · omega
  · cases g with
    | none => simp [adr] at ea
    | some g =>
      simp [adr] at ea
      subst ea
      have hS1 : SL I.k ((b, .cells #[v0, .slice (some ⟨g, 0, none⟩) acc.size cg] 77 (0, 0)) :: (g, .cells (strCells acc ++ junk).toArray 5 (0, 0)) :: F) E w := by simpa [adr] using hS
      have hbk := hS1.own _ (.head _)
      have hgk := hS1.own _ (.tail _ (.head _))
      simp only at hbk hgk
      refine Fn.ofCalls Tryz.func36 rfl (by decide) ?_
      have hcall := string_raw Tryz.lays169 Tryz.Builder_Extra_169 b g cg v0 (strCells acc ++ junk).toArray acc.data.toList w (by rw [hl2]; exact hbk) hgk (by rw [hl2]; omega) (by rw [List.size_toArray, hj]; omega) (by omega) (fun k x hx => by
        have hk : k < (strCells acc).length := by rw [hlen, ← hl2]; exact (List.getElem?_eq_some_iff.1 hx).1
        rw [List.getElem?_toArray, List.getElem?_append_left hk]
        unfold strCells
        rw [List.getElem?_map, hx]; rfl) (fun e => h0 (by rw [← hl2, e]; rfl))
      refine hcall.mono fun e w' ⟨he, hw⟩ => ⟨_, he, I, .str acc, [], .refl _, rfl, ⟨ht, [], rfl, ?_⟩, rfl, rfl⟩
      subst hw
      have hl0 : ¬ acc.data.toList.length = 0 := by rw [hl2]; exact h0
      refine hS1.drop.drew.scrap ?_ ?_ ?_ fun k hk => ?_
      · unfold World.freeze; rw [if_neg hl0]
      · unfold World.freeze; rw [if_neg hl0]
      · unfold World.freeze; rw [if_neg hl0]
      · unfold World.freeze; rw [if_neg hl0]
        simp only [Array.getElem?_modify]
        rw [if_neg (by omega)]
end Go.Proofs.YtdkhlgiohpdihaaGreatDoor
