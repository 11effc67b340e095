/- What the listed variables of Go's library read as; programs whose numbers are int64s. No conditions. -/
import Derived.Test.YtdkhlgiohpdihaaGreatDoorYk
import Derived.Test.YtdkhlgiohpdihaaGreatDoorYg
import Derived.Test.YtdkhlgiohpdihaaGreatDoorYc
import Derived.Lib.LaidRTab
import Derived.Lib.LaidU8
import Derived.Stop.LaidErr
import Derived.Shelf.Vars
import Derived.Handed
namespace Go.Proofs.YtdkhlgiohpdihaaGreatDoor
open Go.Proofs Go.Lib Go.Shelf Go.RowKit
theorem ps62_3 : PlacesS Tryz.prog 62 9 3 1 [.str ⟨#[]⟩, .str ⟨#[]⟩, .str ⟨#[]⟩] := ⟨_, Tryz.underlying62, Tryz.sizeOf9, Tryz.zeroValue9, by decide, by decide, by kernel_rfl⟩
set_option maxRecDepth 20000
variable {E : World}
theorem lit_size (a : Array UInt8) : (⟨a⟩ : ByteArray).size = a.size := rfl
theorem unB_app : ∀ (ls : List (List ByteArray)) (l : List ByteArray), unB (ls ++ [l]) = unB ls ++ (lineS l ++ nl)
  | [], l => by show (lineS l ++ nl) ++ unB [] = unB [] ++ (lineS l ++ nl); show (lineS l ++ nl) ++ ByteArray.empty = ByteArray.empty ++ _; rw [ByteArray.append_empty, ByteArray.empty_append]
  | x :: ls, l => by rw [List.cons_append, unB, unB_app ls l, unB]; simp only [ByteArray.append_assoc]
theorem lineS_snoc (w : ByteArray) (ws : List ByteArray) (a : ByteArray) : lineS ((w :: ws) ++ [a]) = (lineS (w :: ws) ++ spc) ++ a := joinS_app w ws a
theorem lineS_one (w : ByteArray) : lineS [w] = w := joinS_one w
theorem lineS_two (a b : ByteArray) : lineS [a, b] = (a ++ spc) ++ b := by rw [show [a, b] = [a] ++ [b] from rfl, lineS_snoc, lineS_one]
theorem lineS_three (a b c : ByteArray) : lineS [a, b, c] = (((a ++ spc) ++ b) ++ spc) ++ c := by rw [show [a, b, c] = [a, b] ++ [c] from rfl, lineS_snoc, lineS_two]
theorem lineS_four (a b c d : ByteArray) : lineS [a, b, c, d] = (((((a ++ spc) ++ b) ++ spc) ++ c) ++ spc) ++ d := by rw [show [a, b, c, d] = [a, b, c] ++ [d] from rfl, lineS_snoc, lineS_three]
theorem ty_row {t : Int} (h : 0 ≤ t ∧ t ≤ 2) : ([[.str ⟨#[105, 110, 116]⟩], [.str ⟨#[98, 111, 111, 108]⟩], [.str ⟨#[97, 114, 114]⟩]] : List (List AV))[t.toNat]? = some [.str (tyWord t)] := by
  have : t = 0 ∨ t = 1 ∨ t = 2 := by omega
  rcases this with rfl | rfl | rfl <;> rfl
theorem ty_size {t : Int} (h : 0 ≤ t ∧ t ≤ 2) : (tyWord t).size ≤ 4 := by
  have : t = 0 ∨ t = 1 ∨ t = 2 := by omega
  rcases this with rfl | rfl | rfl <;> decide
structure TBlk (b : PBlock) : Prop where
  phis : b.phis.length ≤ 2100
  insts : b.insts.length ≤ 2100
  args : ∀ p ∈ b.phis, p.args.length ≤ 2100 ∧ p.from_.length ≤ 2100
structure TOk (f : PFunc) : Prop where
  vars : f.vars.length ≤ 1000
  blks : f.blocks.length ≤ 100
  vn : ∀ v ∈ f.vars, v.name.size ≤ 1000
  bn : ∀ b ∈ f.blocks, b.name.size ≤ 1000
  each : ∀ b ∈ f.blocks, TBlk b
theorem inst_line_eq {f : PFunc} {x : PInst} (h : InstP f x) : refLine f x = lineS (wordsOf f x) := by
  rw [← line_eq h]; unfold instLine; rw [if_pos ((instOK_iff f x).2 h)]; rfl
theorem inter_succ : ∀ {l m : List ByteArray} {k : Nat} {a b : ByteArray}, l[k]? = some a → m[k]? = some b → inter (l.take (k + 1)) (m.take (k + 1)) = inter (l.take k) (m.take k) ++ [a, b]
  | [], _, _, _, _, h, _ => by simp at h
  | _ :: _, [], _, _, _, _, h => by simp at h
  | x :: l, y :: m, 0, a, b, h1, h2 => by
    simp at h1 h2; subst h1 h2
    simp [inter]
  | x :: l, y :: m, k + 1, a, b, h1, h2 => by
    rw [List.take_succ_cons, List.take_succ_cons, List.take_succ_cons, List.take_succ_cons, inter, inter, inter_succ (by simpa using h1) (by simpa using h2)]; rfl
def phiLk (f : PFunc) (p : PPhi) (k : Nat) : List ByteArray := vname f p.dst :: eqS :: phiS :: inter ((p.from_.map (bname f)).take k) ((p.args.map (vname f)).take k)
theorem phiLk_succ {f : PFunc} {p : PPhi} {k : Nat} (h1 : k < p.from_.length) (h2 : k < p.args.length) : lineS (phiLk f p (k + 1)) = (((lineS (phiLk f p k) ++ spc) ++ bname f p.from_[k]) ++ spc) ++ vname f p.args[k] := by
  have e1 : (p.from_.map (bname f))[k]? = some (bname f p.from_[k]) := by rw [List.getElem?_map, List.getElem?_eq_getElem h1]; rfl
  have e2 : (p.args.map (vname f))[k]? = some (vname f p.args[k]) := by rw [List.getElem?_map, List.getElem?_eq_getElem h2]; rfl
  unfold phiLk
  rw [inter_succ e1 e2]
  have : ∀ (a : ByteArray) (l : List ByteArray) (x y : ByteArray), a :: (l ++ [x, y]) = ((a :: l) ++ [x]) ++ [y] := fun a l x y => by simp
  rw [show vname f p.dst :: eqS :: phiS :: (inter ((p.from_.map (bname f)).take k) ((p.args.map (vname f)).take k) ++ [bname f p.from_[k], vname f p.args[k]]) = ((vname f p.dst :: eqS :: phiS :: inter ((p.from_.map (bname f)).take k) ((p.args.map (vname f)).take k)) ++ [bname f p.from_[k]]) ++ [vname f p.args[k]] by simp]
  rw [List.cons_append, lineS_snoc, ← List.cons_append, lineS_snoc]
def headLk (f : PFunc) (k : Nat) : List ByteArray := funcS :: (f.vars.take k).map pairW
theorem headLk_succ {f : PFunc} {k : Nat} (h : k < f.vars.length) : lineS (headLk f (k + 1)) = (((lineS (headLk f k) ++ spc) ++ f.vars[k].name) ++ colon) ++ tyWord f.vars[k].ty := by
  unfold headLk
  rw [List.take_succ_eq_append_getElem h, List.map_append, List.map_cons, List.map_nil, ← List.cons_append, lineS_snoc]
  unfold pairW
  simp only [ByteArray.append_assoc]
theorem var_line (v : PVar) : lineS (varL v) = ((((⟨#[118, 97, 114, 32]⟩ : ByteArray) ++ v.name) ++ colon) ++ tyWord v.ty) := by
  unfold varL; rw [lineS_two]; unfold pairW
  have : (⟨#[118, 97, 114, 32]⟩ : ByteArray) = varS ++ spc := by decide
  rw [this]; simp only [ByteArray.append_assoc]
theorem vname_sz {f : PFunc} (hT : TOk f) {v : Int} (h : hasV f v = true) : (vname f v).size ≤ 1000 := by
  obtain ⟨h1, _, _, h2⟩ := has_get h
  rw [h2]; exact hT.vn _ (List.getElem_mem h1)
theorem bname_sz {f : PFunc} (hT : TOk f) {v : Int} (h : hasB f v = true) : (bname f v).size ≤ 1000 := by
  obtain ⟨h1, _, _, h2⟩ := hasB_get h
  rw [h2]; exact hT.bn _ (List.getElem_mem h1)
theorem refLine_sz {f : PFunc} (hT : TOk f) {x : PInst} (hx : InstP f x) (hI : -9223372036854775808 ≤ x.num ∧ x.num ≤ 9223372036854775807) : x.args.length ≤ 3 ∧ (refLine f x).size ≤ 20000 := by
  have hF := instP_F hx
  have h3 := takesL_len x.op
  have hl := hF.len
  have hs := refArgs_size hT.vn x x.args.length (Nat.le_refl _)
  have hi := itoa_length_le x.num hI.1 hI.2
  refine ⟨by omega, ?_⟩
  unfold refLine
  split
  · rw [app_size, app_size, strL_size]
    have : spc.size = 1 := rfl
    omega
  · omega
theorem Left.none0 : ∀ O : OL, Left O []
  | [] => ⟨_, .refl _, rfl⟩
  | x :: O => let ⟨_, h1, h2⟩ := Left.none0 O; ⟨_, .drop h1, h2⟩
theorem refText_ex (f : PFunc) (hS : ShapedP f) (hT : TOk f) (hn : NumsOk f) : ACall Tryz.prog E 9 [.agg (encF f)] [] (fun x O => ∃ _ : Unit, x = .str (textF f) ∧ Left O [] ∧ (textF f).size ≤ 1000002000000) := by
  obtain ⟨hf, hu, hb, hne⟩ := shaped_ok hS
  have hpar := hS.2.1
  have hpl : f.params.length ≤ f.vars.length := by have s1 := hS.1; unfold bad1 at s1; simp at s1; omega
  have hvl := hT.vars
  have hbl := hT.blks
  refine ACall.intro Tryz.func9 rfl (by decide) rfl ?_
  refine AWP.seq ?_
  refine AWP.region rfl ?_
  refine AOps.boxF (cs := _) rfl rfl rfl ?_
  refine AOps.val (Gv.assign (v := .str _) rfl) ?_
  refine AOps.nil ?_
  refine AWP.seq ?_
  refine AWP.region rfl ?_
  refine AOps.buildSliceFF (rows := [[_], [_], [_]]) ps62_3 rfl rfl rfl rfl rfl ?_
  refine AOps.val (Gv.assign (v := .fro _ _) rfl) ?_
  refine AOps.nil ?_
  refine AWP.seq ?_
  refine AWP.region rfl ?_
  refine AOps.val (Gv.assign (v := .str _) rfl) ?_
  refine AOps.nil ?_
  refine AWP.seq ?_
  refine AWP.seq ?_
  refine AWP.region rfl ?_
  refine AOps.val (Gv.fieldF Tryz.underlying27 rfl Tryz.sizeOf24 (by decide) rfl rfl) ?_
  refine AOps.val (Gv.load1F (c := .fro _ _) Tryz.isAgg24 rfl) ?_
  refine AOps.val (Gv.lenM Tryz.underlying24 rfl) ?_
  refine AOps.val (Gv.move (v := .int _ _) rfl) ?_
  refine AOps.nil ?_
  refine AWP.block ?_
  refine AWP.loop (γ := Nat × ByteArray) [1, 3, 19] (fun g => [(20, .int .i64 g.1), (4, .str g.2)]) (fun g => []) (fun g => g.1 ≤ f.params.length ∧ g.2 = lineS (headLk f g.1) ∧ g.2.size ≤ 4 + g.1 * 1100) (fun g => f.params.length - g.1) (0, funcS) ⟨rfl, rfl, trivial⟩ ⟨_, (.refl _), rfl⟩ (⟨Nat.zero_le _, (lineS_one funcS).symm, by decide⟩) ?_
  rintro ⟨k, acc⟩ ⟨hk, hacc, hsz⟩
  try dsimp only at *
  refine AWP.seq ?_
  refine AWP.region rfl ?_
  refine AOps.val (Gv.lss rfl rfl) ?_
  refine AOps.nil ?_
  refine AWP.seq ?_
  refine AWP.condP rfl (fun ck => ?_) (fun ck => ?_)
  · skip
    have hk2 : k < f.params.length := by omega
    have hk3 : k < f.vars.length := by omega
    have hv := hf.vars _ (List.getElem_mem hk3)
    have hvs := hT.vn _ (List.getElem_mem hk3)
    have hts := ty_size hv.2
    refine AWP.skip ?_
    refine AWP.seq ?_
    refine AWP.block ?_
    refine AWP.seq ?_
    refine AWP.region rfl ?_
    refine AOps.val (Gv.move (v := .int _ _) rfl) ?_
    refine AOps.val (Gv.assign (v := .int _ _) rfl) ?_
    refine AOps.nil ?_
    refine AWP.regionDraw (fun j => false) (by kernel_rfl) rfl (Part.perm (.rest _)) ?_
    refine AAny.take (i := 0) rfl (by kernel_rfl) (by kernel_rfl) (by kernel_rfl) (by kernel_rfl) (by kernel_rfl) (by kernel_rfl) (Gv.move (v := .str _) rfl) ?_
    refine AAny.take (i := 1) rfl (by kernel_rfl) (by kernel_rfl) (by kernel_rfl) (by kernel_rfl) (by kernel_rfl) (by kernel_rfl) (Gv.addT rfl rfl (by (try simp only [app_size]); (try simp only [lit_size, List.size_toArray, List.length_cons, List.length_nil]); omega)) ?_
    refine AAny.take (i := 2) rfl (by kernel_rfl) (by kernel_rfl) (by kernel_rfl) (by kernel_rfl) (by kernel_rfl) (by kernel_rfl) (Gv.fieldF Tryz.underlying27 rfl Tryz.sizeOf23 (by decide) rfl rfl) ?_
    refine AAny.take (i := 3) rfl (by kernel_rfl) (by kernel_rfl) (by kernel_rfl) (by kernel_rfl) (by kernel_rfl) (by kernel_rfl) (Gv.load1F (c := .fro _ _) Tryz.isAgg23 rfl) ?_
    refine AAny.take (i := 4) rfl (by kernel_rfl) (by kernel_rfl) (by kernel_rfl) (by kernel_rfl) (by kernel_rfl) (by kernel_rfl) (Gv.move (v := .int _ _) rfl) ?_
    refine AAny.take (i := 5) rfl (by kernel_rfl) (by kernel_rfl) (by kernel_rfl) (by kernel_rfl) (by kernel_rfl) (by kernel_rfl) (Gv.idxM (j := k) Tryz.underlying23 Tryz.sizeOf38 rfl rfl rfl (List.getElem?_eq_getElem hk3)) ?_
    refine AAny.take (i := 6) rfl (by kernel_rfl) (by kernel_rfl) (by kernel_rfl) (by kernel_rfl) (by kernel_rfl) (by kernel_rfl) (Gv.fieldF Tryz.underlying38 rfl Tryz.sizeOf9 (by decide) rfl rfl) ?_
    refine AAny.take (i := 7) rfl (by kernel_rfl) (by kernel_rfl) (by kernel_rfl) (by kernel_rfl) (by kernel_rfl) (by kernel_rfl) (Gv.load1F (c := .str _) Tryz.isAgg9 rfl) ?_
    refine AAny.take (i := 8) rfl (by kernel_rfl) (by kernel_rfl) (by kernel_rfl) (by kernel_rfl) (by kernel_rfl) (by kernel_rfl) (Gv.addT rfl rfl (by (try simp only [app_size]); (try simp only [lit_size, List.size_toArray, List.length_cons, List.length_nil]); omega)) ?_
    refine AAny.take (i := 9) rfl (by kernel_rfl) (by kernel_rfl) (by kernel_rfl) (by kernel_rfl) (by kernel_rfl) (by kernel_rfl) (Gv.addT rfl rfl (by (try simp only [app_size]); (try simp only [lit_size, List.size_toArray, List.length_cons, List.length_nil]); omega)) ?_
    refine AAny.take (i := 10) rfl (by kernel_rfl) (by kernel_rfl) (by kernel_rfl) (by kernel_rfl) (by kernel_rfl) (by kernel_rfl) (Gv.move (v := .fro _ _) rfl) ?_
    refine AAny.take (i := 11) rfl (by kernel_rfl) (by kernel_rfl) (by kernel_rfl) (by kernel_rfl) (by kernel_rfl) (by kernel_rfl) (Gv.fieldF Tryz.underlying27 rfl Tryz.sizeOf23 (by decide) rfl rfl) ?_
    refine AAny.take (i := 12) rfl (by kernel_rfl) (by kernel_rfl) (by kernel_rfl) (by kernel_rfl) (by kernel_rfl) (by kernel_rfl) (Gv.load1F (c := .fro _ _) Tryz.isAgg23 rfl) ?_
    refine AAny.take (i := 13) rfl (by kernel_rfl) (by kernel_rfl) (by kernel_rfl) (by kernel_rfl) (by kernel_rfl) (by kernel_rfl) (Gv.move (v := .int _ _) rfl) ?_
    refine AAny.take (i := 14) rfl (by kernel_rfl) (by kernel_rfl) (by kernel_rfl) (by kernel_rfl) (by kernel_rfl) (by kernel_rfl) (Gv.idxM (j := k) Tryz.underlying23 Tryz.sizeOf38 rfl rfl rfl (List.getElem?_eq_getElem hk3)) ?_
    refine AAny.take (i := 15) rfl (by kernel_rfl) (by kernel_rfl) (by kernel_rfl) (by kernel_rfl) (by kernel_rfl) (by kernel_rfl) (Gv.fieldF Tryz.underlying38 rfl Tryz.sizeOf36 (by decide) rfl rfl) ?_
    refine AAny.take (i := 16) rfl (by kernel_rfl) (by kernel_rfl) (by kernel_rfl) (by kernel_rfl) (by kernel_rfl) (by kernel_rfl) (Gv.load1F (c := .int _ _) Tryz.isAgg36 rfl) ?_
    refine AAny.take (i := 17) rfl (by kernel_rfl) (by kernel_rfl) (by kernel_rfl) (by kernel_rfl) (by kernel_rfl) (by kernel_rfl) (Gv.idxF (j := f.vars[k].ty.toNat) Tryz.underlying62 Tryz.sizeOf9 rfl rfl (by have := hv.2.1; omega) (ty_row hv.2)) ?_
    refine AAny.take (i := 18) rfl (by kernel_rfl) (by kernel_rfl) (by kernel_rfl) (by kernel_rfl) (by kernel_rfl) (by kernel_rfl) (Gv.load1F (c := .str _) Tryz.isAgg9 rfl) ?_
    refine AAny.take (i := 19) rfl (by kernel_rfl) (by kernel_rfl) (by kernel_rfl) (by kernel_rfl) (by kernel_rfl) (by kernel_rfl) (Gv.addT rfl rfl (by (try simp only [app_size]); (try simp only [lit_size, List.size_toArray, List.length_cons, List.length_nil]); omega)) ?_
    refine AAny.take (i := 20) rfl (by kernel_rfl) (by kernel_rfl) (by kernel_rfl) (by kernel_rfl) (by kernel_rfl) (by kernel_rfl) (Gv.assign (v := .str _) rfl) ?_
    refine AAny.done (by kernel_rfl) ?_
    refine AWP.region rfl ?_
    refine AOps.val (Gv.add rfl rfl (by unfold I64; omega)) ?_
    refine AOps.val (Gv.move (v := .int _ _) rfl) ?_
    refine AOps.nil ?_
    exact ⟨(k + 1, (((acc ++ spc) ++ f.vars[k].name) ++ colon) ++ tyWord f.vars[k].ty), ⟨rfl, rfl, rfl, trivial⟩, ⟨rfl, rfl, trivial⟩, ⟨_, (.refl _), rfl⟩, ⟨hk2, by dsimp only; rw [headLk_succ hk3, hacc], by dsimp only; simp only [app_size]; have e1 : spc.size = 1 := rfl; have e2 : colon.size = 1 := rfl; omega⟩, by dsimp only; omega⟩
  · skip
    obtain rfl : k = f.params.length := by omega
    have hhead : headLk f f.params.length = headL f := rfl
    refine AWP.exit ?_
    refine AWP.seq ?_
    refine AWP.region rfl ?_
    refine AOps.val (Gv.move (v := .str _) rfl) ?_
    refine AOps.val (Gv.addT rfl rfl (by (try simp only [app_size]); (try simp only [lit_size, List.size_toArray, List.length_cons, List.length_nil]); omega)) ?_
    refine AOps.val (Gv.assign (v := .str _) rfl) ?_
    refine AOps.nil ?_
    refine AWP.seq ?_
    refine AWP.seq ?_
    refine AWP.region rfl ?_
    refine AOps.val (Gv.fieldF Tryz.underlying27 rfl Tryz.sizeOf24 (by decide) rfl rfl) ?_
    refine AOps.val (Gv.load1F (c := .fro _ _) Tryz.isAgg24 rfl) ?_
    refine AOps.val (Gv.lenM Tryz.underlying24 rfl) ?_
    refine AOps.val (Gv.assign (v := .int _ _) rfl) ?_
    refine AOps.nil ?_
    refine AWP.block ?_
    refine AWP.loop (γ := Nat × ByteArray) [1, 3] (fun g => [(6, .int .i64 g.1), (4, .str g.2)]) (fun g => []) (fun g => f.params.length ≤ g.1 ∧ g.1 ≤ f.vars.length ∧ g.2 = unB (headL f :: ((f.vars.take g.1).drop f.params.length).map varL) ∧ g.2.size ≤ 5 + g.1 * 1100) (fun g => f.vars.length - g.1) (f.params.length, acc ++ nl) ⟨rfl, rfl, trivial⟩ ⟨_, (.refl _), rfl⟩ (⟨Nat.le_refl _, hpl, by dsimp only; rw [List.drop_eq_nil_of_le (by rw [List.length_take]; omega), hacc, hhead]; show _ = (lineS (headL f) ++ nl) ++ ByteArray.empty; rw [ByteArray.append_empty], by dsimp only; rw [app_size]; have e1 : nl.size = 1 := rfl; omega⟩) ?_
    rintro ⟨i, acc2⟩ ⟨hi1, hi2, hacc2, hsz2⟩
    try dsimp only at *
    refine AWP.seq ?_
    refine AWP.seq ?_
    refine AWP.region rfl ?_
    refine AOps.val (Gv.move (v := .int _ _) rfl) ?_
    refine AOps.val (Gv.fieldF Tryz.underlying27 rfl Tryz.sizeOf23 (by decide) rfl rfl) ?_
    refine AOps.val (Gv.load1F (c := .fro _ _) Tryz.isAgg23 rfl) ?_
    refine AOps.val (Gv.lenM Tryz.underlying23 rfl) ?_
    refine AOps.val (Gv.lss rfl rfl) ?_
    refine AOps.nil ?_
    refine AWP.condP rfl (fun ci => ?_) (fun ci => ?_)
    · skip
      have hi3 : i < f.vars.length := by simpa using ci
      have hv := hf.vars _ (List.getElem_mem hi3)
      have hvs := hT.vn _ (List.getElem_mem hi3)
      have hts := ty_size hv.2
      refine AWP.skip ?_
      refine AWP.seq ?_
      refine AWP.block ?_
      refine AWP.regionDraw (fun j => false) (by kernel_rfl) rfl (Part.perm (.rest _)) ?_
      refine AAny.take (i := 0) rfl (by kernel_rfl) (by kernel_rfl) (by kernel_rfl) (by kernel_rfl) (by kernel_rfl) (by kernel_rfl) (Gv.move (v := .str _) rfl) ?_
      refine AAny.take (i := 1) rfl (by kernel_rfl) (by kernel_rfl) (by kernel_rfl) (by kernel_rfl) (by kernel_rfl) (by kernel_rfl) (Gv.addT rfl rfl (by (try simp only [app_size]); (try simp only [lit_size, List.size_toArray, List.length_cons, List.length_nil]); omega)) ?_
      refine AAny.take (i := 2) rfl (by kernel_rfl) (by kernel_rfl) (by kernel_rfl) (by kernel_rfl) (by kernel_rfl) (by kernel_rfl) (Gv.fieldF Tryz.underlying27 rfl Tryz.sizeOf23 (by decide) rfl rfl) ?_
      refine AAny.take (i := 3) rfl (by kernel_rfl) (by kernel_rfl) (by kernel_rfl) (by kernel_rfl) (by kernel_rfl) (by kernel_rfl) (Gv.load1F (c := .fro _ _) Tryz.isAgg23 rfl) ?_
      refine AAny.take (i := 4) rfl (by kernel_rfl) (by kernel_rfl) (by kernel_rfl) (by kernel_rfl) (by kernel_rfl) (by kernel_rfl) (Gv.move (v := .int _ _) rfl) ?_
      refine AAny.take (i := 5) rfl (by kernel_rfl) (by kernel_rfl) (by kernel_rfl) (by kernel_rfl) (by kernel_rfl) (by kernel_rfl) (Gv.idxM (j := i) Tryz.underlying23 Tryz.sizeOf38 rfl rfl rfl (List.getElem?_eq_getElem hi3)) ?_
      refine AAny.take (i := 6) rfl (by kernel_rfl) (by kernel_rfl) (by kernel_rfl) (by kernel_rfl) (by kernel_rfl) (by kernel_rfl) (Gv.fieldF Tryz.underlying38 rfl Tryz.sizeOf9 (by decide) rfl rfl) ?_
      refine AAny.take (i := 7) rfl (by kernel_rfl) (by kernel_rfl) (by kernel_rfl) (by kernel_rfl) (by kernel_rfl) (by kernel_rfl) (Gv.load1F (c := .str _) Tryz.isAgg9 rfl) ?_
      refine AAny.take (i := 8) rfl (by kernel_rfl) (by kernel_rfl) (by kernel_rfl) (by kernel_rfl) (by kernel_rfl) (by kernel_rfl) (Gv.addT rfl rfl (by (try simp only [app_size]); (try simp only [lit_size, List.size_toArray, List.length_cons, List.length_nil]); omega)) ?_
      refine AAny.take (i := 9) rfl (by kernel_rfl) (by kernel_rfl) (by kernel_rfl) (by kernel_rfl) (by kernel_rfl) (by kernel_rfl) (Gv.addT rfl rfl (by (try simp only [app_size]); (try simp only [lit_size, List.size_toArray, List.length_cons, List.length_nil]); omega)) ?_
      refine AAny.take (i := 10) rfl (by kernel_rfl) (by kernel_rfl) (by kernel_rfl) (by kernel_rfl) (by kernel_rfl) (by kernel_rfl) (Gv.move (v := .fro _ _) rfl) ?_
      refine AAny.take (i := 11) rfl (by kernel_rfl) (by kernel_rfl) (by kernel_rfl) (by kernel_rfl) (by kernel_rfl) (by kernel_rfl) (Gv.fieldF Tryz.underlying27 rfl Tryz.sizeOf23 (by decide) rfl rfl) ?_
      refine AAny.take (i := 12) rfl (by kernel_rfl) (by kernel_rfl) (by kernel_rfl) (by kernel_rfl) (by kernel_rfl) (by kernel_rfl) (Gv.load1F (c := .fro _ _) Tryz.isAgg23 rfl) ?_
      refine AAny.take (i := 13) rfl (by kernel_rfl) (by kernel_rfl) (by kernel_rfl) (by kernel_rfl) (by kernel_rfl) (by kernel_rfl) (Gv.move (v := .int _ _) rfl) ?_
      refine AAny.take (i := 14) rfl (by kernel_rfl) (by kernel_rfl) (by kernel_rfl) (by kernel_rfl) (by kernel_rfl) (by kernel_rfl) (Gv.idxM (j := i) Tryz.underlying23 Tryz.sizeOf38 rfl rfl rfl (List.getElem?_eq_getElem hi3)) ?_
      refine AAny.take (i := 15) rfl (by kernel_rfl) (by kernel_rfl) (by kernel_rfl) (by kernel_rfl) (by kernel_rfl) (by kernel_rfl) (Gv.fieldF Tryz.underlying38 rfl Tryz.sizeOf36 (by decide) rfl rfl) ?_
      refine AAny.take (i := 16) rfl (by kernel_rfl) (by kernel_rfl) (by kernel_rfl) (by kernel_rfl) (by kernel_rfl) (by kernel_rfl) (Gv.load1F (c := .int _ _) Tryz.isAgg36 rfl) ?_
      refine AAny.take (i := 17) rfl (by kernel_rfl) (by kernel_rfl) (by kernel_rfl) (by kernel_rfl) (by kernel_rfl) (by kernel_rfl) (Gv.idxF (j := f.vars[i].ty.toNat) Tryz.underlying62 Tryz.sizeOf9 rfl rfl (by have := hv.2.1; omega) (ty_row hv.2)) ?_
      refine AAny.take (i := 18) rfl (by kernel_rfl) (by kernel_rfl) (by kernel_rfl) (by kernel_rfl) (by kernel_rfl) (by kernel_rfl) (Gv.load1F (c := .str _) Tryz.isAgg9 rfl) ?_
      refine AAny.take (i := 19) rfl (by kernel_rfl) (by kernel_rfl) (by kernel_rfl) (by kernel_rfl) (by kernel_rfl) (by kernel_rfl) (Gv.addT rfl rfl (by (try simp only [app_size]); (try simp only [lit_size, List.size_toArray, List.length_cons, List.length_nil]); omega)) ?_
      refine AAny.take (i := 20) rfl (by kernel_rfl) (by kernel_rfl) (by kernel_rfl) (by kernel_rfl) (by kernel_rfl) (by kernel_rfl) (Gv.addT rfl rfl (by (try simp only [app_size]); (try simp only [lit_size, List.size_toArray, List.length_cons, List.length_nil]); omega)) ?_
      refine AAny.take (i := 21) rfl (by kernel_rfl) (by kernel_rfl) (by kernel_rfl) (by kernel_rfl) (by kernel_rfl) (by kernel_rfl) (Gv.assign (v := .str _) rfl) ?_
      refine AAny.done (by kernel_rfl) ?_
      refine AWP.region rfl ?_
      refine AOps.val (Gv.move (v := .int _ _) rfl) ?_
      refine AOps.val (Gv.add rfl rfl (by unfold I64; omega)) ?_
      refine AOps.val (Gv.assign (v := .int _ _) rfl) ?_
      refine AOps.nil ?_
      exact ⟨(i + 1, ((((acc2 ++ (⟨#[118, 97, 114, 32]⟩ : ByteArray)) ++ f.vars[i].name) ++ colon) ++ tyWord f.vars[i].ty) ++ nl), ⟨rfl, rfl, trivial⟩, ⟨rfl, rfl, trivial⟩, ⟨_, (.refl _), rfl⟩, ⟨by dsimp only; omega, hi3, by dsimp only; rw [List.take_succ_eq_append_getElem hi3, List.drop_append_of_le_length (by rw [List.length_take]; omega), List.map_append, List.map_cons, List.map_nil, ← List.cons_append, unB_app, ← hacc2, var_line]; simp only [ByteArray.append_assoc], by dsimp only; simp only [app_size]; have e1 : nl.size = 1 := rfl; have e2 : colon.size = 1 := rfl; have e3 : (⟨#[118, 97, 114, 32]⟩ : ByteArray).size = 4 := rfl; omega⟩, by dsimp only; omega⟩
    · skip
      obtain rfl : i = f.vars.length := by have : ¬ i < f.vars.length := (by simpa using ci); omega
      rw [List.take_length] at hacc2
      obtain ⟨P0, hP0⟩ : ∃ P0, headL f :: (f.vars.drop f.params.length).map varL = P0 := ⟨_, rfl⟩
      have hlines : linesF f = P0 ++ f.blocks.flatMap (blkL f) := by rw [← hP0]; rfl
      rw [hP0] at hacc2
      refine AWP.exit ?_
      refine AWP.seq ?_
      refine AWP.seq ?_
      refine AWP.region rfl ?_
      refine AOps.val (Gv.fieldF Tryz.underlying27 rfl Tryz.sizeOf25 (by decide) rfl rfl) ?_
      refine AOps.val (Gv.load1F (c := .fro _ _) Tryz.isAgg25 rfl) ?_
      refine AOps.val (Gv.lenM Tryz.underlying25 rfl) ?_
      refine AOps.val (Gv.move (v := .int _ _) rfl) ?_
      refine AOps.nil ?_
      refine AWP.block ?_
      refine AWP.loop (γ := Nat × ByteArray) [1, 78, 79] (fun g => [(80, .int .i64 g.1), (4, .str g.2)]) (fun g => []) (fun g => g.1 ≤ f.blocks.length ∧ g.2 = unB (P0 ++ (f.blocks.take g.1).flatMap (blkL f)) ∧ g.2.size ≤ 2000000 + g.1 * 10000000000) (fun g => f.blocks.length - g.1) (0, acc2) ⟨rfl, rfl, trivial⟩ ⟨_, (.refl _), rfl⟩ (⟨Nat.zero_le _, by dsimp only; rw [hacc2]; simp, by dsimp only; omega⟩) ?_
      rintro ⟨k, acc3⟩ ⟨hk3, hacc3, hsz3⟩
      try dsimp only at *
      refine AWP.seq ?_
      refine AWP.region rfl ?_
      refine AOps.val (Gv.lss rfl rfl) ?_
      refine AOps.nil ?_
      refine AWP.seq ?_
      refine AWP.condP rfl (fun cb => ?_) (fun cb => ?_)
      · skip
        have hk4 : k < f.blocks.length := by omega
        obtain ⟨b, hbk⟩ : ∃ b, f.blocks[k] = b := ⟨_, rfl⟩
        have hget : f.blocks[k]? = some b := by rw [List.getElem?_eq_getElem hk4, hbk]
        have hbm : b ∈ f.blocks := hbk ▸ List.getElem_mem hk4
        obtain ⟨hbn, hb1, hb2, hb3⟩ := hf.blks b hbm
        have hbs := hT.bn b hbm
        have hTb := hT.each b hbm
        have hnb := hn b hbm
        have hp1 := hTb.phis
        have hp2 := hTb.insts
        obtain ⟨Q, hQ⟩ : ∃ Q, P0 ++ (f.blocks.take k).flatMap (blkL f) ++ [[blockS, b.name]] = Q := ⟨_, rfl⟩
        refine AWP.skip ?_
        refine AWP.seq ?_
        refine AWP.block ?_
        refine AWP.seq ?_
        refine AWP.region rfl ?_
        refine AOps.val (Gv.idxM (j := k) Tryz.underlying25 Tryz.sizeOf48 rfl rfl rfl hget) ?_
        refine AOps.val (Gv.loadWF Tryz.isAgg48 Tryz.sizeOf48 rfl rfl) ?_
        refine AOps.alloc (cs := [.str ⟨#[]⟩, .raw (.slice none 0 0), .raw (.slice none 0 0), .int .i64 0, .int .i64 0, .int .i64 0, .int .i64 0]) Tryz.zeroValue48 rfl rfl ?_
        intro i8
        refine AOps.storeW Tryz.sizeOf48 rfl rfl rfl rfl rfl rfl .head rfl ?_
        refine AOps.nil ?_
        refine AWP.seq ?_
        refine AWP.region rfl ?_
        refine AOps.val (Gv.move (v := .str _) rfl) ?_
        refine AOps.val (Gv.addT rfl rfl (by (try simp only [app_size]); (try simp only [lit_size, List.size_toArray, List.length_cons, List.length_nil]); omega)) ?_
        refine AOps.val (Gv.fieldO Tryz.underlying48 rfl Tryz.sizeOf9 (by decide) rfl rfl) ?_
        refine AOps.val (Gv.load1C (c := .str _) Tryz.isAgg9 rfl ⟨_, .head⟩ rfl) ?_
        refine AOps.val (Gv.addT rfl rfl (by (try simp only [app_size]); (try simp only [lit_size, List.size_toArray, List.length_cons, List.length_nil]); omega)) ?_
        refine AOps.val (Gv.addT rfl rfl (by (try simp only [app_size]); (try simp only [lit_size, List.size_toArray, List.length_cons, List.length_nil]); omega)) ?_
        refine AOps.val (Gv.assign (v := .str _) rfl) ?_
        refine AOps.nil ?_
        refine AWP.seq ?_
        refine AWP.seq ?_
        refine AWP.region rfl ?_
        refine AOps.val (Gv.fieldO Tryz.underlying48 rfl Tryz.sizeOf41 (by decide) rfl rfl) ?_
        refine AOps.val (Gv.load1C (c := .fro _ _) Tryz.isAgg41 rfl ⟨_, .head⟩ rfl) ?_
        refine AOps.val (Gv.lenM Tryz.underlying41 rfl) ?_
        refine AOps.val (Gv.move (v := .int _ _) rfl) ?_
        refine AOps.nil ?_
        refine AWP.block ?_
        refine AWP.loop (γ := Nat × ByteArray) [1, 8, 78, 79, 80, 91, 92] (fun g => [(93, .int .i64 g.1), (4, .str g.2)]) (fun g => [(i8, .cells 48 (encBlk b))]) (fun g => g.1 ≤ b.phis.length ∧ g.2 = unB (Q ++ (b.phis.take g.1).map (phiL f)) ∧ g.2.size ≤ 2001100 + k * 10000000000 + g.1 * 4300000) (fun g => b.phis.length - g.1) (0, ((acc3 ++ (⟨#[98, 108, 111, 99, 107, 32]⟩ : ByteArray)) ++ b.name) ++ nl) ⟨rfl, rfl, trivial⟩ ⟨_, (.refl _), rfl⟩ (⟨Nat.zero_le _, by dsimp only; rw [List.take_zero, List.map_nil, List.append_nil, ← hQ, unB_app, ← hacc3, lineS_two, show (⟨#[98, 108, 111, 99, 107, 32]⟩ : ByteArray) = blockS ++ spc by decide]; simp only [ByteArray.append_assoc], by dsimp only; simp only [app_size]; have e1 : nl.size = 1 := rfl; have e2 : (⟨#[98, 108, 111, 99, 107, 32]⟩ : ByteArray).size = 6 := rfl; omega⟩) ?_
        rintro ⟨j, acc4⟩ ⟨hj, hacc4, hsz4⟩
        try dsimp only at *
        refine AWP.seq ?_
        refine AWP.region rfl ?_
        refine AOps.val (Gv.lss rfl rfl) ?_
        refine AOps.nil ?_
        refine AWP.seq ?_
        refine AWP.condP rfl (fun cj => ?_) (fun cj => ?_)
        · skip
          have hj2 : j < b.phis.length := by simp at cj; omega
          obtain ⟨p, hpj⟩ : ∃ p, b.phis[j] = p := ⟨_, rfl⟩
          have hgp : b.phis[j]? = some p := by rw [List.getElem?_eq_getElem hj2, hpj]
          have hpm : p ∈ b.phis := hpj ▸ List.getElem_mem hj2
          obtain ⟨g1, g2, g3, g4, g5⟩ := hb1 p hpm
          have g4 := List.all_eq_true.1 g4
          have g5 := List.all_eq_true.1 g5
          obtain ⟨d1, d2, d3, d4⟩ := has_get g1
          have hds := vname_sz hT g1
          have hpa := hTb.args p hpm
          have hds2 : (f.vars[p.dst.toNat]).name.size ≤ 1000 := by rw [← d4]; exact hds
          refine AWP.skip ?_
          refine AWP.seq ?_
          refine AWP.block ?_
          refine AWP.seq ?_
          refine AWP.region rfl ?_
          refine AOps.val (Gv.idxM (j := j) Tryz.underlying41 Tryz.sizeOf64 rfl rfl rfl hgp) ?_
          refine AOps.val (Gv.loadWF Tryz.isAgg64 Tryz.sizeOf64 rfl rfl) ?_
          refine AOps.alloc (cs := [.int .i64 0, .raw (.slice none 0 0), .raw (.slice none 0 0)]) Tryz.zeroValue64 rfl rfl ?_
          intro i10
          refine AOps.storeW Tryz.sizeOf64 rfl rfl rfl rfl rfl rfl .head rfl ?_
          refine AOps.nil ?_
          refine AWP.seq ?_
          refine AWP.region rfl ?_
          refine AOps.val (Gv.move (v := .str _) rfl) ?_
          refine AOps.val (Gv.fieldF Tryz.underlying27 rfl Tryz.sizeOf23 (by decide) rfl rfl) ?_
          refine AOps.val (Gv.load1F (c := .fro _ _) Tryz.isAgg23 rfl) ?_
          refine AOps.val (Gv.fieldO Tryz.underlying64 rfl Tryz.sizeOf3 (by decide) rfl rfl) ?_
          refine AOps.val (Gv.load1C (c := .int _ _) Tryz.isAgg3 rfl ⟨_, .head⟩ rfl) ?_
          refine AOps.val (Gv.idxM (j := p.dst.toNat) Tryz.underlying23 Tryz.sizeOf38 rfl rfl (by omega) d2) ?_
          refine AOps.val (Gv.fieldF Tryz.underlying38 rfl Tryz.sizeOf9 (by decide) rfl rfl) ?_
          refine AOps.val (Gv.load1F (c := .str _) Tryz.isAgg9 rfl) ?_
          refine AOps.val (Gv.addT rfl rfl (by (try simp only [app_size]); (try simp only [lit_size, List.size_toArray, List.length_cons, List.length_nil]); omega)) ?_
          refine AOps.val (Gv.addT rfl rfl (by (try simp only [app_size]); (try simp only [lit_size, List.size_toArray, List.length_cons, List.length_nil]); omega)) ?_
          refine AOps.val (Gv.assign (v := .str _) rfl) ?_
          refine AOps.nil ?_
          refine AWP.seq ?_
          refine AWP.seq ?_
          refine AWP.region rfl ?_
          refine AOps.val (Gv.fieldO Tryz.underlying64 rfl Tryz.sizeOf24 (by decide) rfl rfl) ?_
          refine AOps.val (Gv.load1C (c := .fro _ _) Tryz.isAgg24 rfl ⟨_, .head⟩ rfl) ?_
          refine AOps.val (Gv.lenM Tryz.underlying24 rfl) ?_
          refine AOps.val (Gv.move (v := .int _ _) rfl) ?_
          refine AOps.nil ?_
          refine AWP.block ?_
          refine AWP.loop (γ := Nat × ByteArray) [1, 8, 10, 78, 79, 80, 91, 92, 93, 108, 109] (fun g => [(110, .int .i64 g.1), (4, .str g.2)]) (fun g => [(i10, .cells 64 (encPhi p)), (i8, .cells 48 (encBlk b))]) (fun g => g.1 ≤ p.args.length ∧ g.2 = acc4 ++ lineS (phiLk f p g.1) ∧ g.2.size ≤ 2002110 + k * 10000000000 + j * 4300000 + g.1 * 2002) (fun g => p.args.length - g.1) (0, (acc4 ++ f.vars[p.dst.toNat].name) ++ (⟨#[32, 61, 32, 112, 104, 105]⟩ : ByteArray)) ⟨rfl, rfl, trivial⟩ ⟨_, (.refl _), rfl⟩ (⟨Nat.zero_le _, by dsimp only; rw [← d4]; show _ = acc4 ++ lineS [vname f p.dst, eqS, phiS]; rw [lineS_three, show (⟨#[32, 61, 32, 112, 104, 105]⟩ : ByteArray) = ((spc ++ eqS) ++ spc) ++ phiS by decide]; simp only [ByteArray.append_assoc], by dsimp only; simp only [app_size]; have e2 : (⟨#[32, 61, 32, 112, 104, 105]⟩ : ByteArray).size = 6 := rfl; omega⟩) ?_
          rintro ⟨m, acc5⟩ ⟨hm, hacc5, hsz5⟩
          try dsimp only at *
          refine AWP.seq ?_
          refine AWP.region rfl ?_
          refine AOps.val (Gv.lss rfl rfl) ?_
          refine AOps.nil ?_
          refine AWP.seq ?_
          refine AWP.condP rfl (fun cm => ?_) (fun cm => ?_)
          · skip
            have hm2 : m < p.args.length := by simp at cm; omega
            have hm3 : m < p.from_.length := by omega
            obtain ⟨b1, b2, b3, b4⟩ := hasB_get (g5 _ (List.getElem_mem hm3))
            obtain ⟨v1, v2, v3, v4⟩ := has_get (g4 _ (List.getElem_mem hm2))
            have hs1 := bname_sz hT (g5 _ (List.getElem_mem hm3))
            have hs2 := vname_sz hT (g4 _ (List.getElem_mem hm2))
            have hs3 : (f.blocks[(p.from_[m]).toNat]).name.size ≤ 1000 := by rw [← b4]; exact hs1
            have hs4 : (f.vars[(p.args[m]).toNat]).name.size ≤ 1000 := by rw [← v4]; exact hs2
            refine AWP.skip ?_
            refine AWP.seq ?_
            refine AWP.block ?_
            refine AWP.seq ?_
            refine AWP.region rfl ?_
            refine AOps.val (Gv.move (v := .int _ _) rfl) ?_
            refine AOps.val (Gv.idxM (j := m) Tryz.underlying24 Tryz.sizeOf3 rfl rfl rfl (List.getElem?_eq_getElem hm2)) ?_
            refine AOps.val (Gv.load1F (c := .int _ _) Tryz.isAgg3 rfl) ?_
            refine AOps.val (Gv.assign (v := .int _ _) rfl) ?_
            refine AOps.val (Gv.assign (v := .int _ _) rfl) ?_
            refine AOps.nil ?_
            refine AWP.regionDraw (fun j => false) (by kernel_rfl) rfl (Part.perm (.r (.rest _))) ?_
            refine AAny.take (i := 0) rfl (by kernel_rfl) (by kernel_rfl) (by kernel_rfl) (by kernel_rfl) (by kernel_rfl) (by kernel_rfl) (Gv.move (v := .str _) rfl) ?_
            refine AAny.take (i := 1) rfl (by kernel_rfl) (by kernel_rfl) (by kernel_rfl) (by kernel_rfl) (by kernel_rfl) (by kernel_rfl) (Gv.addT rfl rfl (by (try simp only [app_size]); (try simp only [lit_size, List.size_toArray, List.length_cons, List.length_nil]); omega)) ?_
            refine AAny.take (i := 2) rfl (by kernel_rfl) (by kernel_rfl) (by kernel_rfl) (by kernel_rfl) (by kernel_rfl) (by kernel_rfl) (Gv.fieldF Tryz.underlying27 rfl Tryz.sizeOf25 (by decide) rfl rfl) ?_
            refine AAny.take (i := 3) rfl (by kernel_rfl) (by kernel_rfl) (by kernel_rfl) (by kernel_rfl) (by kernel_rfl) (by kernel_rfl) (Gv.load1F (c := .fro _ _) Tryz.isAgg25 rfl) ?_
            refine AAny.take (i := 4) rfl (by kernel_rfl) (by kernel_rfl) (by kernel_rfl) (by kernel_rfl) (by kernel_rfl) (by kernel_rfl) (Gv.fieldO Tryz.underlying64 rfl Tryz.sizeOf24 (by decide) rfl rfl) ?_
            refine AAny.take (i := 5) rfl (by kernel_rfl) (by kernel_rfl) (by kernel_rfl) (by kernel_rfl) (by kernel_rfl) (by kernel_rfl) (Gv.load1C (c := .fro _ _) Tryz.isAgg24 rfl ⟨_, .head⟩ rfl) ?_
            refine AAny.take (i := 6) rfl (by kernel_rfl) (by kernel_rfl) (by kernel_rfl) (by kernel_rfl) (by kernel_rfl) (by kernel_rfl) (Gv.move (v := .int _ _) rfl) ?_
            refine AAny.take (i := 7) rfl (by kernel_rfl) (by kernel_rfl) (by kernel_rfl) (by kernel_rfl) (by kernel_rfl) (by kernel_rfl) (Gv.idxM (j := m) Tryz.underlying24 Tryz.sizeOf3 rfl rfl rfl (List.getElem?_eq_getElem hm3)) ?_
            refine AAny.take (i := 8) rfl (by kernel_rfl) (by kernel_rfl) (by kernel_rfl) (by kernel_rfl) (by kernel_rfl) (by kernel_rfl) (Gv.load1F (c := .int _ _) Tryz.isAgg3 rfl) ?_
            refine AAny.take (i := 9) rfl (by kernel_rfl) (by kernel_rfl) (by kernel_rfl) (by kernel_rfl) (by kernel_rfl) (by kernel_rfl) (Gv.idxM (j := (p.from_[m]).toNat) Tryz.underlying25 Tryz.sizeOf48 rfl rfl (by omega) b2) ?_
            refine AAny.take (i := 10) rfl (by kernel_rfl) (by kernel_rfl) (by kernel_rfl) (by kernel_rfl) (by kernel_rfl) (by kernel_rfl) (Gv.fieldF Tryz.underlying48 rfl Tryz.sizeOf9 (by decide) rfl rfl) ?_
            refine AAny.take (i := 11) rfl (by kernel_rfl) (by kernel_rfl) (by kernel_rfl) (by kernel_rfl) (by kernel_rfl) (by kernel_rfl) (Gv.load1F (c := .str _) Tryz.isAgg9 rfl) ?_
            refine AAny.take (i := 12) rfl (by kernel_rfl) (by kernel_rfl) (by kernel_rfl) (by kernel_rfl) (by kernel_rfl) (by kernel_rfl) (Gv.addT rfl rfl (by (try simp only [app_size]); (try simp only [lit_size, List.size_toArray, List.length_cons, List.length_nil]); omega)) ?_
            refine AAny.take (i := 13) rfl (by kernel_rfl) (by kernel_rfl) (by kernel_rfl) (by kernel_rfl) (by kernel_rfl) (by kernel_rfl) (Gv.addT rfl rfl (by (try simp only [app_size]); (try simp only [lit_size, List.size_toArray, List.length_cons, List.length_nil]); omega)) ?_
            refine AAny.take (i := 14) rfl (by kernel_rfl) (by kernel_rfl) (by kernel_rfl) (by kernel_rfl) (by kernel_rfl) (by kernel_rfl) (Gv.fieldF Tryz.underlying27 rfl Tryz.sizeOf23 (by decide) rfl rfl) ?_
            refine AAny.take (i := 15) rfl (by kernel_rfl) (by kernel_rfl) (by kernel_rfl) (by kernel_rfl) (by kernel_rfl) (by kernel_rfl) (Gv.load1F (c := .fro _ _) Tryz.isAgg23 rfl) ?_
            refine AAny.take (i := 16) rfl (by kernel_rfl) (by kernel_rfl) (by kernel_rfl) (by kernel_rfl) (by kernel_rfl) (by kernel_rfl) (Gv.move (v := .int _ _) rfl) ?_
            refine AAny.take (i := 17) rfl (by kernel_rfl) (by kernel_rfl) (by kernel_rfl) (by kernel_rfl) (by kernel_rfl) (by kernel_rfl) (Gv.idxM (j := (p.args[m]).toNat) Tryz.underlying23 Tryz.sizeOf38 rfl rfl (by omega) v2) ?_
            refine AAny.take (i := 18) rfl (by kernel_rfl) (by kernel_rfl) (by kernel_rfl) (by kernel_rfl) (by kernel_rfl) (by kernel_rfl) (Gv.fieldF Tryz.underlying38 rfl Tryz.sizeOf9 (by decide) rfl rfl) ?_
            refine AAny.take (i := 19) rfl (by kernel_rfl) (by kernel_rfl) (by kernel_rfl) (by kernel_rfl) (by kernel_rfl) (by kernel_rfl) (Gv.load1F (c := .str _) Tryz.isAgg9 rfl) ?_
            refine AAny.take (i := 20) rfl (by kernel_rfl) (by kernel_rfl) (by kernel_rfl) (by kernel_rfl) (by kernel_rfl) (by kernel_rfl) (Gv.addT rfl rfl (by (try simp only [app_size]); (try simp only [lit_size, List.size_toArray, List.length_cons, List.length_nil]); omega)) ?_
            refine AAny.take (i := 21) rfl (by kernel_rfl) (by kernel_rfl) (by kernel_rfl) (by kernel_rfl) (by kernel_rfl) (by kernel_rfl) (Gv.assign (v := .str _) rfl) ?_
            refine AAny.done (by kernel_rfl) ?_
            refine AWP.region rfl ?_
            refine AOps.val (Gv.add rfl rfl (by unfold I64; omega)) ?_
            refine AOps.val (Gv.move (v := .int _ _) rfl) ?_
            refine AOps.nil ?_
            exact ⟨(m + 1, (((acc5 ++ spc) ++ f.blocks[(p.from_[m]).toNat].name) ++ spc) ++ f.vars[(p.args[m]).toNat].name), ⟨rfl, rfl, rfl, rfl, rfl, rfl, rfl, rfl, rfl, rfl, rfl, trivial⟩, ⟨rfl, rfl, trivial⟩, ⟨_, (.refl _), rfl⟩, ⟨hm2, by dsimp only; rw [phiLk_succ hm3 hm2, b4, v4, hacc5]; simp only [ByteArray.append_assoc], by dsimp only; simp only [app_size]; have e1 : spc.size = 1 := rfl; omega⟩, by dsimp only; omega⟩
          · skip
            obtain rfl : m = p.args.length := by simp at cm; omega
            have hfull : phiLk f p p.args.length = phiL f p := by
              unfold phiLk phiL
              rw [List.take_of_length_le (by simp; omega), List.take_of_length_le (by simp)]
            refine AWP.exit ?_
            refine AWP.region rfl ?_
            refine AOps.val (Gv.move (v := .str _) rfl) ?_
            refine AOps.val (Gv.addT rfl rfl (by (try simp only [app_size]); (try simp only [lit_size, List.size_toArray, List.length_cons, List.length_nil]); omega)) ?_
            refine AOps.val (Gv.assign (v := .str _) rfl) ?_
            refine AOps.nil ?_
            refine AWP.region rfl ?_
            refine AOps.val (Gv.add rfl rfl (by unfold I64; omega)) ?_
            refine AOps.val (Gv.move (v := .int _ _) rfl) ?_
            refine AOps.nil ?_
            exact ⟨(j + 1, acc5 ++ nl), ⟨rfl, rfl, rfl, rfl, rfl, rfl, rfl, trivial⟩, ⟨rfl, rfl, trivial⟩, ⟨_, (.drop (.refl _)), rfl⟩, ⟨hj2, by dsimp only; rw [List.take_succ_eq_append_getElem hj2, hpj, List.map_append, List.map_cons, List.map_nil, ← List.append_assoc, unB_app, ← hacc4, hacc5, hfull]; simp only [ByteArray.append_assoc], by dsimp only; rw [app_size]; have e1 : nl.size = 1 := rfl; omega⟩, by dsimp only; omega⟩
        · skip
          obtain rfl : j = b.phis.length := by simp at cj; omega
          rw [List.take_length] at hacc4
          obtain ⟨Q2, hQ2⟩ : ∃ Q2, Q ++ b.phis.map (phiL f) = Q2 := ⟨_, rfl⟩
          rw [hQ2] at hacc4
          refine AWP.exit ?_
          refine AWP.seq ?_
          refine AWP.seq ?_
          refine AWP.region rfl ?_
          refine AOps.val (Gv.fieldO Tryz.underlying48 rfl Tryz.sizeOf42 (by decide) rfl rfl) ?_
          refine AOps.val (Gv.load1C (c := .fro _ _) Tryz.isAgg42 rfl ⟨_, .head⟩ rfl) ?_
          refine AOps.val (Gv.lenM Tryz.underlying42 rfl) ?_
          refine AOps.val (Gv.move (v := .int _ _) rfl) ?_
          refine AOps.nil ?_
          refine AWP.block ?_
          refine AWP.loop (γ := Nat × ByteArray) [1, 8, 78, 79, 80, 141, 142] (fun g => [(143, .int .i64 g.1), (4, .str g.2)]) (fun g => [(i8, .cells 48 (encBlk b))]) (fun g => g.1 ≤ b.insts.length ∧ g.2 = unB (Q2 ++ (b.insts.take g.1).map (wordsOf f)) ∧ g.2.size ≤ 9032001100 + k * 10000000000 + g.1 * 20001) (fun g => b.insts.length - g.1) (0, acc4) ⟨rfl, rfl, trivial⟩ ⟨_, (.refl _), rfl⟩ (⟨Nat.zero_le _, by dsimp only; rw [List.take_zero, List.map_nil, List.append_nil, hacc4], by dsimp only; omega⟩) ?_
          rintro ⟨j, acc6⟩ ⟨hj2, hacc6, hsz6⟩
          try dsimp only at *
          refine AWP.seq ?_
          refine AWP.region rfl ?_
          refine AOps.val (Gv.lss rfl rfl) ?_
          refine AOps.nil ?_
          refine AWP.seq ?_
          refine AWP.condP rfl (fun ci2 => ?_) (fun ci2 => ?_)
          · skip
            have hj3 : j < b.insts.length := by simp at ci2; omega
            obtain ⟨x, hxj⟩ : ∃ x, b.insts[j] = x := ⟨_, rfl⟩
            have hgx : b.insts[j]? = some x := by rw [List.getElem?_eq_getElem hj3, hxj]
            have hxm : x ∈ b.insts := hxj ▸ List.getElem_mem hj3
            have hxP := hb2 x hxm
            have hxF := instP_F hxP
            obtain ⟨hxl, hxs⟩ := refLine_sz hT hxP (hnb x hxm)
            have hdst : (kRow x.op).2.2 ≠ ⟨#[]⟩ → hasV f x.dst = true := fun h => by
              rcases hxF.dst with ⟨d, _⟩ | ⟨_, _, d⟩
              · rw [makesB_eq, decide_eq_false h] at d; cases d
              · exact d
            refine AWP.skip ?_
            refine AWP.seq ?_
            refine AWP.block ?_
            refine AWP.seq ?_
            refine AWP.region rfl ?_
            refine AOps.val (Gv.idxM (j := j) Tryz.underlying42 Tryz.sizeOf67 rfl rfl rfl hgx) ?_
            refine AOps.val (Gv.loadWF Tryz.isAgg67 Tryz.sizeOf67 rfl rfl) ?_
            refine AOps.alloc (cs := [.int .i64 0, .int .i64 0, .raw (.slice none 0 0), .int .i64 0]) Tryz.zeroValue67 rfl rfl ?_
            intro i14
            refine AOps.storeW Tryz.sizeOf67 rfl rfl rfl rfl rfl rfl .head rfl ?_
            refine AOps.nil ?_
            refine AWP.region rfl ?_
            refine AOps.val (Gv.move (v := .str _) rfl) ?_
            refine AOps.val (Gv.loadWF Tryz.isAgg27 Tryz.sizeOf27 rfl rfl) ?_
            refine AOps.val (Gv.loadWC Tryz.isAgg67 Tryz.sizeOf67 rfl ⟨_, .head⟩ rfl) ?_
            refine AOps.callP (refInst_spec f x hxP hdst (by omega) hT.vn (hnb x hxm)) rfl ?_
            refine AOps.val (Gv.addT rfl rfl (by (try simp only [app_size]); (try simp only [lit_size, List.size_toArray, List.length_cons, List.length_nil]); omega)) ?_
            refine AOps.val (Gv.addT rfl rfl (by (try simp only [app_size]); (try simp only [lit_size, List.size_toArray, List.length_cons, List.length_nil]); omega)) ?_
            refine AOps.val (Gv.assign (v := .str _) rfl) ?_
            refine AOps.nil ?_
            refine AWP.region rfl ?_
            refine AOps.val (Gv.add rfl rfl (by unfold I64; omega)) ?_
            refine AOps.val (Gv.move (v := .int _ _) rfl) ?_
            refine AOps.nil ?_
            exact ⟨(j + 1, (acc6 ++ refLine f x) ++ nl), ⟨rfl, rfl, rfl, rfl, rfl, rfl, rfl, trivial⟩, ⟨rfl, rfl, trivial⟩, ⟨_, (.drop (.refl _)), rfl⟩, ⟨hj3, by dsimp only; rw [List.take_succ_eq_append_getElem hj3, hxj, List.map_append, List.map_cons, List.map_nil, ← List.append_assoc, unB_app, ← hacc6, inst_line_eq hxP]; simp only [ByteArray.append_assoc], by dsimp only; simp only [app_size]; have e1 : nl.size = 1 := rfl; omega⟩, by dsimp only; omega⟩
          · skip
            obtain rfl : j = b.insts.length := by simp at ci2; omega
            rw [List.take_length] at hacc6
            have hnext : P0 ++ (f.blocks.take (k + 1)).flatMap (blkL f) = (Q2 ++ b.insts.map (wordsOf f)) ++ [termL f b.term] := by
              rw [List.take_succ_eq_append_getElem hk4, hbk, List.flatMap_append, ← hQ2, ← hQ]; simp [blkL]
            refine AWP.exit ?_
            refine AWP.seq ?_
            refine AWP.region rfl ?_
            refine AOps.val (Gv.fieldO Tryz.underlying48 rfl Tryz.sizeOf46 (by decide) rfl rfl) ?_
            refine AOps.val (Gv.loadAC (l := [_, _, _, _]) Tryz.isAgg46 Tryz.sizeOf46 rfl ⟨_, .head⟩ rfl rfl) ?_
            refine AOps.alloc (cs := [.int .i64 0, .int .i64 0, .int .i64 0, .int .i64 0]) Tryz.zeroValue46 rfl rfl ?_
            intro i15
            refine AOps.storeW Tryz.sizeOf46 rfl rfl rfl rfl rfl rfl .head rfl ?_
            refine AOps.nil ?_
            refine AWP.seq ?_
            refine AWP.region rfl ?_
            refine AOps.val (Gv.fieldO Tryz.underlying46 rfl Tryz.sizeOf43 (by decide) rfl rfl) ?_
            refine AOps.val (Gv.load1C (c := .int _ _) Tryz.isAgg43 rfl ⟨_, .head⟩ rfl) ?_
            refine AOps.nil ?_
            refine AWP.block ?_
            refine AWP.seq ?_
            refine AWP.region rfl ?_
            refine AOps.val (Gv.eqlI rfl rfl) ?_
            refine AOps.val (Gv.assign (v := .bool _) rfl) ?_
            refine AOps.nil ?_
            refine AWP.condP rfl (fun k0 => ?_) (fun k0 => ?_)
            · skip
              have k0 : b.term.kind = 0 := k0
              obtain ⟨b1, b2, b3, b4⟩ := hasB_get (termOK_0 hb3 k0)
              have hs1 := bname_sz hT (termOK_0 hb3 k0)
              have hs3 : (f.blocks[b.term.to0.toNat]).name.size ≤ 1000 := by rw [← b4]; exact hs1
              refine AWP.region rfl ?_
              refine AOps.val (Gv.move (v := .str _) rfl) ?_
              refine AOps.val (Gv.addT rfl rfl (by (try simp only [app_size]); (try simp only [lit_size, List.size_toArray, List.length_cons, List.length_nil]); omega)) ?_
              refine AOps.val (Gv.fieldF Tryz.underlying27 rfl Tryz.sizeOf25 (by decide) rfl rfl) ?_
              refine AOps.val (Gv.load1F (c := .fro _ _) Tryz.isAgg25 rfl) ?_
              refine AOps.val (Gv.fieldO Tryz.underlying46 rfl Tryz.sizeOf44 (by decide) rfl rfl) ?_
              refine AOps.val (Gv.idxAO (j := 0) Tryz.underlying44 Tryz.sizeOf3 rfl rfl rfl (by decide) rfl) ?_
              refine AOps.val (Gv.load1C (c := .int _ _) Tryz.isAgg3 rfl ⟨_, .head⟩ rfl) ?_
              refine AOps.val (Gv.idxM (j := b.term.to0.toNat) Tryz.underlying25 Tryz.sizeOf48 rfl rfl (by omega) b2) ?_
              refine AOps.val (Gv.fieldF Tryz.underlying48 rfl Tryz.sizeOf9 (by decide) rfl rfl) ?_
              refine AOps.val (Gv.load1F (c := .str _) Tryz.isAgg9 rfl) ?_
              refine AOps.val (Gv.addT rfl rfl (by (try simp only [app_size]); (try simp only [lit_size, List.size_toArray, List.length_cons, List.length_nil]); omega)) ?_
              refine AOps.val (Gv.addT rfl rfl (by (try simp only [app_size]); (try simp only [lit_size, List.size_toArray, List.length_cons, List.length_nil]); omega)) ?_
              refine AOps.val (Gv.assign (v := .str _) rfl) ?_
              refine AOps.nil ?_
              refine AWP.region rfl ?_
              refine AOps.val (Gv.add rfl rfl (by unfold I64; omega)) ?_
              refine AOps.val (Gv.move (v := .int _ _) rfl) ?_
              refine AOps.nil ?_
              exact ⟨(k + 1, ((acc6 ++ (⟨#[106, 117, 109, 112, 32]⟩ : ByteArray)) ++ f.blocks[b.term.to0.toNat].name) ++ nl), ⟨rfl, rfl, rfl, trivial⟩, ⟨rfl, rfl, trivial⟩, ⟨_, (.drop (.drop (.refl _))), rfl⟩, ⟨hk4, by dsimp only; rw [hnext, unB_app, ← hacc6]; unfold termL; rw [if_pos k0, lineS_two, b4, show (⟨#[106, 117, 109, 112, 32]⟩ : ByteArray) = jumpS ++ spc by decide]; simp only [ByteArray.append_assoc], by dsimp only; simp only [app_size]; have e1 : nl.size = 1 := rfl; have e2 : (⟨#[106, 117, 109, 112, 32]⟩ : ByteArray).size = 5 := rfl; omega⟩, by dsimp only; omega⟩
            · skip
              have k0 : ¬ b.term.kind = 0 := k0
              refine AWP.seq ?_
              refine AWP.region rfl ?_
              refine AOps.val (Gv.eqlI rfl rfl) ?_
              refine AOps.val (Gv.assign (v := .bool _) rfl) ?_
              refine AOps.nil ?_
              refine AWP.condP rfl (fun k1 => ?_) (fun k1 => ?_)
              · skip
                have k1 : b.term.kind = 1 := k1
                obtain ⟨t1, t2, t3⟩ := termOK_1 hb3 k1
                obtain ⟨v1, v2, v3, v4⟩ := has_get t1
                obtain ⟨b1, b2, b3, b4⟩ := hasB_get t2
                obtain ⟨c1, c2, c3, c4⟩ := hasB_get t3
                have hs1 : (f.vars[b.term.var.toNat]).name.size ≤ 1000 := by rw [← v4]; exact vname_sz hT t1
                have hs2 : (f.blocks[b.term.to0.toNat]).name.size ≤ 1000 := by rw [← b4]; exact bname_sz hT t2
                have hs3 : (f.blocks[b.term.to1.toNat]).name.size ≤ 1000 := by rw [← c4]; exact bname_sz hT t3
                refine AWP.regionDraw (fun j => false) (by kernel_rfl) rfl (Part.perm (.r (.rest _))) ?_
                refine AAny.take (i := 0) rfl (by kernel_rfl) (by kernel_rfl) (by kernel_rfl) (by kernel_rfl) (by kernel_rfl) (by kernel_rfl) (Gv.move (v := .str _) rfl) ?_
                refine AAny.take (i := 1) rfl (by kernel_rfl) (by kernel_rfl) (by kernel_rfl) (by kernel_rfl) (by kernel_rfl) (by kernel_rfl) (Gv.addT rfl rfl (by (try simp only [app_size]); (try simp only [lit_size, List.size_toArray, List.length_cons, List.length_nil]); omega)) ?_
                refine AAny.take (i := 2) rfl (by kernel_rfl) (by kernel_rfl) (by kernel_rfl) (by kernel_rfl) (by kernel_rfl) (by kernel_rfl) (Gv.fieldF Tryz.underlying27 rfl Tryz.sizeOf23 (by decide) rfl rfl) ?_
                refine AAny.take (i := 3) rfl (by kernel_rfl) (by kernel_rfl) (by kernel_rfl) (by kernel_rfl) (by kernel_rfl) (by kernel_rfl) (Gv.load1F (c := .fro _ _) Tryz.isAgg23 rfl) ?_
                refine AAny.take (i := 4) rfl (by kernel_rfl) (by kernel_rfl) (by kernel_rfl) (by kernel_rfl) (by kernel_rfl) (by kernel_rfl) (Gv.fieldO Tryz.underlying46 rfl Tryz.sizeOf3 (by decide) rfl rfl) ?_
                refine AAny.take (i := 5) rfl (by kernel_rfl) (by kernel_rfl) (by kernel_rfl) (by kernel_rfl) (by kernel_rfl) (by kernel_rfl) (Gv.load1C (c := .int _ _) Tryz.isAgg3 rfl ⟨_, .head⟩ rfl) ?_
                refine AAny.take (i := 6) rfl (by kernel_rfl) (by kernel_rfl) (by kernel_rfl) (by kernel_rfl) (by kernel_rfl) (by kernel_rfl) (Gv.idxM (j := b.term.var.toNat) Tryz.underlying23 Tryz.sizeOf38 rfl rfl (by omega) v2) ?_
                refine AAny.take (i := 7) rfl (by kernel_rfl) (by kernel_rfl) (by kernel_rfl) (by kernel_rfl) (by kernel_rfl) (by kernel_rfl) (Gv.fieldF Tryz.underlying38 rfl Tryz.sizeOf9 (by decide) rfl rfl) ?_
                refine AAny.take (i := 8) rfl (by kernel_rfl) (by kernel_rfl) (by kernel_rfl) (by kernel_rfl) (by kernel_rfl) (by kernel_rfl) (Gv.load1F (c := .str _) Tryz.isAgg9 rfl) ?_
                refine AAny.take (i := 9) rfl (by kernel_rfl) (by kernel_rfl) (by kernel_rfl) (by kernel_rfl) (by kernel_rfl) (by kernel_rfl) (Gv.addT rfl rfl (by (try simp only [app_size]); (try simp only [lit_size, List.size_toArray, List.length_cons, List.length_nil]); omega)) ?_
                refine AAny.take (i := 10) rfl (by kernel_rfl) (by kernel_rfl) (by kernel_rfl) (by kernel_rfl) (by kernel_rfl) (by kernel_rfl) (Gv.addT rfl rfl (by (try simp only [app_size]); (try simp only [lit_size, List.size_toArray, List.length_cons, List.length_nil]); omega)) ?_
                refine AAny.take (i := 11) rfl (by kernel_rfl) (by kernel_rfl) (by kernel_rfl) (by kernel_rfl) (by kernel_rfl) (by kernel_rfl) (Gv.fieldF Tryz.underlying27 rfl Tryz.sizeOf25 (by decide) rfl rfl) ?_
                refine AAny.take (i := 12) rfl (by kernel_rfl) (by kernel_rfl) (by kernel_rfl) (by kernel_rfl) (by kernel_rfl) (by kernel_rfl) (Gv.load1F (c := .fro _ _) Tryz.isAgg25 rfl) ?_
                refine AAny.take (i := 13) rfl (by kernel_rfl) (by kernel_rfl) (by kernel_rfl) (by kernel_rfl) (by kernel_rfl) (by kernel_rfl) (Gv.fieldO Tryz.underlying46 rfl Tryz.sizeOf44 (by decide) rfl rfl) ?_
                refine AAny.take (i := 14) rfl (by kernel_rfl) (by kernel_rfl) (by kernel_rfl) (by kernel_rfl) (by kernel_rfl) (by kernel_rfl) (Gv.idxAO (j := 0) Tryz.underlying44 Tryz.sizeOf3 rfl rfl rfl (by decide) rfl) ?_
                refine AAny.take (i := 15) rfl (by kernel_rfl) (by kernel_rfl) (by kernel_rfl) (by kernel_rfl) (by kernel_rfl) (by kernel_rfl) (Gv.load1C (c := .int _ _) Tryz.isAgg3 rfl ⟨_, .head⟩ rfl) ?_
                refine AAny.take (i := 16) rfl (by kernel_rfl) (by kernel_rfl) (by kernel_rfl) (by kernel_rfl) (by kernel_rfl) (by kernel_rfl) (Gv.idxM (j := b.term.to0.toNat) Tryz.underlying25 Tryz.sizeOf48 rfl rfl (by omega) b2) ?_
                refine AAny.take (i := 17) rfl (by kernel_rfl) (by kernel_rfl) (by kernel_rfl) (by kernel_rfl) (by kernel_rfl) (by kernel_rfl) (Gv.fieldF Tryz.underlying48 rfl Tryz.sizeOf9 (by decide) rfl rfl) ?_
                refine AAny.take (i := 18) rfl (by kernel_rfl) (by kernel_rfl) (by kernel_rfl) (by kernel_rfl) (by kernel_rfl) (by kernel_rfl) (Gv.load1F (c := .str _) Tryz.isAgg9 rfl) ?_
                refine AAny.take (i := 19) rfl (by kernel_rfl) (by kernel_rfl) (by kernel_rfl) (by kernel_rfl) (by kernel_rfl) (by kernel_rfl) (Gv.addT rfl rfl (by (try simp only [app_size]); (try simp only [lit_size, List.size_toArray, List.length_cons, List.length_nil]); omega)) ?_
                refine AAny.take (i := 20) rfl (by kernel_rfl) (by kernel_rfl) (by kernel_rfl) (by kernel_rfl) (by kernel_rfl) (by kernel_rfl) (Gv.addT rfl rfl (by (try simp only [app_size]); (try simp only [lit_size, List.size_toArray, List.length_cons, List.length_nil]); omega)) ?_
                refine AAny.take (i := 21) rfl (by kernel_rfl) (by kernel_rfl) (by kernel_rfl) (by kernel_rfl) (by kernel_rfl) (by kernel_rfl) (Gv.fieldF Tryz.underlying27 rfl Tryz.sizeOf25 (by decide) rfl rfl) ?_
                refine AAny.take (i := 22) rfl (by kernel_rfl) (by kernel_rfl) (by kernel_rfl) (by kernel_rfl) (by kernel_rfl) (by kernel_rfl) (Gv.load1F (c := .fro _ _) Tryz.isAgg25 rfl) ?_
                refine AAny.take (i := 23) rfl (by kernel_rfl) (by kernel_rfl) (by kernel_rfl) (by kernel_rfl) (by kernel_rfl) (by kernel_rfl) (Gv.fieldO Tryz.underlying46 rfl Tryz.sizeOf44 (by decide) rfl rfl) ?_
                refine AAny.take (i := 24) rfl (by kernel_rfl) (by kernel_rfl) (by kernel_rfl) (by kernel_rfl) (by kernel_rfl) (by kernel_rfl) (Gv.idxAO (j := 1) Tryz.underlying44 Tryz.sizeOf3 rfl rfl rfl (by decide) rfl) ?_
                refine AAny.take (i := 25) rfl (by kernel_rfl) (by kernel_rfl) (by kernel_rfl) (by kernel_rfl) (by kernel_rfl) (by kernel_rfl) (Gv.load1C (c := .int _ _) Tryz.isAgg3 rfl ⟨_, .head⟩ rfl) ?_
                refine AAny.take (i := 26) rfl (by kernel_rfl) (by kernel_rfl) (by kernel_rfl) (by kernel_rfl) (by kernel_rfl) (by kernel_rfl) (Gv.idxM (j := b.term.to1.toNat) Tryz.underlying25 Tryz.sizeOf48 rfl rfl (by omega) c2) ?_
                refine AAny.take (i := 27) rfl (by kernel_rfl) (by kernel_rfl) (by kernel_rfl) (by kernel_rfl) (by kernel_rfl) (by kernel_rfl) (Gv.fieldF Tryz.underlying48 rfl Tryz.sizeOf9 (by decide) rfl rfl) ?_
                refine AAny.take (i := 28) rfl (by kernel_rfl) (by kernel_rfl) (by kernel_rfl) (by kernel_rfl) (by kernel_rfl) (by kernel_rfl) (Gv.load1F (c := .str _) Tryz.isAgg9 rfl) ?_
                refine AAny.take (i := 29) rfl (by kernel_rfl) (by kernel_rfl) (by kernel_rfl) (by kernel_rfl) (by kernel_rfl) (by kernel_rfl) (Gv.addT rfl rfl (by (try simp only [app_size]); (try simp only [lit_size, List.size_toArray, List.length_cons, List.length_nil]); omega)) ?_
                refine AAny.take (i := 30) rfl (by kernel_rfl) (by kernel_rfl) (by kernel_rfl) (by kernel_rfl) (by kernel_rfl) (by kernel_rfl) (Gv.addT rfl rfl (by (try simp only [app_size]); (try simp only [lit_size, List.size_toArray, List.length_cons, List.length_nil]); omega)) ?_
                refine AAny.take (i := 31) rfl (by kernel_rfl) (by kernel_rfl) (by kernel_rfl) (by kernel_rfl) (by kernel_rfl) (by kernel_rfl) (Gv.assign (v := .str _) rfl) ?_
                refine AAny.done (by kernel_rfl) ?_
                refine AWP.region rfl ?_
                refine AOps.val (Gv.add rfl rfl (by unfold I64; omega)) ?_
                refine AOps.val (Gv.move (v := .int _ _) rfl) ?_
                refine AOps.nil ?_
                exact ⟨(k + 1, ((((((acc6 ++ (⟨#[105, 102, 32]⟩ : ByteArray)) ++ f.vars[b.term.var.toNat].name) ++ spc) ++ f.blocks[b.term.to0.toNat].name) ++ spc) ++ f.blocks[b.term.to1.toNat].name) ++ nl), ⟨rfl, rfl, rfl, trivial⟩, ⟨rfl, rfl, trivial⟩, ⟨_, (.drop (.drop (.refl _))), rfl⟩, ⟨hk4, by dsimp only; rw [hnext, unB_app, ← hacc6]; unfold termL; rw [if_neg k0, if_pos k1, lineS_four, v4, b4, c4, show (⟨#[105, 102, 32]⟩ : ByteArray) = ifS ++ spc by decide]; simp only [ByteArray.append_assoc], by dsimp only; simp only [app_size]; have e1 : nl.size = 1 := rfl; have e2 : (⟨#[105, 102, 32]⟩ : ByteArray).size = 3 := rfl; have e3 : spc.size = 1 := rfl; omega⟩, by dsimp only; omega⟩
              · skip
                have k1 : ¬ b.term.kind = 1 := k1
                have t1 := termOK_2 hb3 k0 k1
                obtain ⟨v1, v2, v3, v4⟩ := has_get t1
                have hs1 : (f.vars[b.term.var.toNat]).name.size ≤ 1000 := by rw [← v4]; exact vname_sz hT t1
                refine AWP.region rfl ?_
                refine AOps.val (Gv.move (v := .str _) rfl) ?_
                refine AOps.val (Gv.addT rfl rfl (by (try simp only [app_size]); (try simp only [lit_size, List.size_toArray, List.length_cons, List.length_nil]); omega)) ?_
                refine AOps.val (Gv.fieldF Tryz.underlying27 rfl Tryz.sizeOf23 (by decide) rfl rfl) ?_
                refine AOps.val (Gv.load1F (c := .fro _ _) Tryz.isAgg23 rfl) ?_
                refine AOps.val (Gv.fieldO Tryz.underlying46 rfl Tryz.sizeOf3 (by decide) rfl rfl) ?_
                refine AOps.val (Gv.load1C (c := .int _ _) Tryz.isAgg3 rfl ⟨_, .head⟩ rfl) ?_
                refine AOps.val (Gv.idxM (j := b.term.var.toNat) Tryz.underlying23 Tryz.sizeOf38 rfl rfl (by omega) v2) ?_
                refine AOps.val (Gv.fieldF Tryz.underlying38 rfl Tryz.sizeOf9 (by decide) rfl rfl) ?_
                refine AOps.val (Gv.load1F (c := .str _) Tryz.isAgg9 rfl) ?_
                refine AOps.val (Gv.addT rfl rfl (by (try simp only [app_size]); (try simp only [lit_size, List.size_toArray, List.length_cons, List.length_nil]); omega)) ?_
                refine AOps.val (Gv.addT rfl rfl (by (try simp only [app_size]); (try simp only [lit_size, List.size_toArray, List.length_cons, List.length_nil]); omega)) ?_
                refine AOps.val (Gv.assign (v := .str _) rfl) ?_
                refine AOps.nil ?_
                refine AWP.region rfl ?_
                refine AOps.val (Gv.add rfl rfl (by unfold I64; omega)) ?_
                refine AOps.val (Gv.move (v := .int _ _) rfl) ?_
                refine AOps.nil ?_
                exact ⟨(k + 1, ((acc6 ++ (⟨#[114, 101, 116, 32]⟩ : ByteArray)) ++ f.vars[b.term.var.toNat].name) ++ nl), ⟨rfl, rfl, rfl, trivial⟩, ⟨rfl, rfl, trivial⟩, ⟨_, (.drop (.drop (.refl _))), rfl⟩, ⟨hk4, by dsimp only; rw [hnext, unB_app, ← hacc6]; unfold termL; rw [if_neg k0, if_neg k1, lineS_two, v4, show (⟨#[114, 101, 116, 32]⟩ : ByteArray) = retS ++ spc by decide]; simp only [ByteArray.append_assoc], by dsimp only; simp only [app_size]; have e1 : nl.size = 1 := rfl; have e2 : (⟨#[114, 101, 116, 32]⟩ : ByteArray).size = 4 := rfl; omega⟩, by dsimp only; omega⟩
      · skip
        obtain rfl : k = f.blocks.length := by simp at cb; omega
        rw [List.take_length] at hacc3
        have he : acc3 = textF f := by rw [hacc3, ← hlines]; rfl
        refine AWP.exit ?_
        refine AWP.seq ?_
        refine AWP.region rfl ?_
        refine AOps.val (Gv.move (v := .str _) rfl) ?_
        refine AOps.val (Gv.assign (v := .str _) rfl) ?_
        refine AOps.nil ?_
        refine AWP.ret ?_
        repeat (first | refine aseqQ_ret ?_ | refine ablockQ_ret ?_)
        refine afin.t1 (x := .str _) rfl ?_
        exact ⟨(), by rw [he], Left.none0 _, by rw [← he]; omega⟩
theorem refText_own (f : PFunc) (hS : ShapedP f) (hT : TOk f) (hn : NumsOk f) : ACall Tryz.prog E 9 [.agg (encF f)] [] (fun x O => ∃ _ : Unit, x = .str (textF f) ∧ O = [] ∧ (textF f).size ≤ 1000002000000) :=
  ACall.exact (x := fun _ : Unit => .str (textF f)) (M := fun _ => []) (p := fun _ => (textF f).size ≤ 1000002000000) (refText_ex f hS hT hn)
end Go.Proofs.YtdkhlgiohpdihaaGreatDoor
namespace Go.Proofs.YtdkhlgiohpdihaaGreatDoor
open Go.Proofs Go.Lib Go.Shelf Go.RowKit
set_option maxRecDepth 20000
def wideC (c : Int) : List Int := if c = 32 then [32, 32, 32] else if c = 10 then [32, 35, 32, 109, 111, 114, 101, 10, 10] else [c]
def wideR (rs : List Int) : List Int := rs.flatMap wideC
theorem wideR_cons (c : Int) (rs : List Int) : wideR (c :: rs) = wideC c ++ wideR rs := rfl
theorem wideR_app (a b : List Int) : wideR (a ++ b) = wideR a ++ wideR b := by unfold wideR; rw [List.flatMap_append]
theorem wideR_mem {rs : List Int} {x : Int} (h : x ∈ wideR rs) : x ∈ rs ∨ ((x = 32 ∧ (32 : Int) ∈ rs) ∨ ((10 : Int) ∈ rs ∧ x ∈ ([32, 35, 32, 109, 111, 114, 101, 10, 10] : List Int))) := by
  obtain ⟨c, hc, hx⟩ := List.mem_flatMap.1 h
  unfold wideC at hx
  split at hx
  · rename_i h1
    refine .inr (.inl ⟨?_, h1 ▸ hc⟩)
    simpa using hx
  · split at hx
    · rename_i h1; exact .inr (.inr ⟨h1 ▸ hc, hx⟩)
    · rw [List.mem_singleton.1 hx]; exact .inl hc
theorem wdL_sp (X : List Int) (out : List (List Int)) : wdL (32 :: X) out [] = wdL X out [] := by rw [wdL, if_pos rfl, if_pos rfl]
theorem wdL_wide : ∀ {p : List Int} (t : List Int) (out : List (List Int)) (cur : List Int), (10 : Int) ∉ p → wdL (wideR p ++ t) out cur = wdL (p ++ t) out cur
  | [], _, _, _, _ => rfl
  | c :: p, t, out, cur, h => by
    have hc : ¬ c = 10 := fun e => h (e ▸ .head _)
    have hp : (10 : Int) ∉ p := fun hm => h (.tail _ hm)
    rw [wideR_cons, List.append_assoc, List.cons_append]
    unfold wideC
    by_cases h1 : c = 32
    · subst h1
      rw [if_pos rfl]
      show wdL (32 :: (32 :: (32 :: (wideR p ++ t)))) out cur = wdL (32 :: (p ++ t)) out cur
      rw [wdL, if_pos rfl, wdL.eq_2 out cur 32 (p ++ t), if_pos rfl]
      split
      · rw [wdL_sp, wdL_sp, wdL_wide t _ _ hp]
      · rw [wdL_sp, wdL_sp, wdL_wide t _ _ hp]
    · rw [if_neg h1, if_neg hc]
      show wdL (c :: (wideR p ++ t)) out cur = wdL (c :: (p ++ t)) out cur
      rw [wdL, if_neg h1, wdL.eq_2 out cur c (p ++ t), if_neg h1, wdL_wide t _ _ hp]
theorem wdL_two : ∀ (p : List Int) (out : List (List Int)) (cur : List Int), wdL (p ++ [32, 32]) out cur = wdL (p ++ [32]) out cur
  | [], out, cur => by
    show wdL [32, 32] out cur = wdL [32] out cur
    rw [wdL, if_pos rfl, wdL.eq_2 out cur 32 [], if_pos rfl]
    split
    · rw [wdL_sp]
    · rw [wdL_sp]
  | c :: p, out, cur => by
    rw [List.cons_append, List.cons_append, wdL, wdL.eq_2 out cur c (p ++ [32])]
    split
    · split
      · exact wdL_two p _ _
      · exact wdL_two p _ _
    · exact wdL_two p _ _
theorem wide_no {x : Int} {p : List Int} (h10 : (10 : Int) ∉ p) (h : x ∉ p) (hx : x ≠ 32) : x ∉ wideR p := fun hm => by
  rcases wideR_mem hm with h1 | ⟨h1, _⟩ | ⟨h1, _⟩
  · exact h h1
  · exact hx h1
  · exact h10 h1
theorem line_wide {a : List Int} (r : List Int) (h : (10 : Int) ∉ a) : lineW (wideR a ++ 32 :: 35 :: r) = lineW a := by
  unfold lineW
  rcases at_first 35 a with h1 | ⟨p, q, rfl, h1⟩
  · have h2 : (35 : Int) ∉ wideR a ++ [32] := fun hm => by
      rcases List.mem_append.1 hm with hm | hm
      · exact wide_no h h1 (by omega) hm
      · simp at hm
    have e : wideR a ++ 32 :: 35 :: r = (wideR a ++ [32]) ++ 35 :: r := by simp
    rw [e, cutH_some h2, cutH_none h1, List.append_assoc, wdL_wide _ _ _ h]
    exact wdL_two a [] []
  · have hp : (10 : Int) ∉ p := fun hm => h (List.mem_append_left _ hm)
    have h2 : (35 : Int) ∉ wideR p := wide_no hp h1 (by omega)
    have e : wideR (p ++ 35 :: q) ++ 32 :: 35 :: r = wideR p ++ 35 :: (wideR q ++ 32 :: 35 :: r) := by
      rw [wideR_app, wideR_cons]
      show (wideR p ++ ([35] ++ wideR q)) ++ _ = _
      simp
    rw [e, cutH_some h2, cutH_some h1, wdL_wide _ _ _ hp]
theorem line_nil : lineW [] = [] := by
  unfold lineW
  show wdL [32] [] [] = []
  rw [wdL_sp]; rfl
theorem text_wide : ∀ (n : Nat) (rs : List Int), rs.length ≤ n → textW (wideR rs ++ [32, 35]) = textW rs
  | n, rs, hn => by
    rcases at_first 10 rs with h1 | ⟨a, b, rfl, h1⟩
    · have h2 : (10 : Int) ∉ wideR rs ++ [32, 35] := fun hm => by
        rcases List.mem_append.1 hm with hm | hm
        · exact wide_no h1 h1 (by omega) hm
        · simp at hm
      unfold textW
      rw [splitR_none h2, splitR_none h1, List.map_cons, List.map_cons, line_wide [] h1]
    · cases n with
      | zero => simp at hn
      | succ n =>
        have ih := text_wide n b (by simp at hn; omega)
        have h2 : (10 : Int) ∉ wideR a ++ [32, 35, 32, 109, 111, 114, 101] := fun hm => by
          rcases List.mem_append.1 hm with hm | hm
          · exact wide_no h1 h1 (by omega) hm
          · simp at hm
        have e : wideR (a ++ 10 :: b) ++ [32, 35] = (wideR a ++ [32, 35, 32, 109, 111, 114, 101]) ++ 10 :: ([] ++ 10 :: (wideR b ++ [32, 35])) := by
          rw [wideR_app, wideR_cons]
          show (wideR a ++ ([32, 35, 32, 109, 111, 114, 101, 10, 10] ++ wideR b)) ++ _ = _
          simp
        unfold textW at ih ⊢
        rw [e, splitR_some h2, splitR_some (by simp), splitR_some h1, List.map_cons, List.map_cons, List.map_cons, line_nil, line_wide _ h1, List.filter_cons, List.filter_cons, List.filter_cons]
        rw [if_neg (show ¬ (!([] : List (List Int)).isEmpty) = true by simp), ih]
theorem wide_ok {rs : List Int} (h1 : okL1 rs) (h2 : rs.all lineC = true) : okL1 (wideR rs ++ [32, 35]) ∧ (wideR rs ++ [32, 35]).all lineC = true := by
  have hx : ∀ x ∈ wideR rs ++ [32, 35], okR x ∧ lineC x = true := fun x hx => by
    have hlit : ∀ y ∈ ([32, 35, 109, 111, 114, 101, 10] : List Int), okR y ∧ lineC y = true := fun y hy => by
      simp only [List.mem_cons, List.not_mem_nil, or_false] at hy
      rcases hy with rfl | rfl | rfl | rfl | rfl | rfl | rfl <;> exact ⟨.inl ⟨by omega, by omega⟩, by decide⟩
    rcases List.mem_append.1 hx with hx | hx
    · rcases wideR_mem hx with h | ⟨h, _⟩ | ⟨_, h⟩
      · exact ⟨h1 x h, List.all_eq_true.1 h2 x h⟩
      · exact hlit x (by rw [h]; simp)
      · exact hlit x (by simp at h ⊢; omega)
    · exact hlit x (by simp at hx ⊢; omega)
  exact ⟨fun x h => (hx x h).1, List.all_eq_true.2 fun x h => (hx x h).2⟩
theorem parse_words {s t : ByteArray} (h1 : rightE s = 0) (h2 : rightE t = 0) (h : (linesOf s).map (·.2) = (linesOf t).map (·.2)) : parseC s = parseC t := by
  unfold parseC
  rw [if_pos h1, if_pos h2, readP_snd h]
theorem words_R {rs : List Int} (h1 : okL1 rs) (h : rightE (strL (encs rs)) = 0) : (linesOf (strL (encs rs))).map (·.2) = (textW rs).map fun l => l.map runesBytes := by
  unfold linesOf
  rw [if_pos h]
  exact scanLines_encs h1
theorem wide_parse {rs : List Int} (h1 : okL1 rs) (h2 : rs.all lineC = true) (h0 : rightE (strL (encs rs)) = 0) (hsz : (encs (wideR rs)).length ≤ 16382) : parseC (strL (encs (wideR rs)) ++ ⟨#[32, 35]⟩) = parseC (strL (encs rs)) := by
  have e : strL (encs (wideR rs)) ++ ⟨#[32, 35]⟩ = strL (encs (wideR rs ++ [32, 35])) := by
    rw [encs_app]
    have : (⟨#[32, 35]⟩ : ByteArray) = strL (encs [32, 35]) := by
      have : encs [32, 35] = [32, 35] := encs_ascii (l := [32, 35]) (by decide)
      rw [this]; rfl
    rw [this, strL_app]
  obtain ⟨w1, w2⟩ := wide_ok h1 h2
  have hr : rightE (strL (encs (wideR rs ++ [32, 35]))) = 0 := by
    rw [rightE_encs w1, if_neg (by
      rw [encs_app, List.length_append]
      have : encs [32, 35] = [32, 35] := encs_ascii (l := [32, 35]) (by decide)
      rw [this]; show ¬ 16384 < _ + 2; omega), if_pos w2]
  rw [e]
  refine parse_words hr h0 ?_
  rw [words_R w1 hr, words_R h1 h0, text_wide _ _ (Nat.le_refl _)]
def nb (rs : List Int) : Nat := (rs.map fun c => if c = 32 then 0 else (encodeRune c).length).sum
theorem nb_cons (c : Int) (rs : List Int) : nb (c :: rs) = (if c = 32 then 0 else (encodeRune c).length) + nb rs := by unfold nb; rw [List.map_cons, List.sum_cons]
theorem nb_app (a b : List Int) : nb (a ++ b) = nb a + nb b := by unfold nb; rw [List.map_append, List.sum_append]
theorem nb_le : ∀ rs : List Int, nb rs ≤ (encs rs).length
  | [] => Nat.zero_le _
  | c :: rs => by
    have := nb_le rs
    rw [nb_cons, encs_cons, List.length_append]
    split <;> omega
def lw (l : List (List Int)) : Nat := (l.map fun w => (encs w).length).sum
theorem lw_app (a b : List (List Int)) : lw (a ++ b) = lw a + lw b := by unfold lw; rw [List.map_append, List.sum_append]
theorem lw_one (a : List Int) : lw [a] = (encs a).length := by unfold lw; simp
theorem wdL_lw : ∀ (rs : List Int) (out : List (List Int)) (cur : List Int), lw (wdL rs out cur) ≤ lw out + ((encs cur).length + nb rs)
  | [], out, cur => by show lw out ≤ _; omega
  | c :: rs, out, cur => by
    rw [wdL, nb_cons]
    split
    · split
      · have := wdL_lw rs out []
        have h0 : (encs []).length = 0 := rfl
        omega
      · have := wdL_lw rs (out ++ [cur]) []
        have h0 : (encs []).length = 0 := rfl
        rw [lw_app, lw_one] at this
        omega
    · have := wdL_lw rs out (cur ++ [c])
      have h1 : encs [c] = encodeRune c := by rw [encs_cons]; show _ ++ [] = _; rw [List.append_nil]
      rw [encs_app, h1, List.length_append] at this
      omega
theorem nb_take : ∀ rs : List Int, nb (cutH rs) ≤ nb rs
  | [] => Nat.le_refl _
  | c :: rs => by
    have := nb_take rs
    unfold cutH at this ⊢
    rw [List.takeWhile_cons]
    split
    · rw [nb_cons, nb_cons]; omega
    · exact Nat.zero_le _
theorem line_lw (rs : List Int) : lw (lineW rs) ≤ nb rs := by
  have h1 := wdL_lw (cutH rs ++ [32]) [] []
  have h2 := nb_take rs
  rw [nb_app] at h1
  have h3 : nb [32] = 0 := rfl
  have h4 : lw [] = 0 := rfl
  have h5 : (encs []).length = 0 := rfl
  unfold lineW
  omega
theorem split_nb : ∀ rs : List Int, ((splitR rs).map nb).sum ≤ nb rs
  | [] => Nat.le_refl _
  | c :: rs => by
    have ih := split_nb rs
    rw [splitR, nb_cons]
    split
    · rw [List.map_cons, List.sum_cons]
      have : nb [] = 0 := rfl
      omega
    · split
      · rw [List.map_cons, List.map_nil, List.sum_cons, List.sum_nil, nb_cons]
        have : nb [] = 0 := rfl
        omega
      · rename_i l ls he
        rw [he, List.map_cons, List.sum_cons] at ih
        rw [List.map_cons, List.sum_cons, nb_cons]; omega
theorem filt_lw : ∀ ls : List (List Int), (((ls.map lineW).filter fun l => !l.isEmpty).map lw).sum ≤ (ls.map nb).sum
  | [] => Nat.le_refl _
  | l :: ls => by
    have ih := filt_lw ls
    have h := line_lw l
    rw [List.map_cons, List.filter_cons, List.map_cons, List.sum_cons]
    split
    · rw [List.map_cons, List.sum_cons]; omega
    · omega
theorem wdL_ok : ∀ {rs : List Int} {out : List (List Int)} {cur : List Int}, okL1 rs → okL1 cur → (∀ w ∈ out, okL1 w) → ∀ w ∈ wdL rs out cur, okL1 w
  | [], _, _, _, _, h => h
  | c :: rs, out, cur, h1, h2, h3 => by
    rw [wdL]
    split
    · split
      · exact wdL_ok h1.cons_r (fun x hx => by cases hx) h3
      · refine wdL_ok h1.cons_r (fun x hx => by cases hx) fun w hw => ?_
        rcases List.mem_append.1 hw with hw | hw
        · exact h3 w hw
        · rw [List.mem_singleton.1 hw]; exact h2
    · refine wdL_ok h1.cons_r (fun x hx => ?_) h3
      rcases List.mem_append.1 hx with hx | hx
      · exact h2 x hx
      · rw [List.mem_singleton.1 hx]; exact h1 c (.head _)
theorem line_ok1 {rs : List Int} (h : okL1 rs) : ∀ w ∈ lineW rs, okL1 w := by
  unfold lineW
  refine wdL_ok (fun x hx => ?_) (fun x hx => by cases hx) (fun w hw => by cases hw)
  rcases List.mem_append.1 hx with hx | hx
  · exact h x (cutH_sub rs x hx)
  · rw [List.mem_singleton.1 hx]; exact .inl ⟨by omega, by omega⟩
theorem words_wt {s : ByteArray} (h : rightE s = 0) : ((linesOf s).map fun l => sz l.2).sum ≤ s.size := by
  obtain ⟨rs, rfl, h1, _, _⟩ := valid_text h
  have e : (linesOf (strL (encs rs))).map (fun l => sz l.2) = (textW rs).map lw := by
    have h2 := congrArg (List.map sz) (words_R h1 h)
    rw [List.map_map, List.map_map] at h2
    refine h2.trans (List.map_congr_left fun l hl => ?_)
    have hl := (List.mem_filter.1 hl).1
    obtain ⟨p, hp, rfl⟩ := List.mem_map.1 hl
    have hok := line_ok1 (splitR_ok h1 p hp)
    show sz ((lineW p).map runesBytes) = lw (lineW p)
    unfold sz lw
    rw [List.map_map]
    congr 1
    exact List.map_congr_left fun w hw => by
      show (runesBytes w).size = (encs w).length
      rw [runesBytes_encs (hok w hw), strL_size]
  rw [e, strL_size]
  have h3 := filt_lw (splitR rs)
  have h4 := split_nb rs
  have h5 := nb_le rs
  unfold textW
  omega
end Go.Proofs.YtdkhlgiohpdihaaGreatDoor
namespace Go.Proofs.YtdkhlgiohpdihaaGreatDoor
open Go.Proofs Go.Lib Go.Shelf Go.RowKit
set_option maxRecDepth 20000
theorem le_sum {α : Type} {g : α → Nat} : ∀ {l : List α} {x : α}, x ∈ l → g x ≤ (l.map g).sum
  | a :: l, x, h => by
    rw [List.map_cons, List.sum_cons]
    rcases List.mem_cons.1 h with rfl | h
    · omega
    · have := le_sum (g := g) h; omega
theorem encs_four : ∀ rs : List Int, (encs rs).length ≤ 4 * rs.length
  | [] => Nat.zero_le _
  | c :: rs => by
    have h1 := encs_four rs
    have h2 : (encodeRune c).length ≤ 4 := by unfold encodeRune; rw [List.length_map]; exact (encodeRuneZ_length c).2
    rw [encs_cons, List.length_append, List.length_cons]; omega
theorem name_short {s : ByteArray} (h : scanName s = true) : s.size ≤ 64 := by
  obtain ⟨rs, rfl, h1, h2, _⟩ := name_runes h
  rw [scanName_R, runes_encs h1 (Nat.zero_le _) (by rw [strL_list]; rfl)] at h
  rw [strL_size]
  have h3 := encs_four rs
  cases rs with
  | nil => exact absurd rfl h2
  | cons c r =>
    unfold nameR at h
    simp only [Bool.and_eq_true, decide_eq_true_eq] at h
    have := h.2.2
    rw [List.length_cons] at h3
    omega
section
variable {S : PProg}
theorem read_tok (hS : SP S) (hb : blocksOf S ≠ []) (he : ∀ b ∈ blocksOf S, BP b ∧ b.1.ended = true) (hf : fitsP S = true) (hl : lostP S = false) (hw : wtS S ≤ 2000) : TOk (funcP S) := by
  have hm := maps_of hl
  obtain ⟨hsh, hn⟩ := read_shaped hS hb he hf hl
  obtain ⟨hfo, _⟩ := shaped_ok hsh
  have hbk : (funcP S).blocks = (blocksOf S).map (blockOf (mapFrom (varNames S) 0) (mapFrom (blkNames S) 0)) := by
    unfold funcP; rw [hm.v, hm.b]
  have hsum := hsh.2.2.2.2.1
  unfold fitsP at hf
  simp only [Bool.and_eq_true, decide_eq_true_eq] at hf
  obtain ⟨f1, f2, f3, f4⟩ := hf
  have hvl : (funcP S).vars.length = S.params.length + S.vars.length := by unfold funcP; simp
  have hbl : (funcP S).blocks.length = (blocksOf S).length := by rw [hbk]; simp
  refine ⟨by omega, by omega, fun v hv => by have := name_short (hfo.vars v hv).1; omega, fun b hb => by have := name_short (hfo.blks b hb).1; omega, fun x hx => ?_⟩
  have h1 : x.phis.length + x.insts.length ≤ sumTo (funcP S).blocks := le_sum (g := fun b : PBlock => b.phis.length + b.insts.length) hx
  refine ⟨by omega, by omega, fun p hp => ?_⟩
  have hpp := (hfo.blks x hx).2.1 p hp
  have hlen : p.args.length ≤ 2000 := by
    rw [hbk] at hx
    obtain ⟨b, hb, rfl⟩ := List.mem_map.1 hx
    obtain ⟨it, i1, i2⟩ := List.mem_filterMap.1 hp
    cases it with
    | inst op d a n => cases i2
    | phi d f a =>
      cases i2
      have hlb := hm.lost b hb
      unfold lostBlk at hlb
      have l1 := (Bool.or_eq_false_iff.1 (Bool.or_eq_false_iff.1 hlb).1).1
      have l2 : ((dstL (mapFrom (varNames S) 0) d || a.any fun s => !hasM (mapFrom (varNames S) 0) s) || f.any fun s => !hasM (mapFrom (blkNames S) 0) s) = false := (show lostI (mapFrom (varNames S) 0) (mapFrom (blkNames S) 0) (.phi d f a) = false by simpa using List.any_eq_false.1 l1 _ i1)
      have l3 := (Bool.or_eq_false_iff.1 (Bool.or_eq_false_iff.1 l2).1).2
      have hne : ∀ s ∈ a, s ≠ ⟨#[]⟩ := fun s hs => by
        obtain ⟨v1, v2⟩ := vname_back hm (names_any l3 s hs)
        have := vname_ok hfo v1
        rw [v2] at this
        exact name_ne this
      have h2 := len_sz hne
      have h3 : sz a ≤ wtI (.phi d f a) := by show sz a ≤ d.size + (1 + (3 + (sz f + sz a))); omega
      have h4 := le_sum (g := wtI) i1
      have h5 := le_sum (g := wtB) hb
      have h6 : (b.2.map wtI).sum ≤ wtB b := by unfold wtB; omega
      have h7 : ((blocksOf S).map wtB).sum ≤ wtS S := by unfold wtS wtBs; omega
      show (a.map _).length ≤ 2000
      rw [List.length_map]; omega
  have := hpp.2.1
  exact ⟨by omega, by omega⟩
end
theorem right_cases (s : ByteArray) : rightE s = 0 ∨ rightE s = 2 ∨ rightE s = 4 := by
  unfold rightE
  split
  · exact .inr (.inr rfl)
  · split
    · exact .inr (.inl rfl)
    · split
      · exact .inl rfl
      · exact .inr (.inl rfl)
structure ReadOk (s : ByteArray) (f : PFunc) : Prop where
  parse : parseC s = (0, some f)
  shaped : ShapedP f
  nums : NumsOk f
  tok : TOk f
  size : ¬ 16384 < (textF f).size
  wide : ∃ rs, s = strL (encs rs) ∧ okL1 rs ∧ ((encs (wideR rs)).length ≤ 16382 → parseC (strL (encs (wideR rs)) ++ ⟨#[32, 35]⟩) = (0, some f))
theorem reads_ok {s : ByteArray} (hs : s.size ≤ 2000) : (∃ e, parseC s = (e, none) ∧ (e = 2 ∨ e = 3 ∨ e = 4)) ∨ ∃ f, ReadOk s f := by
  by_cases hr : rightE s = 0
  · obtain ⟨p, hpe⟩ : ∃ p, parseC s = p := ⟨_, rfl⟩
    have hp := hpe
    unfold parseC at hp
    rw [if_pos hr] at hp
    cases hR : readP (linesOf s) with
    | none => rw [hR] at hp; exact .inl ⟨2, hpe.trans hp.symm, .inl rfl⟩
    | some S =>
      rw [hR] at hp
      dsimp only at hp
      by_cases hf : fitsP S = true
      · rw [if_pos hf] at hp
        by_cases hlo : lostP S = true
        · have : buildP S = none := by unfold buildP; rw [if_pos hlo]
          rw [this] at hp
          exact .inl ⟨3, hpe.trans hp.symm, .inr (.inl rfl)⟩
        · have hl : lostP S = false := by simpa using hlo
          have hb : buildP S = some (funcP S) := by unfold buildP; rw [if_neg hlo]
          rw [hb] at hp
          dsimp only at hp
          obtain ⟨r1, r2, r3, r4⟩ := read_ok hR
          have hww : 4 + wtS S ≤ s.size := Nat.le_trans r2 (words_wt hr)
          obtain ⟨q1, q2⟩ := read_shaped r1 r3 r4 hf hl
          have q3 := text_wt r1 r3 r4 hf hl
          obtain ⟨rs, e1, e2, e3, _⟩ := valid_text hr
          have hpp : parseC s = (0, some (funcP S)) := hpe.trans hp.symm
          refine .inr ⟨funcP S, hpp, q1, q2, read_tok r1 r3 r4 hf hl (by omega), by omega, rs, e1, e2, fun hsz => ?_⟩
          rw [wide_parse e2 e3 (by rw [← e1]; exact hr) hsz, ← e1]
          exact hpp
      · rw [if_neg hf] at hp
        exact .inl ⟨4, hpe.trans hp.symm, .inr (.inr rfl)⟩
  · have hp : parseC s = (rightE s, none) := by unfold parseC; rw [if_neg hr]
    rcases right_cases s with h | h | h
    · exact absurd h hr
    · exact .inl ⟨2, by rw [hp, h], .inl rfl⟩
    · exact .inl ⟨4, by rw [hp, h], .inr (.inr rfl)⟩
theorem read_okF {f : PFunc} (hS : ShapedP f) (hT : TOk f) : okFunc f ∧ okNames f := by
  have h1 := hS.1
  unfold bad1 at h1
  simp only [Bool.or_eq_false_iff, decide_eq_false_iff_not] at h1
  obtain ⟨t1, t2, t3, t4, t5⟩ := hT
  refine ⟨⟨by unfold okL; omega, by unfold okL; omega, by unfold okL; omega, fun b hb => ?_⟩, fun v hv => by have := t3 v hv; omega, fun b hb => by have := t4 b hb; omega⟩
  obtain ⟨u1, u2, u3⟩ := t5 b hb
  refine ⟨by unfold okL; omega, by unfold okL; omega, fun p hp => by have := u3 p hp; exact ⟨by unfold okL; omega, by unfold okL; omega⟩, fun x hx => ?_⟩
  have h2 := instP_F ((hS.2.2.2.2.2 b hb).2.1 x hx)
  have h3 := h2.len
  have h4 := takesL_len x.op
  unfold okL; omega
def wstep (c : Int) : ByteArray := if c = 32 then ⟨#[32, 32, 32]⟩ else if c = 10 then ⟨#[32, 35, 32, 109, 111, 114, 101, 10, 10]⟩ else runesBytes [c]
def wideB (rs : List Int) (w : ByteArray) : ByteArray := rs.foldl (fun w c => w ++ wstep c) w
theorem wstep_eq {c : Int} (h : okR c) : wstep c = strL (encs (wideC c)) := by
  unfold wstep wideC
  split
  · have : encs [32, 32, 32] = [32, 32, 32] := encs_ascii (l := [32, 32, 32]) (by decide)
    rw [this]; rfl
  · split
    · have : encs [32, 35, 32, 109, 111, 114, 101, 10, 10] = [32, 35, 32, 109, 111, 114, 101, 10, 10] := encs_ascii (l := [32, 35, 32, 109, 111, 114, 101, 10, 10]) (by decide)
      rw [this]; rfl
    · exact runesBytes_encs fun x hx => by rw [List.mem_singleton.1 hx]; exact h
theorem wideB_eq : ∀ {rs : List Int} {w : ByteArray}, okL1 rs → wideB rs w = w ++ strL (encs (wideR rs))
  | [], w, _ => by
    show w = w ++ strL []
    exact (ByteArray.append_empty).symm
  | c :: rs, w, h => by
    show wideB rs (w ++ wstep c) = _
    rw [wideB_eq h.cons_r, wideR_cons, encs_app, ← strL_app, wstep_eq (h c (.head _)), ByteArray.append_assoc]
end Go.Proofs.YtdkhlgiohpdihaaGreatDoor
namespace Go.Proofs.YtdkhlgiohpdihaaGreatDoor
section
variable {P : Program} {env : AEnv} {O : OL}
variable {d ty : Nat} {pos : String} {af : Array Edge} {x y : Operand}
end
end Go.Proofs.YtdkhlgiohpdihaaGreatDoor
namespace Go.Proofs.YtdkhlgiohpdihaaGreatDoor
open Go.Proofs Go.Lib Go.Shelf Go.RowKit
set_option maxRecDepth 20000
variable {E : World}
def Imp (x y : AV) : Prop := ∀ I v, RepV I x v → RepV I y v
def ImpL (xs ys : List AV) : Prop := ∀ I vs, RepL I xs vs → RepL I ys vs
theorem Imp.refl (x : AV) : Imp x x := fun _ _ h => h
theorem Imp.nil (k : Nat) : Imp (.raw (.slice none 0 0)) (.fro k []) := fun _ _ h => ⟨none, 0, 0, h, rfl, Nat.le_refl _, fun _ => rfl, trivial⟩
theorem ImpL.nil : ImpL [] [] := fun _ _ h => h
theorem ImpL.cons {x y : AV} {xs ys : List AV} (h : Imp x y) (hs : ImpL xs ys) : ImpL (x :: xs) (y :: ys) := fun I _ ⟨v, us, e, h1, h2⟩ => ⟨v, us, e, h I v h1, hs I us h2⟩
theorem Imp.agg {xs ys : List AV} (h : ImpL xs ys) : Imp (.agg xs) (.agg ys) := fun I _ ⟨vs, e, h1⟩ => ⟨vs, e, h I vs h1⟩
theorem lawShaped_spec (f : PFunc) (hf : okFunc f) (hn : okNames f) (hL : Letters E) : AFun Tryz.prog E 8 [.agg (encF f)] (.bool (decide (ShapedP f))) := by
  refine ACall.intro Tryz.func8 rfl (by decide) rfl ?_
  refine AWP.seq ?_
  refine AWP.region rfl ?_
  refine AOps.boxF (cs := _) rfl rfl rfl ?_
  refine AOps.val (Gv.assign (v := .bool _) rfl) ?_
  refine AOps.nil ?_
  refine AWP.seq ?_
  refine AWP.region rfl ?_
  refine AOps.val (Gv.loadWF Tryz.isAgg27 Tryz.sizeOf27 rfl rfl) ?_
  refine AOps.callP (refShaped_spec _ (by assumption) (by assumption) hL) rfl ?_
  refine AOps.val (Gv.assign (v := .bool _) rfl) ?_
  refine AOps.nil ?_
  refine AWP.ret ?_
  repeat (first | refine aseqQ_ret ?_ | refine ablockQ_ret ?_)
  refine afin.t1 (x := .bool _) rfl ?_
  rfl
theorem Left.none : ∀ O : OL, Left O []
  | [] => .refl _
  | _ :: O => let ⟨_, h, e⟩ := Left.none O; ⟨_, .drop h, e⟩
end Go.Proofs.YtdkhlgiohpdihaaGreatDoor
namespace Go.Proofs.YtdkhlgiohpdihaaGreatDoor
open Go.Proofs Go.Lib Go.Shelf Go.RowKit Go.WideShapes
set_option maxRecDepth 20000
variable {W : World}
theorem xTab : RExtra Tryz.prog Tryz.lays200_ren := ⟨by kernel_rfl, by kernel_rfl, by kernel_rfl, by kernel_rfl, by kernel_rfl, by kernel_rfl, by kernel_rfl, by kernel_rfl⟩
theorem pows_of (h : Lib.VarReads Tryz.prog W "internal/strconv.uint64pow10" (Lib.tabData .u64 Lib.pow10Tab)) : Pows W :=
  tabIs_of_reads (g := 4) (by kernel_rfl) (by kernel_rfl) Tryz.underlying205 Tryz.underlying155 (by kernel_rfl) (by kernel_rfl) h
theorem letters_of (h : Lib.VarReads Tryz.prog W "unicode.properties" (Lib.tabData .u8 Lib.propertiesTab)) (h2 : Lib.VarReads Tryz.prog W "unicode.Letter" (Lib.rtabData letterT)) : Letters W :=
  ⟨tabIs_of_reads (g := 2) (by kernel_rfl) (by kernel_rfl) Tryz.underlying165 Tryz.underlying5 (by kernel_rfl) (by kernel_rfl) h,
   rvar_of_reads { Tryz.lays200 with } xTab (name := "unicode.Letter") (g := 3) (by kernel_rfl) (by kernel_rfl) h2⟩
end Go.Proofs.YtdkhlgiohpdihaaGreatDoor
namespace Go.Proofs.YtdkhlgiohpdihaaGreatDoor
open Go.Proofs Go.Lib Go.Shelf Go.RowKit
set_option maxRecDepth 20000
variable {E : World}
def livesT : PFunc := ⟨[⟨⟨#[110]⟩, 0⟩], [0], [⟨⟨#[97]⟩, [], [], ⟨2, 0, 0, 0⟩⟩]⟩
theorem one_name (n : Nat) (hn : n < 128) (hl : nameR [(n : Int)] = true) : nameB (strL (encs [(n : Int)])) = true := by
  rw [nameB_R, runes_encs (rs := [(n : Int)]) (fun c hc => by rw [List.mem_singleton.1 hc]; exact .inl ⟨by omega, by omega⟩) (Nat.zero_le _) (by rw [strL_list]; rfl)]
  exact hl
theorem livesT_shaped : ShapedP livesT := by
  have h1 : nameB ⟨#[110]⟩ = true := one_name 110 (by omega) (by decide)
  have h2 : nameB ⟨#[97]⟩ = true := one_name 97 (by omega) (by decide)
  refine ⟨by decide, fun i h => ?_, fun i h => ?_, fun i h => ?_, by decide, fun b hb => ?_⟩
  · have : i = 0 := by have : i < 1 := h; omega
    subst this; rfl
  · have : i = 0 := by have : i < 1 := h; omega
    subst this; exact ⟨h1, (by decide : (0 : Int) ≤ 0), (by decide : (0 : Int) ≤ 2), by intro s hs; cases hs⟩
  · have : i = 0 := by have : i < 1 := h; omega
    subst this; exact ⟨h2, by intro s hs; cases hs⟩
  · have hb : b = ⟨⟨#[97]⟩, [], [], ⟨2, 0, 0, 0⟩⟩ := List.mem_singleton.1 hb
    subst hb
    exact ⟨(fun p hp => by cases hp), (fun p hp => by cases hp), by decide⟩
theorem livesT_text : textF livesT = ⟨#[102, 117, 110, 99, 32, 110, 58, 105, 110, 116, 10, 98, 108, 111, 99, 107, 32, 97, 10, 114, 101, 116, 32, 110, 10]⟩ := by decide
theorem livesT_parse : parseC ⟨#[102, 117, 110, 99, 32, 110, 58, 105, 110, 116, 10, 98, 108, 111, 99, 107, 32, 97, 10, 114, 101, 116, 32, 110, 10]⟩ = (0, some livesT) := by
  have h := parse_text livesT_shaped (fun b hb x hx => by
    have hb : b = ⟨⟨#[97]⟩, [], [], ⟨2, 0, 0, 0⟩⟩ := List.mem_singleton.1 hb
    subst hb; cases hx)
  rw [livesT_text] at h
  rw [h, if_neg (by decide)]
theorem lives4_spec (hL : Letters E) (hT : Pows E) (hV : Vars0 E) : AFun Tryz.prog E 6 [] (.bool true) := by
  have hp := zparse_spec (E := E) ⟨#[102, 117, 110, 99, 32, 110, 58, 105, 110, 116, 10, 98, 108, 111, 99, 107, 32, 97, 10, 114, 101, 116, 32, 110, 10]⟩ (by decide) hL hT hV
  rw [livesT_parse] at hp
  dsimp only [Option.getD] at hp
  refine ACall.intro Tryz.func6 rfl (by decide) rfl ?_
  refine AWP.seq ?_
  refine AWP.region rfl ?_
  refine AOps.val (Gv.assign (v := .bool _) rfl) ?_
  refine AOps.nil ?_
  refine AWP.seq ?_
  refine AWP.region rfl ?_
  refine AOps.callP (hp) rfl ?_
  refine AOps.val (Gv.move (v := .tup _) rfl) ?_
  refine AOps.val (Gv.extract (v := .agg _) rfl rfl) ?_
  refine AOps.val (Gv.extract (v := .int _ _) rfl rfl) ?_
  refine AOps.alloc (cs := [.raw (.slice none 0 0), .raw (.slice none 0 0), .raw (.slice none 0 0)]) Tryz.zeroValue27 rfl rfl ?_
  intro i1
  refine AOps.storeW Tryz.sizeOf27 rfl rfl rfl rfl rfl rfl .head rfl ?_
  refine AOps.val (Gv.assign (v := .int _ _) rfl) ?_
  refine AOps.nil ?_
  refine AWP.seq ?_
  refine AWP.region rfl ?_
  refine AOps.val (Gv.move (v := .int _ _) rfl) ?_
  refine AOps.val (Gv.eqlI rfl rfl) ?_
  refine AOps.val (Gv.move (v := .bool _) rfl) ?_
  refine AOps.guardT rfl rfl rfl ?_
  refine AOps.val (Gv.fieldO Tryz.underlying27 rfl Tryz.sizeOf25 (by decide) rfl rfl) ?_
  refine AOps.guardT rfl rfl rfl ?_
  refine AOps.val (Gv.load1C (c := .fro _ _) Tryz.isAgg25 rfl ⟨_, .head⟩ rfl) ?_
  refine AOps.guardT rfl rfl rfl ?_
  refine AOps.val (Gv.lenM Tryz.underlying25 rfl) ?_
  refine AOps.guardT rfl rfl rfl ?_
  refine AOps.val (Gv.eqlI rfl rfl) ?_
  refine AOps.val (Gv.pickT (v := .bool _) rfl rfl rfl) ?_
  refine AOps.val (Gv.move (v := .bool _) rfl) ?_
  refine AOps.guardT rfl rfl rfl ?_
  refine AOps.val (Gv.fieldO Tryz.underlying27 rfl Tryz.sizeOf24 (by decide) rfl rfl) ?_
  refine AOps.guardT rfl rfl rfl ?_
  refine AOps.val (Gv.load1C (c := .fro _ _) Tryz.isAgg24 rfl ⟨_, .head⟩ rfl) ?_
  refine AOps.guardT rfl rfl rfl ?_
  refine AOps.val (Gv.lenM Tryz.underlying24 rfl) ?_
  refine AOps.guardT rfl rfl rfl ?_
  refine AOps.val (Gv.eqlI rfl rfl) ?_
  refine AOps.val (Gv.pickT (v := .bool _) rfl rfl rfl) ?_
  refine AOps.val (Gv.move (v := .bool _) rfl) ?_
  refine AOps.guardT rfl rfl rfl ?_
  refine AOps.val (Gv.fieldO Tryz.underlying27 rfl Tryz.sizeOf25 (by decide) rfl rfl) ?_
  refine AOps.guardT rfl rfl rfl ?_
  refine AOps.val (Gv.load1C (c := .fro _ _) Tryz.isAgg25 rfl ⟨_, .head⟩ rfl) ?_
  refine AOps.guardT rfl rfl rfl ?_
  refine AOps.val (Gv.idxM (j := 0) Tryz.underlying25 Tryz.sizeOf48 rfl rfl rfl rfl) ?_
  refine AOps.guardT rfl rfl rfl ?_
  refine AOps.val (Gv.fieldF Tryz.underlying48 rfl Tryz.sizeOf46 (by decide) rfl rfl) ?_
  refine AOps.guardT rfl rfl rfl ?_
  refine AOps.val (Gv.fieldF Tryz.underlying46 rfl Tryz.sizeOf43 (by decide) rfl rfl) ?_
  refine AOps.guardT rfl rfl rfl ?_
  refine AOps.val (Gv.load1F (c := .int _ _) Tryz.isAgg43 rfl) ?_
  refine AOps.guardT rfl rfl rfl ?_
  refine AOps.val (Gv.eqlI rfl rfl) ?_
  refine AOps.val (Gv.pickT (v := .bool _) rfl rfl rfl) ?_
  refine AOps.val (Gv.move (v := .bool _) rfl) ?_
  refine AOps.guardT rfl rfl rfl ?_
  refine AOps.val (Gv.fieldO Tryz.underlying27 rfl Tryz.sizeOf23 (by decide) rfl rfl) ?_
  refine AOps.guardT rfl rfl rfl ?_
  refine AOps.val (Gv.load1C (c := .fro _ _) Tryz.isAgg23 rfl ⟨_, .head⟩ rfl) ?_
  refine AOps.guardT rfl rfl rfl ?_
  refine AOps.val (Gv.idxM (j := 0) Tryz.underlying23 Tryz.sizeOf38 rfl rfl rfl rfl) ?_
  refine AOps.guardT rfl rfl rfl ?_
  refine AOps.val (Gv.loadWF Tryz.isAgg38 Tryz.sizeOf38 rfl rfl) ?_
  refine AOps.guardT rfl rfl rfl ?_
  refine AOps.val (Gv.build (cps := [(0, [_]), (1, [_])]) (rs := [_, _]) pl38 rfl rfl rfl) ?_
  refine AOps.guardT rfl rfl rfl ?_
  refine AOps.val (Gv.eqlP (xs := [.string _, .int _ _]) (ys := [.string _, .int _ _]) (by kernel_rfl) rfl rfl (fun w => eq_var _ _ _ _ w)) ?_
  refine AOps.val (Gv.pickT (v := .bool _) rfl rfl rfl) ?_
  refine AOps.val (Gv.assign (v := .bool _) rfl) ?_
  refine AOps.nil ?_
  refine AWP.ret ?_
  repeat (first | refine aseqQ_ret ?_ | refine ablockQ_ret ?_)
  refine afin.t1 (x := .bool _) rfl ?_
  rfl
end Go.Proofs.YtdkhlgiohpdihaaGreatDoor
namespace Go.Proofs.YtdkhlgiohpdihaaGreatDoor
open Go.Proofs Go.Lib Go.Shelf Go.RowKit
set_option maxRecDepth 20000
variable {E : World}
end Go.Proofs.YtdkhlgiohpdihaaGreatDoor
namespace Go.Proofs.YtdkhlgiohpdihaaGreatDoor
section
variable {E : World} {P : Program} {env : AEnv} {O : OL} {d ty : Nat} {pos : String} {af : Array Edge} {x : Operand} {e : TypeId}
theorem Gv.runesF {src dst : TypeId} {ns : List Int} (hs : P.underlying src = some (.slice e)) (he : P.underlying e = some (.int .i32)) (hd : P.underlying dst = some .string) (hx : aev env x = .fro 1 (ns.map encR)) :
    Gv P env O (Oper.mk (some d) (.convert src dst x) ty pos af none) (.str (runesBytes ns)) := fun I L E ρ h1 _ => by
  have h2 := h1.ev x
  rw [hx] at h2
  obtain ⟨a, n, c, e1, hn, hnc, hnil, hr⟩ := h2
  rw [List.length_map] at hn
  have hconv : ∀ (w : World) (q : Option Addr), (convert src dst (.slice q n c)).run P w = (Conv.runesToString (.slice q n c)).run P w := fun w q => by
    simp [convert, run_underlying hs, run_underlying hd, run_underlying he]
  refine ⟨_, rfl, fun w J L' hl hS _ => ?_⟩
  simp only [execOp, e1]
  rw [Sem.run_bind, hconv]
  cases a with
  | none =>
    have hc := hnil rfl
    have : ns = [] := List.eq_nil_of_length_eq_zero (by omega)
    subst this
    simp [Conv.runesToString, runesBytes]
  | some p =>
    have hload : (loadCells p n).run P w = .ok (ns.map (Value.int .i32)).toArray w := by
      have := run_loadCells_list (P := P) w p (ns.map (Value.int .i32)) (fun j v hj => by
        obtain ⟨hj2, ej⟩ := List.getElem?_eq_some_iff.1 hj
        rw [List.length_map] at hj2
        rw [List.getElem_map] at ej
        obtain ⟨b', off', l, ep, hk, hl2, hat⟩ := hr.get (j := j) (r := encR ns[j]) (by rw [List.getElem?_map, List.getElem?_eq_getElem hj2]; rfl)
        cases ep
        obtain ⟨v', us, rfl, hv, _⟩ := hl2
        have hv : v' = .int .i32 ns[j] := hv
        subst hv
        have := hS.at_ (((hat 0 _ rfl).mono hl).at_ _)
        rw [← ej]
        simpa [addr_add] using this)
      rw [List.length_map, ← hn] at this
      exact this
    rw [run_runesToString w p n c ns hload]; rfl
end
end Go.Proofs.YtdkhlgiohpdihaaGreatDoor
namespace Go.Proofs.YtdkhlgiohpdihaaGreatDoor
open Go.Proofs Go.Lib Go.Shelf Go.RowKit
set_option maxRecDepth 20000
variable {E : World}
theorem wstep_sz {c : Int} (h : okR c) : (wstep c).size ≤ 9 := by
  unfold wstep
  split
  · decide
  · split
    · decide
    · rw [runesBytes_encs (rs := [c]) fun x hx => by rw [List.mem_singleton.1 hx]; exact h, strL_size]
      have := encs_four [c]
      have h1 : [c].length = 1 := rfl
      omega
theorem textReads_spec (s : ByteArray) (hsz : s.size ≤ 9223372036854775807) (hL : Letters E) (hT : Pows E) (hV : Vars0 E) :
    AFun Tryz.prog E 3 [.str s] (.bool true) := by
  refine ACall.intro Tryz.func3 rfl (by decide) rfl ?_
  refine AWP.seq ?_
  refine AWP.region rfl ?_
  refine AOps.val (Gv.assign (v := .bool _) rfl) ?_
  refine AOps.nil ?_
  refine AWP.seq ?_
  refine AWP.seq ?_
  refine AWP.region rfl ?_
  refine AOps.callP (lives4_spec hL hT hV) rfl ?_
  refine AOps.val (Gv.not rfl) ?_
  refine AOps.val (Gv.move (v := .bool _) rfl) ?_
  refine AOps.guardT rfl rfl rfl ?_
  refine AOps.val (Gv.move (v := .str _) rfl) ?_
  refine AOps.guardT rfl rfl rfl ?_
  refine AOps.val (Gv.lenT Tryz.underlying9 rfl) ?_
  refine AOps.guardT rfl rfl rfl ?_
  refine AOps.val (Gv.gtr rfl rfl) ?_
  refine AOps.val (Gv.pickF (v := .bool _) rfl rfl rfl) ?_
  refine AOps.nil ?_
  refine AWP.condP rfl (fun cl => ?_) (fun cl => ?_)
  · skip
    refine AWP.seq ?_
    refine AWP.region rfl ?_
    refine AOps.callP (lives4_spec hL hT hV) rfl ?_
    refine AOps.val (Gv.assign (v := .bool _) rfl) ?_
    refine AOps.nil ?_
    refine AWP.ret ?_
    repeat (first | refine aseqQ_ret ?_ | refine ablockQ_ret ?_)
    refine afin.t1 (x := .bool _) rfl ?_
    rfl
  · skip
    have hs : s.size ≤ 2000 := by omega
    have hz := zparse_spec (E := E) s (by omega) hL hT hV
    rcases reads_ok hs with ⟨e, he, hc⟩ | ⟨f, hf⟩
    · skip
      have hne : e ≠ 0 := by omega
      rw [he] at hz
      dsimp only [Option.getD] at hz
      have z1 : emptyF.vars.length = 0 := rfl
      have z2 : emptyF.blocks.length = 0 := rfl
      have z3 : emptyF.params.length = 0 := rfl
      refine AWP.skip ?_
      refine AWP.seq ?_
      refine AWP.region rfl ?_
      refine AOps.val (Gv.move (v := .str _) rfl) ?_
      refine AOps.callP (hz) rfl ?_
      refine AOps.val (Gv.move (v := .tup _) rfl) ?_
      refine AOps.val (Gv.extract (v := .agg _) rfl rfl) ?_
      refine AOps.val (Gv.extract (v := .int _ _) rfl rfl) ?_
      refine AOps.alloc (cs := [.raw (.slice none 0 0), .raw (.slice none 0 0), .raw (.slice none 0 0)]) Tryz.zeroValue27 rfl rfl ?_
      intro i3
      refine AOps.storeW Tryz.sizeOf27 rfl rfl rfl rfl rfl rfl .head rfl ?_
      refine AOps.val (Gv.assign (v := .int _ _) rfl) ?_
      refine AOps.nil ?_
      refine AWP.seq ?_
      refine AWP.seq ?_
      refine AWP.region rfl ?_
      refine AOps.val (Gv.move (v := .int _ _) rfl) ?_
      refine AOps.val (Gv.neqI rfl rfl) ?_
      refine AOps.nil ?_
      refine AWP.condT rfl (by simpa using hne) ?_
      refine AWP.seq ?_
      refine AWP.region rfl ?_
      refine AOps.val (Gv.fieldO Tryz.underlying27 rfl Tryz.sizeOf23 (by decide) rfl rfl) ?_
      refine AOps.val (Gv.load1C (c := .fro _ _) Tryz.isAgg23 rfl ⟨_, .head⟩ rfl) ?_
      refine AOps.val (Gv.lenM Tryz.underlying23 rfl) ?_
      refine AOps.val (Gv.fieldO Tryz.underlying27 rfl Tryz.sizeOf25 (by decide) rfl rfl) ?_
      refine AOps.val (Gv.load1C (c := .fro _ _) Tryz.isAgg25 rfl ⟨_, .head⟩ rfl) ?_
      refine AOps.val (Gv.lenM Tryz.underlying25 rfl) ?_
      refine AOps.val (Gv.add rfl rfl (by unfold I64; omega)) ?_
      refine AOps.val (Gv.fieldO Tryz.underlying27 rfl Tryz.sizeOf24 (by decide) rfl rfl) ?_
      refine AOps.val (Gv.load1C (c := .fro _ _) Tryz.isAgg24 rfl ⟨_, .head⟩ rfl) ?_
      refine AOps.val (Gv.lenM Tryz.underlying24 rfl) ?_
      refine AOps.val (Gv.add rfl rfl (by unfold I64; omega)) ?_
      refine AOps.val (Gv.eqlI rfl rfl) ?_
      refine AOps.val (Gv.move (v := .bool _) rfl) ?_
      by_cases h2 : e = 2
      · skip
        refine AOps.guardT rfl rfl (by rw [z1, z2, z3]; rfl) ?_
        refine AOps.val (Gv.move (v := .int _ _) rfl) ?_
        refine AOps.guardT rfl rfl (by rw [z1, z2, z3]; rfl) ?_
        refine AOps.val (Gv.eqlI rfl rfl) ?_
        refine AOps.guardT rfl rfl (by rw [z1, z2, z3]; rfl) ?_
        refine AOps.val (Gv.move (v := .bool _) rfl) ?_
        refine AOps.guardFd rfl rfl (by simp [h2]) ?_
        refine AOps.guardFd rfl rfl (by simp [h2]) ?_
        refine AOps.guardT rfl rfl (by rw [z1, z2, z3]; rfl) ?_
        refine AOps.val (Gv.pickT (v := .bool _) rfl (by simp [h2]) rfl) ?_
        refine AOps.guardT rfl rfl (by rw [z1, z2, z3]; rfl) ?_
        refine AOps.val (Gv.move (v := .bool _) rfl) ?_
        refine AOps.guardFd rfl rfl rfl ?_
        refine AOps.guardFd rfl rfl rfl ?_
        refine AOps.guardT rfl rfl (by rw [z1, z2, z3]; rfl) ?_
        refine AOps.val (Gv.pickT (v := .bool _) rfl rfl rfl) ?_
        refine AOps.val (Gv.pickT (v := .bool _) rfl (by rw [z1, z2, z3]; rfl) rfl) ?_
        refine AOps.val (Gv.assign (v := .bool _) rfl) ?_
        refine AOps.nil ?_
        refine AWP.ret ?_
        repeat (first | refine aseqQ_ret ?_ | refine ablockQ_ret ?_)
        refine afin.t1 (x := .bool _) rfl ?_
        rfl
      · skip
        refine AOps.guardT rfl rfl (by rw [z1, z2, z3]; rfl) ?_
        refine AOps.val (Gv.move (v := .int _ _) rfl) ?_
        refine AOps.guardT rfl rfl (by rw [z1, z2, z3]; rfl) ?_
        refine AOps.val (Gv.eqlI rfl rfl) ?_
        refine AOps.guardT rfl rfl (by rw [z1, z2, z3]; rfl) ?_
        refine AOps.val (Gv.move (v := .bool _) rfl) ?_
        by_cases h3 : e = 3
        · skip
          refine AOps.guardT rfl rfl (by simp [h2]) ?_
          refine AOps.val (Gv.move (v := .int _ _) rfl) ?_
          refine AOps.guardT rfl rfl (by simp [h2]) ?_
          refine AOps.val (Gv.eqlI rfl rfl) ?_
          refine AOps.guardT rfl rfl (by rw [z1, z2, z3]; rfl) ?_
          refine AOps.val (Gv.pickF (v := .bool _) rfl (by simp [h2]) rfl) ?_
          refine AOps.guardT rfl rfl (by rw [z1, z2, z3]; rfl) ?_
          refine AOps.val (Gv.move (v := .bool _) rfl) ?_
          refine AOps.guardFd rfl rfl (by simp [h3]) ?_
          refine AOps.guardFd rfl rfl (by simp [h3]) ?_
          refine AOps.guardT rfl rfl (by rw [z1, z2, z3]; rfl) ?_
          refine AOps.val (Gv.pickT (v := .bool _) rfl (by simp [h3]) rfl) ?_
          refine AOps.val (Gv.pickT (v := .bool _) rfl (by rw [z1, z2, z3]; rfl) rfl) ?_
          refine AOps.val (Gv.assign (v := .bool _) rfl) ?_
          refine AOps.nil ?_
          refine AWP.ret ?_
          repeat (first | refine aseqQ_ret ?_ | refine ablockQ_ret ?_)
          refine afin.t1 (x := .bool _) rfl ?_
          rfl
        · skip
          refine AOps.guardT rfl rfl (by simp [h2]) ?_
          refine AOps.val (Gv.move (v := .int _ _) rfl) ?_
          refine AOps.guardT rfl rfl (by simp [h2]) ?_
          refine AOps.val (Gv.eqlI rfl rfl) ?_
          refine AOps.guardT rfl rfl (by rw [z1, z2, z3]; rfl) ?_
          refine AOps.val (Gv.pickF (v := .bool _) rfl (by simp [h2]) rfl) ?_
          refine AOps.guardT rfl rfl (by rw [z1, z2, z3]; rfl) ?_
          refine AOps.val (Gv.move (v := .bool _) rfl) ?_
          refine AOps.guardT rfl rfl (by simp [h3]) ?_
          refine AOps.val (Gv.move (v := .int _ _) rfl) ?_
          refine AOps.guardT rfl rfl (by simp [h3]) ?_
          refine AOps.val (Gv.eqlI rfl rfl) ?_
          refine AOps.guardT rfl rfl (by rw [z1, z2, z3]; rfl) ?_
          refine AOps.val (Gv.pickF (v := .bool _) rfl (by simp [h3]) rfl) ?_
          refine AOps.val (Gv.pickT (v := .bool _) rfl (by rw [z1, z2, z3]; rfl) rfl) ?_
          refine AOps.val (Gv.assign (v := .bool _) rfl) ?_
          refine AOps.nil ?_
          refine AWP.ret ?_
          repeat (first | refine aseqQ_ret ?_ | refine ablockQ_ret ?_)
          refine afin.t1 (x := .bool _) rfl ?_
          exact jb (decide_eq_true (by omega))
    · skip
      obtain ⟨ho1, ho2⟩ := read_okF hf.shaped hf.tok
      obtain ⟨rs, hrs, hok, hwide⟩ := hf.wide
      have hr0 : runesFrom s 0 = rs := runes_encs hok (Nat.zero_le _) (by rw [hrs, strL_list]; rfl)
      rw [hf.parse] at hz
      dsimp only [Option.getD] at hz
      refine AWP.skip ?_
      refine AWP.seq ?_
      refine AWP.region rfl ?_
      refine AOps.val (Gv.move (v := .str _) rfl) ?_
      refine AOps.callP (hz) rfl ?_
      refine AOps.val (Gv.move (v := .tup _) rfl) ?_
      refine AOps.val (Gv.extract (v := .agg _) rfl rfl) ?_
      refine AOps.val (Gv.extract (v := .int _ _) rfl rfl) ?_
      refine AOps.alloc (cs := [.raw (.slice none 0 0), .raw (.slice none 0 0), .raw (.slice none 0 0)]) Tryz.zeroValue27 rfl rfl ?_
      intro i3
      refine AOps.storeW Tryz.sizeOf27 rfl rfl rfl rfl rfl rfl .head rfl ?_
      refine AOps.val (Gv.assign (v := .int _ _) rfl) ?_
      refine AOps.nil ?_
      refine AWP.seq ?_
      refine AWP.seq ?_
      refine AWP.region rfl ?_
      refine AOps.val (Gv.move (v := .int _ _) rfl) ?_
      refine AOps.val (Gv.neqI rfl rfl) ?_
      refine AOps.nil ?_
      refine AWP.condF rfl rfl ?_
      refine AWP.skip ?_
      refine AWP.seq ?_
      refine AWP.seq ?_
      refine AWP.region rfl ?_
      refine AOps.val (Gv.loadWC Tryz.isAgg27 Tryz.sizeOf27 rfl ⟨_, .head⟩ rfl) ?_
      refine AOps.callP (lawShaped_spec f ho1 ho2 hL) rfl ?_
      refine AOps.val (Gv.not rfl) ?_
      refine AOps.nil ?_
      refine AWP.condF rfl (by simp [hf.shaped]) ?_
      refine AWP.skip ?_
      refine AWP.seq ?_
      refine AWP.region rfl ?_
      refine AOps.val (Gv.loadWC Tryz.isAgg27 Tryz.sizeOf27 rfl ⟨_, .head⟩ rfl) ?_
      refine AOps.callA rfl (Part.perm (.r (.rest _))) (refText_own f hf.shaped hf.tok hf.nums) ?_
      rintro r56 O56 ⟨_, rfl, rfl, hsz2⟩
      have hz2 := zparse_spec (E := E) (textF f) (by omega) hL hT hV
      rw [parse_text hf.shaped hf.nums, if_neg hf.size] at hz2
      dsimp only [Option.getD] at hz2
      refine AOps.callP (hz2) rfl ?_
      refine AOps.val (Gv.move (v := .tup _) rfl) ?_
      refine AOps.val (Gv.extract (v := .agg _) rfl rfl) ?_
      refine AOps.val (Gv.extract (v := .int _ _) rfl rfl) ?_
      refine AOps.alloc (cs := [.raw (.slice none 0 0), .raw (.slice none 0 0), .raw (.slice none 0 0)]) Tryz.zeroValue27 rfl rfl ?_
      intro i5
      refine AOps.storeW Tryz.sizeOf27 rfl rfl rfl rfl rfl rfl .head rfl ?_
      refine AOps.val (Gv.assign (v := .int _ _) rfl) ?_
      refine AOps.nil ?_
      refine AWP.seq ?_
      refine AWP.seq ?_
      refine AWP.region rfl ?_
      refine AOps.val (Gv.move (v := .int _ _) rfl) ?_
      refine AOps.val (Gv.neqI rfl rfl) ?_
      refine AOps.val (Gv.move (v := .bool _) rfl) ?_
      refine AOps.guardT rfl rfl rfl ?_
      refine AOps.val (Gv.loadWC Tryz.isAgg27 Tryz.sizeOf27 rfl ⟨_, (.tail .head)⟩ rfl) ?_
      refine AOps.guardT rfl rfl rfl ?_
      refine AOps.val (Gv.loadWC Tryz.isAgg27 Tryz.sizeOf27 rfl ⟨_, .head⟩ rfl) ?_
      refine AOps.guardT rfl rfl rfl ?_
      refine AOps.callP (refSame_spec f f ho1) rfl ?_
      refine AOps.guardT rfl rfl rfl ?_
      refine AOps.val (Gv.not rfl) ?_
      refine AOps.val (Gv.pickF (v := .bool _) rfl rfl rfl) ?_
      refine AOps.nil ?_
      refine AWP.condF rfl (by simp) ?_
      have hlen := runesFrom_len s s.size 0 (Nat.le_refl _)
      refine AWP.skip ?_
      refine AWP.seq ?_
      refine AWP.region rfl ?_
      refine AOps.val (Gv.assign (v := .str _) rfl) ?_
      refine AOps.nil ?_
      refine AWP.seq ?_
      refine AWP.seq ?_
      refine AWP.region rfl ?_
      refine AOps.val (Gv.move (v := .str _) rfl) ?_
      refine AOps.rangeT Tryz.underlying9 rfl ?_
      intro i69
      refine AOps.nil ?_
      refine AWP.block ?_
      refine AWP.loop (γ := Nat × ByteArray) [3, 69] (fun g => [(7, .str g.2)]) (fun g => [(i69, .iter s g.1), (i5, .cells 27 (encF f)), (i3, .cells 27 (encF f))]) (fun g => wideB (runesFrom s g.1) g.2 = wideB (runesFrom s 0) ⟨#[]⟩ ∧ g.2.size + 9 * (runesFrom s g.1).length ≤ 18000 ∧ okL1 (runesFrom s g.1)) (fun g => s.size - g.1) (0, ⟨#[]⟩) ⟨rfl, trivial⟩ ⟨_, (.refl _), rfl⟩ (⟨rfl, by dsimp only; have h0 : (⟨#[]⟩ : ByteArray).size = 0 := rfl; omega, by dsimp only; rw [hr0]; exact hok⟩) ?_
      rintro ⟨p, w⟩ ⟨hp, hc1, hc2⟩
      try dsimp only at *
      by_cases hlt : p < s.size
      · skip
        have hd := (decode_ok s p).1
        rw [runesFrom_lt hlt] at hp hc1 hc2
        rw [List.length_cons] at hc1
        have hws := wstep_sz (hc2 _ (.head _))
        have hcs : ∀ x : ByteArray, x.size ≤ 9 → (w ++ x).size ≤ 18000 := fun x hx => by rw [ByteArray.size_append]; omega
        refine AWP.seq ?_
        refine AWP.region rfl ?_
        refine AOps.nextT rfl .head hlt ?_
        refine AOps.val (Gv.extract (v := .bool _) rfl rfl) ?_
        refine AOps.nil ?_
        refine AWP.seq ?_
        refine AWP.condT rfl rfl ?_
        have hp2 : wideB (runesFrom s (p + (Utf8.decode s p).2)) (w ++ wstep ((Utf8.decode s p).1 : Int)) = wideB (runesFrom s 0) ⟨#[]⟩ := hp
        obtain ⟨c, hcc⟩ : ∃ c : Int, ((Utf8.decode s p).1 : Int) = c := ⟨_, rfl⟩
        rw [hcc] at hp2 hws
        refine AWP.skip ?_
        refine AWP.block ?_
        refine AWP.seq ?_
        refine AWP.region rfl ?_
        refine AOps.val (Gv.extract (v := .int _ _) rfl rfl) ?_
        refine AOps.val (Gv.assign (v := .int _ _) rfl) ?_
        refine AOps.nil ?_
        refine AWP.seq ?_
        refine AWP.region rfl ?_
        refine AOps.val (Gv.move (v := .int _ _) rfl) ?_
        refine AOps.nil ?_
        refine AWP.block ?_
        refine AWP.seq ?_
        refine AWP.region rfl ?_
        refine AOps.val (Gv.eqlI rfl rfl) ?_
        refine AOps.val (Gv.assign (v := .bool _) rfl) ?_
        refine AOps.nil ?_
        refine AWP.condP rfl (fun c1 => ?_) (fun c1 => ?_)
        · skip
          have hw : wstep c = ⟨#[32, 32, 32]⟩ := by unfold wstep; rw [if_pos (by rw [← hcc]; exact c1)]
          rw [hw] at hp2
          refine AWP.region rfl ?_
          refine AOps.val (Gv.move (v := .str _) rfl) ?_
          refine AOps.val (Gv.addT rfl rfl (by (try simp only [app_size]); (try simp only [lit_size, List.size_toArray, List.length_cons, List.length_nil]); omega)) ?_
          refine AOps.val (Gv.assign (v := .str _) rfl) ?_
          refine AOps.nil ?_
          exact ⟨(p + (Utf8.decode s p).2, w ++ ⟨#[32, 32, 32]⟩), ⟨rfl, rfl, trivial⟩, ⟨rfl, trivial⟩, ⟨_, (.refl _), rfl⟩, ⟨hp2, by dsimp only; rw [app_size]; have : (⟨#[32, 32, 32]⟩ : ByteArray).size = 3 := rfl; omega, hc2.cons_r⟩, by dsimp only; omega⟩
        · skip
          refine AWP.seq ?_
          refine AWP.region rfl ?_
          refine AOps.val (Gv.eqlI rfl rfl) ?_
          refine AOps.val (Gv.assign (v := .bool _) rfl) ?_
          refine AOps.nil ?_
          refine AWP.condP rfl (fun c2 => ?_) (fun c2 => ?_)
          · skip
            have hw : wstep c = ⟨#[32, 35, 32, 109, 111, 114, 101, 10, 10]⟩ := by unfold wstep; rw [if_neg (by rw [← hcc]; exact c1), if_pos (by rw [← hcc]; exact c2)]
            rw [hw] at hp2
            refine AWP.region rfl ?_
            refine AOps.val (Gv.move (v := .str _) rfl) ?_
            refine AOps.val (Gv.addT rfl rfl (by (try simp only [app_size]); (try simp only [lit_size, List.size_toArray, List.length_cons, List.length_nil]); omega)) ?_
            refine AOps.val (Gv.assign (v := .str _) rfl) ?_
            refine AOps.nil ?_
            exact ⟨(p + (Utf8.decode s p).2, w ++ ⟨#[32, 35, 32, 109, 111, 114, 101, 10, 10]⟩), ⟨rfl, rfl, trivial⟩, ⟨rfl, trivial⟩, ⟨_, (.refl _), rfl⟩, ⟨hp2, by dsimp only; rw [app_size]; have : (⟨#[32, 35, 32, 109, 111, 114, 101, 10, 10]⟩ : ByteArray).size = 9 := rfl; omega, hc2.cons_r⟩, by dsimp only; omega⟩
          · skip
            have hw : wstep c = runesBytes [c] := by unfold wstep; rw [if_neg (by rw [← hcc]; exact c1), if_neg (by rw [← hcc]; exact c2)]
            rw [hw] at hp2 hws
            rw [← hcc] at hp2 hws
            refine AWP.region rfl ?_
            refine AOps.val (Gv.move (v := .str _) rfl) ?_
            refine AOps.val (Gv.move (v := .int _ _) rfl) ?_
            refine AOps.buildSliceFF (rows := [[_]]) ps34_1 rfl rfl rfl rfl rfl ?_
            refine AOps.val (Gv.runesF (ns := [((Utf8.decode s p).1 : Int)]) Tryz.underlying34 Tryz.underlying21 Tryz.underlying9 rfl) ?_
            refine AOps.val (Gv.addT rfl rfl (by (try simp only [app_size]); (try simp only [lit_size, List.size_toArray, List.length_cons, List.length_nil]); omega)) ?_
            refine AOps.val (Gv.assign (v := .str _) rfl) ?_
            refine AOps.nil ?_
            exact ⟨(p + (Utf8.decode s p).2, w ++ runesBytes [((Utf8.decode s p).1 : Int)]), ⟨Eq.refl (AV.po i3 0), Eq.refl (AV.po i69 0), trivial⟩, ⟨congrArg AV.str rfl, trivial⟩, ⟨_, (.refl _), rfl⟩, ⟨hp2, by dsimp only; rw [app_size]; omega, hc2.cons_r⟩, by dsimp only; omega⟩
      · skip
        refine AWP.seq ?_
        refine AWP.region rfl ?_
        refine AOps.nextTover rfl .head hlt ?_
        refine AOps.val (Gv.extract (v := .bool _) rfl rfl) ?_
        refine AOps.nil ?_
        refine AWP.seq ?_
        refine AWP.condF rfl rfl ?_
        rw [runesFrom_ge hlt] at hp hc1
        have hwt : w = strL (encs (wideR rs)) := by
          have h0 : w = wideB (runesFrom s 0) ⟨#[]⟩ := hp
          rw [h0, hr0, wideB_eq hok]; exact ByteArray.empty_append
        have hz3 := zparse_spec (E := E) (w ++ ⟨#[32, 35]⟩) (by rw [app_size]; have : (⟨#[32, 35]⟩ : ByteArray).size = 2 := rfl; omega) hL hT hV
        obtain ⟨q, hq⟩ : ∃ q, parseC (w ++ ⟨#[32, 35]⟩) = q := ⟨_, rfl⟩
        rw [hq] at hz3
        have hq2 : decide ((16382 : Int) < w.size) = false → q = (0, some f) := fun h => by
          have h := of_decide_eq_false h
          rw [← hq, hwt]; exact hwide (by rw [← strL_size, ← hwt]; omega)
        have hq3 : decide ((16382 : Int) < w.size) = false → decide (q.1 = 0) = true := fun h => by rw [hq2 h]; rfl
        have hq4 : decide ((16382 : Int) < w.size) = false → decide (f = q.2.getD emptyF) = true := fun h => by rw [hq2 h]; exact decide_eq_true rfl
        refine AWP.exit ?_
        refine AWP.seq ?_
        refine AWP.region rfl ?_
        refine AOps.val (Gv.move (v := .str _) rfl) ?_
        refine AOps.val (Gv.addT rfl rfl (by (try simp only [app_size]); (try simp only [lit_size, List.size_toArray, List.length_cons, List.length_nil]); omega)) ?_
        refine AOps.callP (hz3) rfl ?_
        refine AOps.val (Gv.move (v := .tup _) rfl) ?_
        refine AOps.val (Gv.extract (v := .agg _) rfl rfl) ?_
        refine AOps.val (Gv.extract (v := .int _ _) rfl rfl) ?_
        refine AOps.alloc (cs := [.raw (.slice none 0 0), .raw (.slice none 0 0), .raw (.slice none 0 0)]) Tryz.zeroValue27 rfl rfl ?_
        intro i10
        refine AOps.storeW Tryz.sizeOf27 rfl rfl rfl rfl rfl rfl .head rfl ?_
        refine AOps.val (Gv.assign (v := .int _ _) rfl) ?_
        refine AOps.nil ?_
        refine AWP.seq ?_
        refine AWP.region rfl ?_
        refine AOps.val (Gv.move (v := .str _) rfl) ?_
        refine AOps.val (Gv.lenT Tryz.underlying9 rfl) ?_
        refine AOps.val (Gv.gtr rfl rfl) ?_
        refine AOps.val (Gv.move (v := .bool _) rfl) ?_
        refine AOps.case (s := 96) rfl (fun c1 => ?_) (fun c1 => ?_)
        · skip
          refine AOps.guardFd rfl rfl c1 ?_
          refine AOps.guardFd rfl rfl c1 ?_
          refine AOps.guardFd rfl rfl c1 ?_
          refine AOps.guardUd rfl rfl ?_
          refine AOps.guardUd rfl rfl ?_
          refine AOps.guardUd rfl rfl ?_
          refine AOps.guardFd rfl rfl c1 ?_
          refine AOps.val (Gv.pickT (v := .bool _) rfl c1 rfl) ?_
          refine AOps.val (Gv.assign (v := .bool _) rfl) ?_
          refine AOps.nil ?_
          refine AWP.ret ?_
          repeat (first | refine aseqQ_ret ?_ | refine ablockQ_ret ?_)
          refine afin.t1 (x := .bool _) rfl ?_
          exact jb (by first | assumption | exact (rfl : true = true) | exact hq4 (by assumption) | (have h := hq3 (by assumption); simp_all; done))
        · skip
          refine AOps.guardT rfl rfl c1 ?_
          refine AOps.val (Gv.move (v := .int _ _) rfl) ?_
          refine AOps.guardT rfl rfl c1 ?_
          refine AOps.val (Gv.eqlI rfl rfl) ?_
          refine AOps.guardT rfl rfl c1 ?_
          refine AOps.val (Gv.move (v := .bool _) rfl) ?_
          refine AOps.case (s := 99) rfl (fun c2 => ?_) (fun c2 => ?_)
          · skip
            refine AOps.guardT rfl rfl c2 ?_
            refine AOps.val (Gv.loadWC Tryz.isAgg27 Tryz.sizeOf27 rfl ⟨_, (.tail (.tail (.tail .head)))⟩ rfl) ?_
            refine AOps.guardT rfl rfl c2 ?_
            refine AOps.val (Gv.loadWC Tryz.isAgg27 Tryz.sizeOf27 rfl ⟨_, .head⟩ rfl) ?_
            refine AOps.guardT rfl rfl c2 ?_
            refine AOps.callP (refSame_spec f (q.2.getD emptyF) ho1) rfl ?_
            refine AOps.guardT rfl rfl c1 ?_
            refine AOps.val (Gv.pickT (v := .bool _) rfl c2 rfl) ?_
            refine AOps.val (Gv.pickF (v := .bool _) rfl c1 rfl) ?_
            refine AOps.val (Gv.assign (v := .bool _) rfl) ?_
            refine AOps.nil ?_
            refine AWP.ret ?_
            repeat (first | refine aseqQ_ret ?_ | refine ablockQ_ret ?_)
            refine afin.t1 (x := .bool _) rfl ?_
            exact jb (by first | assumption | exact (rfl : true = true) | exact hq4 (by assumption) | (have h := hq3 (by assumption); simp_all; done))
          · skip
            refine AOps.guardFd rfl rfl c2 ?_
            refine AOps.guardFd rfl rfl c2 ?_
            refine AOps.guardFd rfl rfl c2 ?_
            refine AOps.guardT rfl rfl c1 ?_
            refine AOps.val (Gv.pickF (v := .bool _) rfl c2 rfl) ?_
            refine AOps.val (Gv.pickF (v := .bool _) rfl c1 rfl) ?_
            refine AOps.val (Gv.assign (v := .bool _) rfl) ?_
            refine AOps.nil ?_
            refine AWP.ret ?_
            repeat (first | refine aseqQ_ret ?_ | refine ablockQ_ret ?_)
            refine afin.t1 (x := .bool _) rfl ?_
            exact jb (by first | assumption | exact (rfl : true = true) | exact hq4 (by assumption) | (have h := hq3 (by assumption); simp_all; done))
end Go.Proofs.YtdkhlgiohpdihaaGreatDoor
namespace Go.Proofs.YtdkhlgiohpdihaaGreatDoor
open Go.Proofs Go.Lib Go.Shelf Go.RowKit Go.WideShapes
set_option maxRecDepth 20000
variable {W : World}
theorem len_of (h : W.ShapedOpen Tryz.prog) : ∃ m, W.cell? ⟨5, 0, none⟩ = some (.int .i64 m) :=
  cell_of_shapedOpen_int (P := Tryz.prog) (g := 5) (t := 3) (zero := #[.int .i64 0]) h (of_decide_eq_true (by kernel_rfl)) (by kernel_rfl) rfl (by kernel_rfl) (by kernel_rfl) Tryz.underlying3
theorem star_text : "*" ++ "errors.errorString" = "*errors.errorString" := by decide
theorem star_row (u : TypeId) (h : Tryz.prog.typeName? 3 u = some "*errors.errorString") : u = 238 :=
  typeName_ptr_named (nm := "errors.errorString") (by rw [star_text]; kernel_rfl) (by kernel_rfl) (by decide) u (by rw [star_text]; exact h)
theorem syn_of {text : List UInt8} {r : List (String × DataW Unit)} (h : laidMet Tryz.prog (("strconv.ErrSyntax", .iface "*errors.errorString" (.ptr (.agg [.lit (.string text)]))) :: r) W) : ∃ t p, W.cell? ⟨8, 0, none⟩ = some (.iface t p) := by
  obtain ⟨a1, t1, hv1, _⟩ := laid_sentinel (g := 8) h (by kernel_rfl) (by kernel_rfl) Tryz.underlying79 star_row Tryz.underlying238 Tryz.underlying240 rfl rfl Tryz.underlying9 (by kernel_rfl) (by kernel_rfl)
  exact ⟨_, _, World.var?_cell (g := 8) (by kernel_rfl) hv1 0⟩
theorem ran_of {text : List UInt8} {r : List (String × DataW Unit)} (h : laidMet Tryz.prog (("strconv.ErrRange", .iface "*errors.errorString" (.ptr (.agg [.lit (.string text)]))) :: r) W) : ∃ t p, W.cell? ⟨9, 0, none⟩ = some (.iface t p) := by
  obtain ⟨a1, t1, hv1, _⟩ := laid_sentinel (g := 9) h (by kernel_rfl) (by kernel_rfl) Tryz.underlying79 star_row Tryz.underlying238 Tryz.underlying240 rfl rfl Tryz.underlying9 (by kernel_rfl) (by kernel_rfl)
  exact ⟨_, _, World.var?_cell (g := 9) (by kernel_rfl) hv1 0⟩
theorem tabs_of (h1 : Lib.VarReads Tryz.prog W "unicode/utf8.first" Lib.firstData) (h2 : Lib.VarReads Tryz.prog W "unicode/utf8.acceptRanges" Lib.acceptData) : Lib.Utf8Tabs 0 1 W :=
  utf8Tabs_of_reads (ρ := Tryz.lays260_ren) { Tryz.lays260 with } ⟨by kernel_rfl, by kernel_rfl, by kernel_rfl, by kernel_rfl, by kernel_rfl, by kernel_rfl, by kernel_rfl⟩ h1 h2
theorem wrap_of {H : Type} {enc : TypeId × Value → H} {os : Os} {f : FuncId} {fn : Func} {s : ChangeSpec} {X : World → Array Value → Prop}
    (hX : ∀ (w w' : World) (args : Array Value), w.heap = w'.heap → X w args → X w' args)
    (own : ownKnob Tryz.prog.godebug = none) (started : os.Started) (noInit : Tryz.prog.inits.idxOf? f = none) (hfn : Tryz.prog.funcs[f]? = some fn)
    (witness : ∃ (w : World) (tape : Tape) (i : Input), w.os = os ∧ (w.forCall tape i).Shaped Tryz.checked.prog ∧ i.vars = [] ∧ Input.okWide Tryz.checked.prog (w.forCall tape i) .any w.heap.size f i ∧
      ((s.pre enc Tryz.checked.prog fn [] false (w.forCall tape i).memory i.args ∧ X (w.forCall tape i).memory i.args) ∧ sizedMet enc Tryz.checked.prog fn (OpenSpec.ofChange s) false (w.forCall tape i).memory i.args) ∧ ({} : Assume).holds Tryz.checked.prog (lone (Frame.enter Tryz.checked.prog f i.args .normal) [] (w.forCall tape i)))
    (contract : ∀ (W : World) (base : Nat) (args : Array Value) (ds gs : List (DataW H)) (before : List MemPlace),
      (∀ (j : Nat) t v, fn.params[j]? = some t → args[j]? = some v → Value.okWide Tryz.prog W .any base t v) →
      DataW.Whole enc Tryz.prog fn.params.toList s.vars false W args.toList ds gs before → X W args → W.ShapedOpen Tryz.prog →
      Calls Tryz.prog f args W fun e W' => ∃ v, e = .returned v ∧ s.post enc Tryz.prog fn false true false false W args v W') :
    ReturnsInHanded {} Tryz.checked os f .any (fun w args => (s.pre enc Tryz.prog fn [] false w args ∧ X w args) ∧ sizedMet enc Tryz.prog fn (OpenSpec.ofChange s) false w args) (s.post enc Tryz.prog fn false true false false) := by
  refine returnsInHanded_of_calls own started noInit witness fun w tape i _ hsh _ hok hpre _ => ?_
  obtain ⟨_, _, _, fn', hfn', _, _, _, _, hval⟩ := hok
  have e : fn' = fn := Option.some.inj (hfn'.symm.trans hfn)
  rw [e] at hval
  obtain ⟨⟨⟨ds, gs, before, hw, _⟩, hx⟩, _⟩ := hpre
  exact (contract _ _ i.args ds gs before hval (DataW.Whole.of_heap (w' := w.forCall tape i) (by rfl) hw) (hX _ _ _ (by rfl) hx) hsh).mono fun e W' ⟨v, he, hp⟩ => by rw [he]; exact ChangeSpec.post_blind hp
end Go.Proofs.YtdkhlgiohpdihaaGreatDoor
