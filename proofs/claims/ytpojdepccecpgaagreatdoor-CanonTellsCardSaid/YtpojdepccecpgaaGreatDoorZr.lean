/- The table of powers of ten, out of what a call is handed. No conditions. -/
import Derived.Test.YtpojdepccecpgaaGreatDoorZq
import Derived.Test.YtpojdepccecpgaaGreatDoorZh
import Derived.Test.YtpojdepccecpgaaGreatDoorZd
import Derived.Test.YtpojdepccecpgaaGreatDoorZj
import Derived.Lib.LaidRTab
import Derived.Test.YtpojdepccecpgaaGreatDoorRows
import Derived.Test.YtpojdepccecpgaaGreatDoorChecked
import Derived.ProofKit
import Derived.JoinedOf
import Derived.Test.YtpojdepccecpgaaGreatDoorZf
set_option linter.unusedVariables false
set_option linter.unusedSimpArgs false
set_option linter.unusedSectionVars false
namespace Go.Proofs.YtpojdepccecpgaaGreatDoor
open Go.Proofs.Tryz
open Go.Proofs Go.Lib Go.Shelf Go.RowKit
variable {E : World}
set_option maxRecDepth 20000
theorem ctext_bad (f : PFunc) (hf : small f) (hL : Letters E) (h : (typedB f && joinedB f) = false) : AFun prog E 10 [.agg (encF f)] (.tup [.str ⟨#[]⟩, .int .i64 3]) := by
 refine zl func10 Z (by decide) Z<|zSr<|y4 (cs := _) Z Z Z<|z7 (zq (v := .str _) Z)<|zVzAi Z<|z6<|zSr<|zVGvloadWF jk jg Z Z<|ze (canon_bad f hf hL h) Z<|z7 (zMu Z)<|z7 (yr (v := .agg _) Z Z)<|z7 (zXi Z Z)<|zo (cs := [.raw (.slice none 0 0), .raw (.slice none 0 0), .raw (.slice none 0 0)]) Z6 Z Z<|fun i4 => zm jg Z Z Z Z Z Z .head Z<|yh (y8 (t := 4) Z .head)<|zVzAi Z<|z6<|zb<|zSr<|zVzMi Z<|zVGvneqI Z Z<|z6<|ym Z Z<|zSr<|zVzMi Z<|z7 (zq (v := .str _) Z)<|zVzAi Z<|z6<|zh<|afin.t2 (x := .str _) (y := .int _ _) Z Z ?_
 rfl
theorem canonTells_law (f : PFunc) (hw : wFunc f) (hN : NumsOk f) (hL : Letters E) (hPw : Pows E) : AFun prog E 3 [.agg (encF f)] (.bool true) := by
 refine zl func3 Z (by decide) Z<|zSr<|y4 (cs := _) Z Z Z<|zVzAb Z<|z6<|zb<|zSr<|ze (lives18_spec hL hPw) Z<|zVGvnot Z<|zVzMb Z ?_
 by_cases c1 : fewB f = true
 ·have hf := ((fewB_iff f).1 c1).small
  refine za Z Z Z<|zVGvloadWF jk jg Z Z<|za Z Z Z<|ze (fewT_spec f hw) Z<|za Z Z Z<|zVGvnot Z<|zVzPf Z Z Z<|z6<|yf Z (by rw [c1]; rfl) ?_
  by_cases c2 : lawJoin f = true
  ·obtain ⟨_, tf, jf⟩ := lawJoin_small c2
   have hc := can_typed tf jf
   have hcs := can_small tf jf hf
   refine zf<|zSr<|zVGvloadWF jk jg Z Z<|ze (canon_good f hf hL hPw tf jf) Z<|z7 (zMu Z)<|z7 (yr (v := .agg _) Z Z)<|z7 (zXi Z Z)<|zo (cs := [.raw (.slice none 0 0), .raw (.slice none 0 0), .raw (.slice none 0 0)]) Z6 Z Z<|fun i3 => zm jg Z Z Z Z Z Z .head Z<|yh (y8 (t := 3) Z .head)<|zVzAi Z<|z6<|zSr<|zVGvloadWF jk jg Z Z<|ze (ctext_good f hf hN hL hPw tf jf) Z<|z7 (zMu Z)<|z7 (yr (v := .str _) Z Z)<|z7 (zXi Z Z)<|z7 (zq (v := .str _) Z)<|zVzAi Z<|z6<|zb<|zSr<|zVGvloadWF jk jg Z Z<|ze (lawJoined_spec f hw hL) Z<|zVGvnot Z<|z6<|yf Z (by rw [c2]; rfl)<|zf<|zSr<|zVGvloadWF jk jg Z Z<|ze (canon18_spec f hf tf jf) Z<|zo (cs := [.raw (.slice none 0 0), .raw (.slice none 0 0), .raw (.slice none 0 0)]) Z6 Z Z<|fun i7 => zm jg Z Z Z Z Z Z .head Z<|yh (y8 (t := 7) Z .head)<|z6<|zSr<|zVGvloadWF jk jg Z Z<|yl Z (zy (.rest _)) (refText_own (canD f) (typedS hc.1) (can_tok hf tf jf) (can_nums tf hN)) ?_
   rintro r49 O49 ⟨_, rfl, rfl, hsz⟩
   refine z7 (zq (v := .str _) Z)<|z6<|zb<|zSr<|z7 (y3 (v := .str _) Z)<|z7 (Gv.lenT jx Z)<|z7 (yv Z Z)<|z6<|zn Z (fun cb=>?_) (fun cb=>?_)
   ·have hbig : 16384 < (textF (canD f)).size := by omega
    have e1 : capE (textF (canD f)) = 4 := by unfold capE; rw [if_pos hbig]
    have e2 : capT (textF (canD f)) = ⟨#[]⟩ := by unfold capT; rw [if_pos hbig]
    refine zSr<|zVzMi Z<|zVGveqlI Z Z<|zVzMb Z<|za Z Z Z<|zVGvloadWF jk jg Z Z<|za Z Z Z<|zVGvloadWF jk jg Z Z<|za Z Z Z<|ze (refSame_spec (canD f) (canD f) hcs.ok) Z<|zVzPt Z Z Z<|zVzMb Z<|za Z Z (by simp)<|zVzMi Z<|za Z Z (by simp)<|zVGveqlI Z Z<|z7 (zPt Z (by simp) Z)<|zVzMb Z<|za Z Z (by simp [e1])<|z7 (y3 (v := .str _) Z)<|za Z Z (by simp [e1])<|z7 (Gv.eqlT Z Z)<|z7 (zPt Z (by simp [e1]) Z)<|zVzAb Z<|z6<|zh<|zj (x := .bool _) Z ?_
    exact jb (by rw [e2]; rfl)
   ·have hno : ¬ 16384 < (textF (canD f)).size := by omega
    have e1 : capE (textF (canD f)) = 0 := by unfold capE; rw [if_neg hno]
    have e2 : capT (textF (canD f)) = textF (canD f) := by unfold capT; rw [if_neg hno]
    refine zf<|zSr<|zVzMi Z<|zVGveqlI Z Z<|zVzMb Z<|za Z Z Z<|zVGvloadWF jk jg Z Z<|za Z Z Z<|zVGvloadWF jk jg Z Z<|za Z Z Z<|ze (refSame_spec (canD f) (canD f) hcs.ok) Z<|zVzPt Z Z Z<|zVzMb Z<|za Z Z (by simp)<|zVzMi Z<|za Z Z (by simp)<|zVGveqlI Z Z<|z7 (zPt Z (by simp) Z)<|zVzMb Z<|za Z Z (by simp [e1])<|z7 (y3 (v := .str _) Z)<|za Z Z (by simp [e1])<|z7 (y3 (v := .str _) Z)<|za Z Z (by simp [e1])<|z7 (Gv.eqlT Z Z)<|z7 (zPt Z (by simp [e1]) Z)<|zVzAb Z<|z6<|zh<|zj (x := .bool _) Z ?_
    exact jb (by simp [e2])
  ·have hb : (typedB f && joinedB f) = false := by
    cases h : typedB f && joinedB f with
    | false => rfl
    | true =>
     exfalso
     apply c2
     unfold lawJoin
     simp only [qn] at h
     rw [c1, h.1, h.2]; rfl
   refine zf<|zSr<|zVGvloadWF jk jg Z Z<|ze (canon_bad f hf hL hb) Z<|z7 (zMu Z)<|z7 (yr (v := .agg _) Z Z)<|yh (GStep.slot (t := 20) (y := .agg [.fro 2 (([] : List PVar).map encVar), .fro 1 (([] : List Int).map encI), .fro 7 (([] : List PBlock).map encBlk)]) Z (Imp.agg (.cons (.nil 2) (.cons (.nil 1) (.cons (.nil 7) .nil)))))<|z7 (zXi Z Z)<|zo (cs := [.raw (.slice none 0 0), .raw (.slice none 0 0), .raw (.slice none 0 0)]) Z6 Z Z<|fun i3 => zm jg Z Z Z Z Z Z .head Z<|yh (y8 (t := 3) Z .head)<|zVzAi Z<|z6<|zSr<|zVGvloadWF jk jg Z Z<|ze (ctext_bad f hf hL hb) Z<|z7 (zMu Z)<|z7 (yr (v := .str _) Z Z)<|z7 (zXi Z Z)<|z7 (zq (v := .str _) Z)<|zVzAi Z<|z6<|zb<|zSr<|zVGvloadWF jk jg Z Z<|ze (lawJoined_spec f hw hL) Z<|zVGvnot Z<|z6<|ym Z (by rw [Bool.eq_false_iff.2 c2]; rfl)<|zSr<|zVzMi Z<|zVGveqlI Z Z<|zVzMb Z<|za Z Z Z<|zVzMi Z<|za Z Z Z<|zVGveqlI Z Z<|zVzPt Z Z Z<|zVzMb Z<|za Z Z Z ?_
   refine zVzFF j6 Z jo Z Z<|za Z Z Z<|zVzLf jw Z<|za Z Z Z<|zVGvlenM je Z<|za Z Z Z<|zVGveqlI Z Z<|zVzPt Z Z Z<|zVzMb Z<|za Z Z Z<|z7 (y3 (v := .str _) Z)<|za Z Z Z<|z7 (Gv.eqlT Z Z)<|zVzPt Z Z Z<|zVzAb Z<|z6<|zh<|zj (x := .bool _) Z ?_
   rfl
 ·refine za Z Z Z<|zVGvloadWF jk jg Z Z<|za Z Z Z<|ze (fewT_spec f hw) Z<|za Z Z Z<|zVGvnot Z<|zVzPf Z Z Z<|z6<|ym Z (by rw [Bool.eq_false_iff.2 c1]; rfl)<|zSr<|ze (lives18_spec hL hPw) Z<|zVzAb Z<|z6<|zh<|zj (x := .bool _) Z ?_
  rfl
end Go.Proofs.YtpojdepccecpgaaGreatDoor
namespace Go.Proofs.YtpojdepccecpgaaGreatDoor
open Go.Proofs.Tryz
open Go.Proofs Go.Lib Go.Shelf Go.RowKit Go.WideShapes
set_option maxRecDepth 20000
variable {W : World}
theorem decI : Dec prog W 3 encI (fun x => (Lit.int .i64 x).wf = true) := Dec.int Z8
theorem decIs : Dec prog W 23 (fun l : List Int => [.fro 1 (l.map encI)]) wL := fun en held fuel cs x h => by
 obtain ⟨l, hl, r⟩ := Dec.slice (k := 1) j4 decI (by kernel_rfl) (by decide) en held fuel cs x h
 exact ⟨l, hl.2, r⟩
theorem decVar : Dec prog W 58 encVar (fun _ => True) := fun en held fuel cs x h => by
 obtain ⟨xs, n, _, _, hl, hxl, hf⟩ := DataW.trod_struct jv h
 have hl : cs.length = 2 := hl.trans (by kernel_rfl)
 have hxl : xs.length = 2 := hxl
 obtain ⟨a, _, ra⟩ := Dec.at (o := 0) (k := 1) (hf 0 _ rfl) (Dec.str jx) (by omega) rfl (by kernel_rfl)
 obtain ⟨b, _, rb⟩ := Dec.at (o := 1) (k := 1) (hf 1 _ rfl) (Dec.int underlying56) (by omega) rfl (by kernel_rfl)
 exact ⟨⟨a, b⟩, trivial, yu (o := 0) ra (yu rb (RepL.fin hl))⟩
theorem decPhi : Dec prog W 71 encPhi wPhi := fun en held fuel cs x h => by
 obtain ⟨xs, n, _, _, hl, hxl, hf⟩ := DataW.trod_struct jd h
 have hl : cs.length = 3 := hl.trans (by kernel_rfl)
 have hxl : xs.length = 3 := hxl
 obtain ⟨a, _, ra⟩ := Dec.at (o := 0) (k := 1) (hf 0 _ rfl) decI (by omega) rfl (by kernel_rfl)
 obtain ⟨b, hb, rb⟩ := Dec.at (o := 1) (k := 1) (hf 1 _ rfl) decIs (by omega) rfl (by kernel_rfl)
 obtain ⟨c, hc, rc⟩ := Dec.at (o := 2) (k := 1) (hf 2 _ rfl) decIs (by omega) rfl (by kernel_rfl)
 exact ⟨⟨a, b, c⟩, ⟨hb, hc⟩, yu (o := 0) ra (yu rb (yu rc (RepL.fin hl)))⟩
def wInst (x : PInst) : Prop := wL x.args ∧ (Lit.int .i64 x.num).wf = true
theorem decInst : Dec prog W 61 encInst wInst := fun en held fuel cs x h => by
 obtain ⟨xs, n, _, _, hl, hxl, hf⟩ := DataW.trod_struct j9 h
 have hl : cs.length = 4 := hl.trans (by kernel_rfl)
 have hxl : xs.length = 4 := hxl
 obtain ⟨a, _, ra⟩ := Dec.at (o := 0) (k := 1) (hf 0 _ rfl) (Dec.int underlying59) (by omega) rfl (by kernel_rfl)
 obtain ⟨b, _, rb⟩ := Dec.at (o := 1) (k := 1) (hf 1 _ rfl) decI (by omega) rfl (by kernel_rfl)
 obtain ⟨c, hc, rc⟩ := Dec.at (o := 2) (k := 1) (hf 2 _ rfl) decIs (by omega) rfl (by kernel_rfl)
 obtain ⟨d, hd, rd⟩ := Dec.at (o := 3) (k := 1) (hf 3 _ rfl) (Dec.int underlying2) (by omega) rfl (by kernel_rfl)
 exact ⟨⟨a, b, c, d⟩, ⟨hc, hd⟩, yu (o := 0) ra (yu rb (yu rc (yu rd (RepL.fin hl))))⟩
theorem decTerm : Dec prog W 66 encTerm (fun _ => True) := fun en held fuel cs x h => by
 obtain ⟨xs, n, _, _, hl, hxl, hf⟩ := DataW.trod_struct j7 h
 have hl : cs.length = 4 := hl.trans (by kernel_rfl)
 have hxl : xs.length = 3 := hxl
 obtain ⟨a, _, ra⟩ := Dec.at (o := 0) (k := 1) (hf 0 _ rfl) (Dec.int underlying63) (by omega) rfl (by kernel_rfl)
 obtain ⟨b, _, rb⟩ := Dec.at (o := 1) (k := 1) (hf 1 _ rfl) decI (by omega) rfl (by kernel_rfl)
 obtain ⟨c, _, rc⟩ := Dec.at (o := 2) (k := 2) (hf 2 _ rfl) (Dec.pair (k := 1) ji decI (by kernel_rfl) (by kernel_rfl)) (by omega) rfl (by kernel_rfl)
 exact ⟨⟨a, b, c.1, c.2⟩, trivial, yu (o := 0) ra (yu rb (yu rc (RepL.fin hl)))⟩
def NumsI (f : PFunc) : Prop := ∀ b ∈ f.blocks, ∀ x ∈ b.insts, is64 x.num
def wBlkN (b : PBlock) : Prop := wBlk b ∧ ∀ x ∈ b.insts, -9223372036854775808 ≤ x.num ∧ x.num ≤ 9223372036854775807
theorem decBlkN : Dec prog W 69 encBlk wBlkN := fun en held fuel cs x h => by
 obtain ⟨xs, n, _, _, hl, hxl, hf⟩ := DataW.trod_struct j5 h
 have hl : cs.length = 7 := hl.trans (by kernel_rfl)
 have hxl : xs.length = 4 := hxl
 obtain ⟨a, _, ra⟩ := Dec.at (o := 0) (k := 1) (hf 0 _ rfl) (Dec.str jx) (by omega) rfl (by kernel_rfl)
 obtain ⟨b, hb, rb⟩ := Dec.at (o := 1) (k := 1) (hf 1 _ rfl) (Dec.slice (k := 3) jl decPhi (by kernel_rfl) (by decide)) (by omega) rfl (by kernel_rfl)
 obtain ⟨c, hc, rc⟩ := Dec.at (o := 2) (k := 1) (hf 2 _ rfl) (Dec.slice (k := 4) jr decInst (by kernel_rfl) (by decide)) (by omega) rfl (by kernel_rfl)
 obtain ⟨d, _, rd⟩ := Dec.at (o := 3) (k := 4) (hf 3 _ rfl) decTerm (by omega) rfl (by kernel_rfl)
 exact ⟨⟨a, b, c, d⟩, ⟨⟨hb.2, hc.2, hb.1, fun x hx => (hc.1 x hx).1⟩, fun x hx => by simpa [Lit.wf, IntKind.min, IntKind.max, IntKind.signed, IntKind.bits] using (hc.1 x hx).2⟩, yu (o := 0) ra (yu rb (yu rc (yu rd (RepL.fin hl))))⟩
theorem decFN : Dec prog W 26 encF (fun f => wFunc f ∧ NumsI f) := fun en held fuel cs x h => by
 obtain ⟨xs, n, _, _, hl, hxl, hf⟩ := DataW.trod_struct j6 h
 have hl : cs.length = 3 := hl.trans (by kernel_rfl)
 have hxl : xs.length = 3 := hxl
 obtain ⟨a, ha, ra⟩ := Dec.at (o := 0) (k := 1) (hf 0 _ rfl) (Dec.slice (k := 2) jn decVar (by kernel_rfl) (by decide)) (by omega) rfl (by kernel_rfl)
 obtain ⟨b, hb, rb⟩ := Dec.at (o := 1) (k := 1) (hf 1 _ rfl) decIs (by omega) rfl (by kernel_rfl)
 obtain ⟨c, hc, rc⟩ := Dec.at (o := 2) (k := 1) (hf 2 _ rfl) (Dec.slice (k := 7) je decBlkN (by kernel_rfl) (by decide)) (by omega) rfl (by kernel_rfl)
 exact ⟨⟨a, b, c⟩, ⟨⟨ha.2, hb, hc.2, fun x hx => (hc.1 x hx).1⟩, fun x hx => (hc.1 x hx).2⟩, yu (o := 0) ra (yu rb (yu rc (RepL.fin hl)))⟩
theorem of_struct {H : Type} {enc : TypeId × Value → H} {held : Bool} {α : Type} {T : TypeId} {e : α → List AV} {ok : α → Prop} {fs : Array Field} {base : Nat} {v : Value} {d : DataW H} {p : List MemPlace} (hd : Dec prog W T e ok) (ht : prog.underlying T = some (.struct fs))
  (hv : Value.okWide prog W .any base T v) (h : DataW.Trod enc prog W 0 (fun _ => true) held T v d p) : ∃ a, ok a ∧ RepV (I0 W) (.agg (e a)) v := by
 obtain ⟨cs, rfl, _⟩ := okWide_struct ht hv
 obtain ⟨fuel, h⟩ := h
 obtain ⟨a, h1, h2⟩ := hd enc held fuel _ _ h
 exact ⟨a, h1, cs.toList, by simp, h2⟩
theorem xTab : RExtra prog Tryz.lays200_ren := ⟨by kernel_rfl, by kernel_rfl, by kernel_rfl, by kernel_rfl, by kernel_rfl, by kernel_rfl, by kernel_rfl, by kernel_rfl⟩
theorem letters_of (h : Lib.VarReads prog W "unicode.properties" (Lib.tabData .u8 Lib.propertiesTab)) (h2 : Lib.VarReads prog W "unicode.Letter" (Lib.rtabData letterT)) : Letters W :=
 ⟨tabIs_of_reads (g := 1) (by kernel_rfl) (by kernel_rfl) underlying225 Zg (by kernel_rfl) (by kernel_rfl) h,
  rvar_of_reads { Tryz.lays200 with } xTab (name := "unicode.Letter") (g := 2) (by kernel_rfl) (by kernel_rfl) h2⟩
end Go.Proofs.YtpojdepccecpgaaGreatDoor
namespace Go.Proofs.YtpojdepccecpgaaGreatDoor
open Go.Proofs.Tryz
open Go.Proofs
theorem fMay : prog.mayEnter = true := by kernel_rfl
theorem fLift : (Rows.canonTellsRow.lifted == prog.liftsFinal) = true := by kernel_rfl
theorem fMake : (prog.make == some Rows.canonTellsRow.make) = true := by kernel_rfl
theorem fLaid : laidOutB prog = true := by kernel_rfl
theorem fRow : mapsRowed prog = true := by kernel_rfl
theorem fStop : (prog.stops == []) = true := by kernel_rfl
theorem fKnob : (prog.stopKnobs == []) = true := by kernel_rfl
theorem fKeys : (Rows.canonTellsRow.plainKeys == prog.plainKeys) = true := by kernel_rfl
theorem fHeard : prog.stopsHeard = true := by kernel_rfl
theorem gIn : (Rows.canonTellsRow.inPlace == prog.inPlace 3) = true := by kernel_rfl
theorem gUn : (Rows.canonTellsRow.unfollowed == prog.unfollowed 3) = true := by kernel_rfl
theorem gRec : (Rows.canonTellsRow.recurses == prog.recurses 3) = true := by kernel_rfl
theorem gNam : (Rows.canonTellsRow.named == prog.varsNamed 3) = true := by kernel_rfl
theorem closed : joinedFacts prog 3 Tryz.f3 Rows.canonTellsSpec Rows.canonTellsRow = true := by
 unfold joinedFacts
 rw [fLaid, fRow, fStop, fKnob, gIn, gUn, gRec, gNam, fKeys, fHeard, fMay, fLift, fMake]
 kernel_rfl
end Go.Proofs.YtpojdepccecpgaaGreatDoor
namespace Go.Proofs.YtpojdepccecpgaaGreatDoor
open Go.Proofs.Tryz
open Go.Proofs Go.Lib Go.Shelf Go.RowKit
variable {W : World}
theorem pows_of (h : Lib.VarReads prog W "internal/strconv.uint64pow10" (Lib.tabData .u64 Lib.pow10Tab)) : Pows W :=
 tabIs_of_reads (g := 0) (by kernel_rfl) (by kernel_rfl) underlying217 Zv (by kernel_rfl) (by kernel_rfl) h
end Go.Proofs.YtpojdepccecpgaaGreatDoor
