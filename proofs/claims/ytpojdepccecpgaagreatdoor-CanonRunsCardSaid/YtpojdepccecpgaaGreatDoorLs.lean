/- The table of powers of ten, out of what a call is handed. No conditions. -/
import Derived.Test.YtpojdepccecpgaaGreatDoorLo
import Derived.Test.YtpojdepccecpgaaGreatDoorLr
import Derived.Test.YtpojdepccecpgaaGreatDoorLh
import Derived.Test.YtpojdepccecpgaaGreatDoorLd
import Derived.Test.YtpojdepccecpgaaGreatDoorLi
import Derived.Lib.LaidRTab
import Derived.Test.YtpojdepccecpgaaGreatDoorRows
import Derived.Test.YtpojdepccecpgaaGreatDoorChecked
import Derived.ProofKit
import Derived.JoinedOf
import Derived.Test.YtpojdepccecpgaaGreatDoorLf
set_option linter.unusedVariables false
set_option linter.unusedSimpArgs false
set_option linter.unusedSectionVars false
namespace Go.Proofs.YtpojdepccecpgaaGreatDoor
open Go.Proofs.Tryz
open Go.Proofs Go.Lib Go.Shelf Go.RowKit
variable {E : World}
set_option maxRecDepth 20000
theorem eq8 (a b c d e f g h : Int) (w : World) : (Op.equalIn 10000 48 (.agg [.int .i64 a, .int .i64 b, .int .i64 c, .int .i64 d, .int .i64 e, .int .i64 f, .int .i64 g, .int .i64 h].toArray) (.agg [.int .i64 a, .int .i64 b, .int .i64 c, .int .i64 d, .int .i64 e, .int .i64 f, .int .i64 g, .int .i64 h].toArray)).run prog w = .ok true w := by
 rw [Op.equalIn]
 simp only [Sem.run_bind, run_underlying Zm, Result.andThen_ok]
 simp only [Std.Legacy.Range.forIn_eq_forIn_range', Std.Legacy.Range.size, Nat.sub_zero, Nat.add_sub_cancel, Nat.div_one, List.range'_succ, List.range'_zero, List.forIn_cons, List.forIn_nil]
 simp [part, jd, j5, run_equalIn_int, Zd]
theorem same08_spec (s : GS) (hl : s.trace.length ≤ 281474976710656) : AFun prog E 18 [.agg (encOut s), .agg (encOut s)] (.bool true) := by
 have ha := alike_spec (E := E) s s hl
 rw [show alikeG s s = true by unfold alikeG; simp] at ha
 refine zl func18 Z (by decide) Z<|zSr<|y8 (cs := _) Z Z Z<|y8 (cs := _) Z Z Z<|zVzAb Z<|z6<|zSr<|zVGvloadWF isAgg50 Z9 Z Z<|zVGvloadWF isAgg50 Z9 Z Z<|zg (ha) Z<|zVzMb Z<|za Z Z Z<|zVzFF jr Z j5 Z Z<|za Z Z Z<|zVzLi jd Z<|za Z Z Z<|zVzFF jr Z j5 Z Z<|za Z Z Z<|zVzLi jd Z<|za Z Z Z<|zVGveqlI Z Z<|zVzPt Z Z Z<|zVzMb Z<|za Z Z (by simp)<|zVzFF jr Z Y2 Z Z<|za Z Z (by simp)<|zVGvloadWF isAgg48 Y2 Z Z<|za Z Z (by simp)<|zVzFF jr Z Y2 Z Z<|za Z Z (by simp)<|zVGvloadWF isAgg48 Y2 Z Z<|za Z Z (by simp)<|z8 (Gv.eqlP (xs := [.int _ _, .int _ _, .int _ _, .int _ _, .int _ _, .int _ _, .int _ _, .int _ _]) (ys := [.int _ _, .int _ _, .int _ _, .int _ _, .int _ _, .int _ _, .int _ _, .int _ _]) (by kernel_rfl) Z Z (fun w => eq8 _ _ _ _ _ _ _ _ w))<|z8 (zPt Z (by simp) Z)<|zVzAb Z<|z6<|zf<|zj (x := .bool _) Z ?_
 rfl
theorem canonRuns_law (f : PFunc) (hw : wFunc f) (hN : NumsOk f) (hL : Letters E) (hPw : Pows E) (i : PIn) (hi64 : in64 i) (hil : i.args.length ≤ 9223372036854775807) (hil2 : i.arrays.length ≤ 9223372036854775807) (m : Int) (hm : 0 ≤ m ∧ m ≤ 65535) : AFun prog E 4 [.agg (encF f), .agg (encIn i), .int .u16 m] (.bool true) := by
 have hlv := lives18_spec (E := E) hL hPw
 refine zl func4 Z (by decide) Z<|zSr<|y8 (cs := _) Z Z Z<|y8 (cs := _) Z Z Z<|zVzAb Z<|z6<|zb<|zSr<|zg (hlv) Z<|zVGvnot Z<|zVzMb Z<|za Z Z Z<|zVGvloadWF jp ji Z Z<|za Z Z Z<|zg (lawJoined_spec f hw hL) Z<|za Z Z Z<|zVGvnot Z<|zVzPf Z Z Z<|zVzMb Z<|zo (s := 17) Z (fun c1=>?_) (fun c1=>?_)
 ·refine z7 Z Z c1<|z7 Z Z c1<|z7 Z Z c1<|zVzPt Z c1 Z<|zVzMb Z<|z7 Z Z Z<|z7 Z Z Z<|z7 Z Z Z<|z7 Z Z Z<|zVzPt Z Z Z<|z6<|yq Z Z<|zSr<|zg (hlv) Z<|zVzAb Z<|z6<|zf<|zj (x := .bool _) Z ?_
  rfl
 ·have hlj : lawJoin f = true := by cases h : lawJoin f; rw [h] at c1; cases c1; rfl
  obtain ⟨hsm, ht, hJ⟩ := lawJoin_small hlj
  have hS := typedS ht
  have hE := typedE ht
  refine za Z Z c1<|zVGvloadWF isAgg40 sizeOf40 Z Z<|za Z Z c1<|zg (smallIn_spec i hil hil2) Z<|za Z Z c1<|zVGvnot Z<|zVzPf Z c1 Z<|zVzMb Z<|zo (s := 22) Z (fun c2=>?_) (fun c2=>?_)
  ·refine z7 Z Z c2<|z7 Z Z c2<|z7 Z Z c2<|z7 Z Z c2<|zVzPt Z c2 Z<|z6<|yq Z Z<|zSr<|zg (hlv) Z<|zVzAb Z<|z6<|zf<|zj (x := .bool _) Z ?_
   rfl
  ·have hsi : smallIn i = true := by cases h : smallIn i; rw [h] at c2; cases c2; rfl
   have hsi2 : i.args.length ≤ 20 ∧ i.arrays.length ≤ 40 := by unfold smallIn at hsi; simp only [w0, w4] at hsi; exact ⟨hsi.1, hsi.2.1⟩
   refine za Z Z c2<|zVGvloadWF jp ji Z Z<|za Z Z c2<|zVGvloadWF isAgg40 sizeOf40 Z Z<|za Z Z c2<|zg (rightG_spec f i (shaped_pars hS) (by omega) (by omega)) Z<|za Z Z c2<|z8 (yl Z Z)<|zVzPf Z c2 Z<|z6<|zz Z (fun c3=>?_) (fun c3=>?_)
   ·refine zSr<|zg (hlv) Z<|zVzAb Z<|z6<|zf<|zj (x := .bool _) Z ?_
    rfl
   ·have hri : rightG f i = 0 := by simpa using c3
    have hc := can_typed ht hJ
    have hcS := typedS hc.1
    have hcs := can_small ht hJ hsm
    have h64 : ∀ b ∈ f.blocks, ∀ x ∈ b.insts, is64 x.num := hN
    have h64g : ∀ b ∈ (canD f).blocks, ∀ x ∈ b.insts, is64 x.num := can_nums ht hN
    have hRR := shaped_run hS h64
    have hRG := shaped_run hcS h64g
    have hlk := can_like ht hJ
    have hrg : rightG (canD f) i = 0 := by rw [hlk.right hS i]; exact hri
    obtain ⟨hgi, hia⟩ := GInv.beg hRR (shaped_pars hS) (shaped_tys hS) hri hi64
    obtain ⟨hgg, hig⟩ := GInv.beg hRG (shaped_pars hcS) (shaped_tys hcS) hrg hi64
    have hal : i.args.length = f.params.length := Classical.byContradiction fun h => by unfold rightG at hri; rw [if_pos h] at hri; cases hri
    have hWv : ∀ v, v ∈ vsL f → hasV f v = true ∧ hasV (canD f) (posI (vsL f) v) = true := fun v hv => by
     refine ⟨vs_has ht hJ v hv, ?_⟩
     have := at_pos hv
     unfold hasV
     rw [can_vlen]
     simp [this.2.1, this.2.2]
    have hDv : ∀ x, x ∈ ord f → ∀ p ∈ (blkX f x).phis, DistP p := fun x hx p hp => phi_dist hS hJ (order_rng hE.grph.toEOk hx).1 (order_rng hE.grph.toEOk hx).2 hp
    have hsim := hlk.beg hS hWv hal
    obtain ⟨k, hk⟩ : ∃ k : Nat, m.tmod 501 = (k : Int) := ⟨(m.tmod 501).toNat, by have := Int.tmod_nonneg 501 hm.1; omega⟩
    have hk2 : k ≤ 500 := by have := Int.tmod_lt_of_pos m (show (0 : Int) < 501 by decide); omega
    have hrun := SimC.run hlk hRR hRG hWv hDv k hsim hgi hgg
    have hA := wrun_spec (E := E) f i k hRR hsm.1 hsm hgi hia (by omega)
    have hB := wrun_spec (E := E) (canD f) i k hRG hcs.1 hcs hgg hig (by omega)
    have heq : encOut (runG (canD f) k (begG (canD f) i)) = encOut (runG f k (begG f i)) := by
     unfold encOut
     rw [hrun.en, hrun.val, hrun.tr, hrun.trace, hrun.st, hrun.ck]
    rw [heq] at hB
    have hl2 := lawTyped8_spec (E := E) (canD f) hcs hL
    rw [hc.1] at hl2
    have hkw : IntKind.i64.wrap (m.tmod 501) = (k : Int) := by rw [hk]; unfold IntKind.wrap; simp [IntKind.bits, IntKind.signed]; omega
    rw [← hkw] at hA hB
    have hrt := rightG_spec (E := E) (canD f) i (shaped_pars hcS) (by omega) (by omega)
    rw [hrg] at hrt
    have hlt : (runG f k (begG f i)).trace.length ≤ 281474976710656 := by
     have := (ginv_run hRR k (begG f i) hgi).lt
     omega
    refine ze<|zSr<|zVGvloadWF jp ji Z Z<|zg (canon_good f hsm hL hPw ht hJ) Z<|z8 (zMu Z)<|z8 (qe (v := .agg _) Z Z)<|z8 (zXi Z Z)<|zu (cs := [.raw (.slice none 0 0), .raw (.slice none 0 0), .raw (.slice none 0 0)]) Zo Z Z<|fun i7 => zt ji Z Z Z Z Z Z .head Z<|zw (yi (t := 7) Z .head)<|zVzAi Z<|z6<|zSr<|zVzMi Z<|z8 (Gv.rem Z Z (by decide))<|z8 (Gv.conv underlying41 Zd Z)<|zVzAi Z<|z6<|zb<|zq (fun j => false) (by kernel_rfl) Z (zr (.rest _))<|zTk 0 Z (zMi Z)<|zTk 1 Z (Gv.eqlI Z Z)<|zTk 2 Z (zMb Z)<|zTt 3 Z Z Z Z (yo jp ji Z Z)<|zOn 4 Z<|za Z Z Z<|zg (hl2) Z<|z6<|zTk 5 Z (zPt Z Z Z)<|zTk 6 Z (zMb Z)<|zTt 7 Z Z Z Z (yo jp ji Z Z)<|zTt 8 Z Z Z Z (yo isAgg40 sizeOf40 Z Z)<|zOn 9 Z<|za Z Z Z<|zg (hrt) Z<|z6<|zTt 10 Z Z Z Z (Gv.eqlI Z Z)<|zTk 11 Z (zPt Z Z Z)<|zTk 12 Z (zMb Z)<|zTt 13 Z Z Z Z (yo jp ji Z Z) ?_
    refine zTt 14 Z Z Z Z (yo isAgg40 sizeOf40 Z Z)<|zTt 15 Z Z Z Z (zMi Z)<|zTt 17 Z Z Z Z (yo jp ji Z Z)<|zTt 18 Z Z Z Z (yo isAgg40 sizeOf40 Z Z)<|zTt 19 Z Z Z Z (zMi Z)<|zOn 16 Z<|za Z Z Z<|zg (hA) Z<|z6<|zOn 20 Z<|za Z Z Z<|zg (hB) Z<|z6<|zOn 21 Z<|za Z Z Z<|zg (same08_spec (runG f k (begG f i)) hlt) Z<|z6<|zTk 22 Z (zPt Z Z Z)<|zTk 23 Z (zAb Z)<|zDn<|zf<|zj (x := .bool _) Z ?_
    rfl
end Go.Proofs.YtpojdepccecpgaaGreatDoor
namespace Go.Proofs.YtpojdepccecpgaaGreatDoor
open Go.Proofs.Tryz
open Go.Proofs Go.Lib Go.Shelf Go.RowKit Go.WideShapes
set_option maxRecDepth 20000
variable {W : World}
theorem decI : Dec prog W 3 encI (fun x => (Lit.int .i64 x).wf = true) := Dec.int Zd
theorem decIs : Dec prog W 23 (fun l : List Int => [.fro 1 (l.map encI)]) wL := fun en held fuel cs x h => by
 obtain ⟨l, hl, r⟩ := Dec.slice (k := 1) j4 decI (by kernel_rfl) (by decide) en held fuel cs x h
 exact ⟨l, hl.2, r⟩
theorem decVar : Dec prog W 58 encVar (fun _ => True) := fun en held fuel cs x h => by
 obtain ⟨xs, n, _, _, hl, hxl, hf⟩ := DataW.trod_struct Z1 h
 have hl : cs.length = 2 := hl.trans (by kernel_rfl)
 have hxl : xs.length = 2 := hxl
 obtain ⟨a, _, ra⟩ := qg (o := 0) (k := 1) (hf 0 _ rfl) (Dec.str Z2) (by omega) rfl (by kernel_rfl)
 obtain ⟨b, _, rb⟩ := qg (o := 1) (k := 1) (hf 1 _ rfl) (Dec.int underlying56) (by omega) rfl (by kernel_rfl)
 exact ⟨⟨a, b⟩, trivial, q8 (o := 0) ra (q8 rb (RepL.fin hl))⟩
theorem decPhi : Dec prog W 71 encPhi wPhi := fun en held fuel cs x h => by
 obtain ⟨xs, n, _, _, hl, hxl, hf⟩ := DataW.trod_struct jg h
 have hl : cs.length = 3 := hl.trans (by kernel_rfl)
 have hxl : xs.length = 3 := hxl
 obtain ⟨a, _, ra⟩ := qg (o := 0) (k := 1) (hf 0 _ rfl) decI (by omega) rfl (by kernel_rfl)
 obtain ⟨b, hb, rb⟩ := qg (o := 1) (k := 1) (hf 1 _ rfl) decIs (by omega) rfl (by kernel_rfl)
 obtain ⟨c, hc, rc⟩ := qg (o := 2) (k := 1) (hf 2 _ rfl) decIs (by omega) rfl (by kernel_rfl)
 exact ⟨⟨a, b, c⟩, ⟨hb, hc⟩, q8 (o := 0) ra (q8 rb (q8 rc (RepL.fin hl)))⟩
def wInst (x : PInst) : Prop := wL x.args ∧ (Lit.int .i64 x.num).wf = true
theorem decInst : Dec prog W 61 encInst wInst := fun en held fuel cs x h => by
 obtain ⟨xs, n, _, _, hl, hxl, hf⟩ := DataW.trod_struct jf h
 have hl : cs.length = 4 := hl.trans (by kernel_rfl)
 have hxl : xs.length = 4 := hxl
 obtain ⟨a, _, ra⟩ := qg (o := 0) (k := 1) (hf 0 _ rfl) (Dec.int underlying59) (by omega) rfl (by kernel_rfl)
 obtain ⟨b, _, rb⟩ := qg (o := 1) (k := 1) (hf 1 _ rfl) decI (by omega) rfl (by kernel_rfl)
 obtain ⟨c, hc, rc⟩ := qg (o := 2) (k := 1) (hf 2 _ rfl) decIs (by omega) rfl (by kernel_rfl)
 obtain ⟨d, hd, rd⟩ := qg (o := 3) (k := 1) (hf 3 _ rfl) (Dec.int Zj) (by omega) rfl (by kernel_rfl)
 exact ⟨⟨a, b, c, d⟩, ⟨hc, hd⟩, q8 (o := 0) ra (q8 rb (q8 rc (q8 rd (RepL.fin hl))))⟩
theorem decTerm : Dec prog W 66 encTerm (fun _ => True) := fun en held fuel cs x h => by
 obtain ⟨xs, n, _, _, hl, hxl, hf⟩ := DataW.trod_struct j7 h
 have hl : cs.length = 4 := hl.trans (by kernel_rfl)
 have hxl : xs.length = 3 := hxl
 obtain ⟨a, _, ra⟩ := qg (o := 0) (k := 1) (hf 0 _ rfl) (Dec.int underlying63) (by omega) rfl (by kernel_rfl)
 obtain ⟨b, _, rb⟩ := qg (o := 1) (k := 1) (hf 1 _ rfl) decI (by omega) rfl (by kernel_rfl)
 obtain ⟨c, _, rc⟩ := qg (o := 2) (k := 2) (hf 2 _ rfl) (Dec.pair (k := 1) jl decI (by kernel_rfl) (by kernel_rfl)) (by omega) rfl (by kernel_rfl)
 exact ⟨⟨a, b, c.1, c.2⟩, trivial, q8 (o := 0) ra (q8 rb (q8 rc (RepL.fin hl)))⟩
def NumsI (f : PFunc) : Prop := ∀ b ∈ f.blocks, ∀ x ∈ b.insts, is64 x.num
def wBlkN (b : PBlock) : Prop := wBlk b ∧ ∀ x ∈ b.insts, -9223372036854775808 ≤ x.num ∧ x.num ≤ 9223372036854775807
theorem decBlkN : Dec prog W 69 encBlk wBlkN := fun en held fuel cs x h => by
 obtain ⟨xs, n, _, _, hl, hxl, hf⟩ := DataW.trod_struct j6 h
 have hl : cs.length = 7 := hl.trans (by kernel_rfl)
 have hxl : xs.length = 4 := hxl
 obtain ⟨a, _, ra⟩ := qg (o := 0) (k := 1) (hf 0 _ rfl) (Dec.str Z2) (by omega) rfl (by kernel_rfl)
 obtain ⟨b, hb, rb⟩ := qg (o := 1) (k := 1) (hf 1 _ rfl) (Dec.slice (k := 3) jq decPhi (by kernel_rfl) (by decide)) (by omega) rfl (by kernel_rfl)
 obtain ⟨c, hc, rc⟩ := qg (o := 2) (k := 1) (hf 2 _ rfl) (Dec.slice (k := 4) jw decInst (by kernel_rfl) (by decide)) (by omega) rfl (by kernel_rfl)
 obtain ⟨d, _, rd⟩ := qg (o := 3) (k := 4) (hf 3 _ rfl) decTerm (by omega) rfl (by kernel_rfl)
 exact ⟨⟨a, b, c, d⟩, ⟨⟨hb.2, hc.2, hb.1, fun x hx => (hc.1 x hx).1⟩, fun x hx => by simpa [Lit.wf, IntKind.min, IntKind.max, IntKind.signed, IntKind.bits] using (hc.1 x hx).2⟩, q8 (o := 0) ra (q8 rb (q8 rc (q8 rd (RepL.fin hl))))⟩
theorem decFN : Dec prog W 26 encF (fun f => wFunc f ∧ NumsI f) := fun en held fuel cs x h => by
 obtain ⟨xs, n, _, _, hl, hxl, hf⟩ := DataW.trod_struct j8 h
 have hl : cs.length = 3 := hl.trans (by kernel_rfl)
 have hxl : xs.length = 3 := hxl
 obtain ⟨a, ha, ra⟩ := qg (o := 0) (k := 1) (hf 0 _ rfl) (Dec.slice (k := 2) jv decVar (by kernel_rfl) (by decide)) (by omega) rfl (by kernel_rfl)
 obtain ⟨b, hb, rb⟩ := qg (o := 1) (k := 1) (hf 1 _ rfl) decIs (by omega) rfl (by kernel_rfl)
 obtain ⟨c, hc, rc⟩ := qg (o := 2) (k := 1) (hf 2 _ rfl) (Dec.slice (k := 7) jh decBlkN (by kernel_rfl) (by decide)) (by omega) rfl (by kernel_rfl)
 exact ⟨⟨a, b, c⟩, ⟨⟨ha.2, hb, hc.2, fun x hx => (hc.1 x hx).1⟩, fun x hx => (hc.1 x hx).2⟩, q8 (o := 0) ra (q8 rb (q8 rc (RepL.fin hl)))⟩
theorem of_struct {H : Type} {enc : TypeId × Value → H} {held : Bool} {α : Type} {T : TypeId} {e : α → List AV} {ok : α → Prop} {fs : Array Field} {base : Nat} {v : Value} {d : DataW H} {p : List MemPlace} (hd : Dec prog W T e ok) (ht : prog.underlying T = some (.struct fs))
  (hv : Value.okWide prog W .any base T v) (h : DataW.Trod enc prog W 0 (fun _ => true) held T v d p) : ∃ a, ok a ∧ RepV (I0 W) (.agg (e a)) v := by
 obtain ⟨cs, rfl, _⟩ := okWide_struct ht hv
 obtain ⟨fuel, h⟩ := h
 obtain ⟨a, h1, h2⟩ := hd enc held fuel _ _ h
 exact ⟨a, h1, cs.toList, by simp, h2⟩
theorem xTab : RExtra prog Tryz.lays200_ren := ⟨by kernel_rfl, by kernel_rfl, by kernel_rfl, by kernel_rfl, by kernel_rfl, by kernel_rfl, by kernel_rfl, by kernel_rfl⟩
theorem letters_of (h : Lib.VarReads prog W "unicode.properties" (Lib.tabData .u8 Lib.propertiesTab)) (h2 : Lib.VarReads prog W "unicode.Letter" (Lib.rtabData letterT)) : Letters W :=
 ⟨tabIs_of_reads (g := 1) (by kernel_rfl) (by kernel_rfl) underlying225 Yj (by kernel_rfl) (by kernel_rfl) h,
  rvar_of_reads { Tryz.lays200 with } xTab (name := "unicode.Letter") (g := 2) (by kernel_rfl) (by kernel_rfl) h2⟩
end Go.Proofs.YtpojdepccecpgaaGreatDoor
namespace Go.Proofs.YtpojdepccecpgaaGreatDoor
open Go.Proofs.Tryz
open Go.Proofs
theorem fMay : prog.mayEnter = true := by kernel_rfl
theorem fLift : (Rows.canonRunsRow.lifted == prog.liftsFinal) = true := by kernel_rfl
theorem fMake : (prog.make == some Rows.canonRunsRow.make) = true := by kernel_rfl
theorem fLaid : laidOutB prog = true := by kernel_rfl
theorem fRow : mapsRowed prog = true := by kernel_rfl
theorem fStop : (prog.stops == []) = true := by kernel_rfl
theorem fKnob : (prog.stopKnobs == []) = true := by kernel_rfl
theorem fKeys : (Rows.canonRunsRow.plainKeys == prog.plainKeys) = true := by kernel_rfl
theorem fHeard : prog.stopsHeard = true := by kernel_rfl
theorem gIn : (Rows.canonRunsRow.inPlace == prog.inPlace 4) = true := by kernel_rfl
theorem gUn : (Rows.canonRunsRow.unfollowed == prog.unfollowed 4) = true := by kernel_rfl
theorem gRec : (Rows.canonRunsRow.recurses == prog.recurses 4) = true := by kernel_rfl
theorem gNam : (Rows.canonRunsRow.named == prog.varsNamed 4) = true := by kernel_rfl
theorem closed : joinedFacts prog 4 Tryz.f4 Rows.canonRunsSpec Rows.canonRunsRow = true := by
 unfold joinedFacts
 rw [fLaid, fRow, fStop, fKnob, gIn, gUn, gRec, gNam, fKeys, fHeard, fMay, fLift, fMake]
 kernel_rfl
end Go.Proofs.YtpojdepccecpgaaGreatDoor
namespace Go.Proofs.YtpojdepccecpgaaGreatDoor
open Go.Proofs.Tryz
open Go.Proofs Go.Lib Go.Shelf Go.RowKit Go.WideShapes
set_option maxRecDepth 20000
variable {W : World}
theorem fit64 {n : Int} (h : (Lit.int .i64 n).wf = true) : is64 n := by simpa [is64, Lit.wf, IntKind.min, IntKind.max, IntKind.signed, IntKind.bits] using h
theorem decArg : Dec prog W 88 encArg (fun a => is64 a.int) := fun en held fuel cs x h => by
 obtain ⟨xs, n, _, _, hl, hxl, hf⟩ := DataW.trod_struct Yv h
 have hl : cs.length = 3 := hl.trans (by kernel_rfl)
 have hxl : xs.length = 3 := hxl
 obtain ⟨a, ha, ra⟩ := qg (o := 0) (k := 1) (hf 0 _ rfl) (Dec.int Zj) (by omega) rfl (by kernel_rfl)
 obtain ⟨b, _, rb⟩ := qg (o := 1) (k := 1) (hf 1 _ rfl) (Dec.bool Y5) (by omega) rfl (by kernel_rfl)
 obtain ⟨c, _, rc⟩ := qg (o := 2) (k := 1) (hf 2 _ rfl) decI (by omega) rfl (by kernel_rfl)
 exact ⟨⟨a, b, c⟩, fit64 ha, q8 (o := 0) ra (q8 rb (q8 rc (RepL.fin hl)))⟩
theorem decArr : Dec prog W 47 encArr (fun r => ∀ x ∈ r, is64 x) := fun en held fuel cs x h => by
 obtain ⟨l, hl, r⟩ := Dec.slice (k := 1) jj (Dec.int Zj) (by kernel_rfl) (by decide) en held fuel cs x h
 exact ⟨l, fun x hx => fit64 (hl.1 x hx), r⟩
theorem decIn : Dec prog W 40 encIn (fun i => in64 i ∧ i.args.length ≤ 9223372036854775807 ∧ i.arrays.length ≤ 9223372036854775807) := fun en held fuel cs x h => by
 obtain ⟨xs, n, _, _, hl, hxl, hf⟩ := DataW.trod_struct Y1 h
 have hl : cs.length = 2 := hl.trans (by kernel_rfl)
 have hxl : xs.length = 2 := hxl
 obtain ⟨a, ha, ra⟩ := qg (o := 0) (k := 1) (hf 0 _ rfl) (Dec.slice (k := 3) Ym decArg (by kernel_rfl) (by decide)) (by omega) rfl (by kernel_rfl)
 obtain ⟨b, hb, rb⟩ := qg (o := 1) (k := 1) (hf 1 _ rfl) (Dec.slice (k := 1) Z7 decArr (by kernel_rfl) (by decide)) (by omega) rfl (by kernel_rfl)
 exact ⟨⟨a, b⟩, ⟨⟨ha.1, hb.1⟩, ha.2, hb.2⟩, q8 (o := 0) ra (q8 rb (RepL.fin hl))⟩
end Go.Proofs.YtpojdepccecpgaaGreatDoor
namespace Go.Proofs.YtpojdepccecpgaaGreatDoor
open Go.Proofs.Tryz
open Go.Proofs Go.Lib Go.Shelf Go.RowKit Go.WideShapes
set_option maxRecDepth 20000
variable {W : World}
theorem of_u16 {H : Type} {enc : TypeId × Value → H} {held : Bool} {T : TypeId} {base : Nat} {v : Value} {d : DataW H} {p : List MemPlace} (ht : prog.underlying T = some (.int .u16))
  (hv : Value.okWide prog W .any base T v) (h : DataW.Trod enc prog W 0 (fun _ => true) held T v d p) : ∃ n : Int, (0 ≤ n ∧ n ≤ 65535) ∧ v = .int .u16 n := by
 obtain ⟨n, rfl⟩ := okWide_int ht hv
 obtain ⟨fuel, h⟩ := h
 obtain ⟨m, h1, h2⟩ := Dec.int ht enc held fuel _ _ h
 obtain ⟨v, _, e, h2, h3⟩ := h2
 cases e
 cases h2
 exact ⟨n, by simpa [Lit.wf, IntKind.min, IntKind.max, IntKind.signed, IntKind.bits] using h1, rfl⟩
end Go.Proofs.YtpojdepccecpgaaGreatDoor
namespace Go.Proofs.YtpojdepccecpgaaGreatDoor
open Go.Proofs.Tryz
open Go.Proofs Go.Lib Go.Shelf Go.RowKit
variable {W : World}
theorem pows_of (h : Lib.VarReads prog W "internal/strconv.uint64pow10" (Lib.tabData .u64 Lib.pow10Tab)) : Pows W :=
 tabIs_of_reads (g := 0) (by kernel_rfl) (by kernel_rfl) underlying217 Zg (by kernel_rfl) (by kernel_rfl) h
end Go.Proofs.YtpojdepccecpgaaGreatDoor
