/- What is asked of the program itself, of the law RunMore, fact for fact. No conditions. -/
import Derived.Test.YtoicilchhkndmaaGreatDoorJd
import Derived.Lib.LaidRTab
import Derived.Test.YtoicilchhkndmaaGreatDoorJc
import Derived.Test.YtoicilchhkndmaaGreatDoorJm
import Derived.Lib.LaidU8
import Derived.Stop.LaidErr
import Derived.Shelf.Vars
import Derived.Handed
import Derived.Test.YtoicilchhkndmaaGreatDoorJf
import Derived.Test.YtoicilchhkndmaaGreatDoorJi
import Derived.Test.YtoicilchhkndmaaGreatDoorRows
import Derived.Test.YtoicilchhkndmaaGreatDoorChecked
import Derived.ProofKit
import Derived.JoinedOf
set_option linter.unusedVariables false
set_option linter.unusedSimpArgs false
set_option linter.unusedSectionVars false
namespace Go.Proofs.YtoicilchhkndmaaGreatDoor
open Go.Proofs.Tryz
open Go.Proofs Go.Lib Go.Shelf Go.RowKit Go.WideShapes
set_option maxRecDepth 20000
variable {W : World}
theorem decI : Dec prog W 3 encI (fun x => (Lit.int .i64 x).wf = true) := Dec.int Z7
theorem decIs : Dec prog W 23 (fun l : List Int => [.fro 1 (l.map encI)]) wL := fun en held fuel cs x h => by
 obtain ⟨l, hl, r⟩ := Dec.slice (k := 1) ja decI (by kernel_rfl) (by decide) en held fuel cs x h
 exact ⟨l, hl.2, r⟩
theorem decVar : Dec prog W 54 encVar (fun _ => True) := fun en held fuel cs x h => by
 obtain ⟨xs, n, _, _, hl, hxl, hf⟩ := DataW.trod_struct Zh h
 have hl : cs.length = 2 := hl.trans (by kernel_rfl)
 have hxl : xs.length = 2 := hxl
 obtain ⟨a, _, ra⟩ := yx (o := 0) (k := 1) (hf 0 _ rfl) (Dec.str jr) (by omega) rfl (by kernel_rfl)
 obtain ⟨b, _, rb⟩ := yx (o := 1) (k := 1) (hf 1 _ rfl) (Dec.int underlying52) (by omega) rfl (by kernel_rfl)
 exact ⟨⟨a, b⟩, trivial, yr (o := 0) ra (yr rb (RepL.fin hl))⟩
theorem decPhi : Dec prog W 64 encPhi wPhi := fun en held fuel cs x h => by
 obtain ⟨xs, n, _, _, hl, hxl, hf⟩ := DataW.trod_struct jq h
 have hl : cs.length = 3 := hl.trans (by kernel_rfl)
 have hxl : xs.length = 3 := hxl
 obtain ⟨a, _, ra⟩ := yx (o := 0) (k := 1) (hf 0 _ rfl) decI (by omega) rfl (by kernel_rfl)
 obtain ⟨b, hb, rb⟩ := yx (o := 1) (k := 1) (hf 1 _ rfl) decIs (by omega) rfl (by kernel_rfl)
 obtain ⟨c, hc, rc⟩ := yx (o := 2) (k := 1) (hf 2 _ rfl) decIs (by omega) rfl (by kernel_rfl)
 exact ⟨⟨a, b, c⟩, ⟨hb, hc⟩, yr (o := 0) ra (yr rb (yr rc (RepL.fin hl)))⟩
def wInst (x : PInst) : Prop := wL x.args ∧ (Lit.int .i64 x.num).wf = true
theorem decInst : Dec prog W 67 encInst wInst := fun en held fuel cs x h => by
 obtain ⟨xs, n, _, _, hl, hxl, hf⟩ := DataW.trod_struct j2 h
 have hl : cs.length = 4 := hl.trans (by kernel_rfl)
 have hxl : xs.length = 4 := hxl
 obtain ⟨a, _, ra⟩ := yx (o := 0) (k := 1) (hf 0 _ rfl) (Dec.int underlying65) (by omega) rfl (by kernel_rfl)
 obtain ⟨b, _, rb⟩ := yx (o := 1) (k := 1) (hf 1 _ rfl) decI (by omega) rfl (by kernel_rfl)
 obtain ⟨c, hc, rc⟩ := yx (o := 2) (k := 1) (hf 2 _ rfl) decIs (by omega) rfl (by kernel_rfl)
 obtain ⟨d, hd, rd⟩ := yx (o := 3) (k := 1) (hf 3 _ rfl) (Dec.int underlying2) (by omega) rfl (by kernel_rfl)
 exact ⟨⟨a, b, c, d⟩, ⟨hc, hd⟩, yr (o := 0) ra (yr rb (yr rc (yr rd (RepL.fin hl))))⟩
theorem decTerm : Dec prog W 60 encTerm (fun _ => True) := fun en held fuel cs x h => by
 obtain ⟨xs, n, _, _, hl, hxl, hf⟩ := DataW.trod_struct jk h
 have hl : cs.length = 4 := hl.trans (by kernel_rfl)
 have hxl : xs.length = 3 := hxl
 obtain ⟨a, _, ra⟩ := yx (o := 0) (k := 1) (hf 0 _ rfl) (Dec.int underlying57) (by omega) rfl (by kernel_rfl)
 obtain ⟨b, _, rb⟩ := yx (o := 1) (k := 1) (hf 1 _ rfl) decI (by omega) rfl (by kernel_rfl)
 obtain ⟨c, _, rc⟩ := yx (o := 2) (k := 2) (hf 2 _ rfl) (Dec.pair (k := 1) Z6 decI (by kernel_rfl) (by kernel_rfl)) (by omega) rfl (by kernel_rfl)
 exact ⟨⟨a, b, c.1, c.2⟩, trivial, yr (o := 0) ra (yr rb (yr rc (RepL.fin hl)))⟩
def NumsI (f : PFunc) : Prop := ∀ b ∈ f.blocks, ∀ x ∈ b.insts, is64 x.num
def wBlkN (b : PBlock) : Prop := wBlk b ∧ ∀ x ∈ b.insts, -9223372036854775808 ≤ x.num ∧ x.num ≤ 9223372036854775807
theorem decBlkN : Dec prog W 62 encBlk wBlkN := fun en held fuel cs x h => by
 obtain ⟨xs, n, _, _, hl, hxl, hf⟩ := DataW.trod_struct j9 h
 have hl : cs.length = 7 := hl.trans (by kernel_rfl)
 have hxl : xs.length = 4 := hxl
 obtain ⟨a, _, ra⟩ := yx (o := 0) (k := 1) (hf 0 _ rfl) (Dec.str jr) (by omega) rfl (by kernel_rfl)
 obtain ⟨b, hb, rb⟩ := yx (o := 1) (k := 1) (hf 1 _ rfl) (Dec.slice (k := 3) jw decPhi (by kernel_rfl) (by decide)) (by omega) rfl (by kernel_rfl)
 obtain ⟨c, hc, rc⟩ := yx (o := 2) (k := 1) (hf 2 _ rfl) (Dec.slice (k := 4) jx decInst (by kernel_rfl) (by decide)) (by omega) rfl (by kernel_rfl)
 obtain ⟨d, _, rd⟩ := yx (o := 3) (k := 4) (hf 3 _ rfl) decTerm (by omega) rfl (by kernel_rfl)
 exact ⟨⟨a, b, c, d⟩, ⟨⟨hb.2, hc.2, hb.1, fun x hx => (hc.1 x hx).1⟩, fun x hx => by simpa [Lit.wf, IntKind.min, IntKind.max, IntKind.signed, IntKind.bits] using (hc.1 x hx).2⟩, yr (o := 0) ra (yr rb (yr rc (yr rd (RepL.fin hl))))⟩
theorem decFN : Dec prog W 26 encF (fun f => wFunc f ∧ NumsI f) := fun en held fuel cs x h => by
 obtain ⟨xs, n, _, _, hl, hxl, hf⟩ := DataW.trod_struct jd h
 have hl : cs.length = 3 := hl.trans (by kernel_rfl)
 have hxl : xs.length = 3 := hxl
 obtain ⟨a, ha, ra⟩ := yx (o := 0) (k := 1) (hf 0 _ rfl) (Dec.slice (k := 2) jz decVar (by kernel_rfl) (by decide)) (by omega) rfl (by kernel_rfl)
 obtain ⟨b, hb, rb⟩ := yx (o := 1) (k := 1) (hf 1 _ rfl) decIs (by omega) rfl (by kernel_rfl)
 obtain ⟨c, hc, rc⟩ := yx (o := 2) (k := 1) (hf 2 _ rfl) (Dec.slice (k := 7) js decBlkN (by kernel_rfl) (by decide)) (by omega) rfl (by kernel_rfl)
 exact ⟨⟨a, b, c⟩, ⟨⟨ha.2, hb, hc.2, fun x hx => (hc.1 x hx).1⟩, fun x hx => (hc.1 x hx).2⟩, yr (o := 0) ra (yr rb (yr rc (RepL.fin hl)))⟩
theorem of_struct {H : Type} {enc : TypeId × Value → H} {held : Bool} {α : Type} {T : TypeId} {e : α → List AV} {ok : α → Prop} {fs : Array Field} {base : Nat} {v : Value} {d : DataW H} {p : List MemPlace} (hd : Dec prog W T e ok) (ht : prog.underlying T = some (.struct fs))
  (hv : Value.okWide prog W .any base T v) (h : DataW.Trod enc prog W 0 (fun _ => true) held T v d p) : ∃ a, ok a ∧ RepV (I0 W) (.agg (e a)) v := by
 obtain ⟨cs, rfl, _⟩ := okWide_struct ht hv
 obtain ⟨fuel, h⟩ := h
 obtain ⟨a, h1, h2⟩ := hd enc held fuel _ _ h
 exact ⟨a, h1, cs.toList, by simp, h2⟩
theorem xTab : RExtra prog Tryz.lays200_ren := ⟨by kernel_rfl, by kernel_rfl, by kernel_rfl, by kernel_rfl, by kernel_rfl, by kernel_rfl, by kernel_rfl, by kernel_rfl⟩
theorem letters_of (h : Lib.VarReads prog W "unicode.properties" (Lib.tabData .u8 Lib.propertiesTab)) (h2 : Lib.VarReads prog W "unicode.Letter" (Lib.rtabData letterT)) : Letters W :=
 ⟨tabIs_of_reads (g := 6) (by kernel_rfl) (by kernel_rfl) underlying214 Y0 (by kernel_rfl) (by kernel_rfl) h,
  rvar_of_reads { Tryz.lays200 with } xTab (name := "unicode.Letter") (g := 7) (by kernel_rfl) (by kernel_rfl) h2⟩
end Go.Proofs.YtoicilchhkndmaaGreatDoor
namespace Go.Proofs.YtoicilchhkndmaaGreatDoor
open Go.Proofs.Tryz
open Go.Proofs Go.Lib Go.Shelf Go.RowKit
variable {W : World}
theorem pows_of (h : Lib.VarReads prog W "internal/strconv.uint64pow10" (Lib.tabData .u64 Lib.pow10Tab)) : Pows W :=
 tabIs_of_reads (g := 0) (by kernel_rfl) (by kernel_rfl) underlying185 Zw (by kernel_rfl) (by kernel_rfl) h
end Go.Proofs.YtoicilchhkndmaaGreatDoor
namespace Go.Proofs.YtoicilchhkndmaaGreatDoor
open Go.Proofs.Tryz
open Go.Proofs Go.Lib Go.Shelf Go.RowKit Go.WideShapes
set_option maxRecDepth 20000
variable {W : World}
theorem len_of (h : W.ShapedOpen prog) : ∃ m, W.cell? ⟨5, 0, none⟩ = some (.int .i64 m) :=
 cell_of_shapedOpen_int (P := prog) (g := 5) (t := 3) (zero := #[.int .i64 0]) h (of_decide_eq_true (by kernel_rfl)) (by kernel_rfl) rfl (by kernel_rfl) (by kernel_rfl) Z7
theorem star_text : "*" ++ "errors.errorString" = "*errors.errorString" := by decide
theorem star_row (u : TypeId) (h : prog.typeName? 3 u = some "*errors.errorString") : u = 279 :=
 typeName_ptr_named (nm := "errors.errorString") (by rw [star_text]; kernel_rfl) (by kernel_rfl) (by decide) u (by rw [star_text]; exact h)
theorem syn_of {text : List UInt8} {r : List (String × DataW Unit)} (h : laidMet prog (("strconv.ErrSyntax", .iface "*errors.errorString" (.ptr (.agg [.lit (.string text)]))) :: r) W) : ∃ t p, W.cell? ⟨8, 0, none⟩ = some (.iface t p) := by
 obtain ⟨a1, t1, hv1, _⟩ := laid_sentinel (g := 8) h (by kernel_rfl) (by kernel_rfl) underlying261 star_row underlying279 underlying281 rfl rfl jr (by kernel_rfl) (by kernel_rfl)
 exact ⟨_, _, World.var?_cell (g := 8) (by kernel_rfl) hv1 0⟩
theorem ran_of {text : List UInt8} {r : List (String × DataW Unit)} (h : laidMet prog (("strconv.ErrRange", .iface "*errors.errorString" (.ptr (.agg [.lit (.string text)]))) :: r) W) : ∃ t p, W.cell? ⟨9, 0, none⟩ = some (.iface t p) := by
 obtain ⟨a1, t1, hv1, _⟩ := laid_sentinel (g := 9) h (by kernel_rfl) (by kernel_rfl) underlying261 star_row underlying279 underlying281 rfl rfl jr (by kernel_rfl) (by kernel_rfl)
 exact ⟨_, _, World.var?_cell (g := 9) (by kernel_rfl) hv1 0⟩
theorem tabs_of (h1 : Lib.VarReads prog W "unicode/utf8.first" Lib.firstData) (h2 : Lib.VarReads prog W "unicode/utf8.acceptRanges" Lib.acceptData) : Lib.Utf8Tabs 1 2 W :=
 utf8Tabs_of_reads (ρ := Tryz.lays260_ren) { Tryz.lays260 with } ⟨by kernel_rfl, by kernel_rfl, by kernel_rfl, by kernel_rfl, by kernel_rfl, by kernel_rfl, by kernel_rfl⟩ h1 h2
theorem wrap_of {H : Type} {enc : TypeId × Value → H} {os : Os} {f : FuncId} {fn : Func} {s : ChangeSpec} {X : World → Array Value → Prop}
  (hX : ∀ (w w' : World) (args : Array Value), w.heap = w'.heap → X w args → X w' args)
  (own : ownKnob prog.godebug = none) (started : os.Started) (noInit : prog.inits.idxOf? f = none) (hfn : prog.funcs[f]? = some fn)
  (witness : ∃ (w : World) (tape : Tape) (i : Input), w.os = os ∧ (w.forCall tape i).Shaped Tryz.checked.prog ∧ i.vars = [] ∧ Input.okWide Tryz.checked.prog (w.forCall tape i) .any w.heap.size f i ∧
   ((s.pre enc Tryz.checked.prog fn [] false (w.forCall tape i).memory i.args ∧ X (w.forCall tape i).memory i.args) ∧ sizedMet enc Tryz.checked.prog fn (OpenSpec.ofChange s) false (w.forCall tape i).memory i.args) ∧ ({} : Assume).holds Tryz.checked.prog (lone (Frame.enter Tryz.checked.prog f i.args .normal) [] (w.forCall tape i)))
  (contract : ∀ (W : World) (base : Nat) (args : Array Value) (ds gs : List (DataW H)) (before : List MemPlace),
   (∀ (j : Nat) t v, fn.params[j]? = some t → args[j]? = some v → Value.okWide prog W .any base t v) →
   DataW.Whole enc prog fn.params.toList s.vars false W args.toList ds gs before → X W args → W.ShapedOpen prog →
   Calls prog f args W fun e W' => ∃ v, e = .returned v ∧ s.post enc prog fn false true false false W args v W') :
  ReturnsInHanded {} Tryz.checked os f .any (fun w args => (s.pre enc prog fn [] false w args ∧ X w args) ∧ sizedMet enc prog fn (OpenSpec.ofChange s) false w args) (s.post enc prog fn false true false false) := by
 refine returnsInHanded_of_calls own started noInit witness fun w tape i _ hsh _ hok hpre _ => ?_
 obtain ⟨_, _, _, fn', hfn', _, _, _, _, hval⟩ := hok
 have e : fn' = fn := Option.some.inj (hfn'.symm.trans hfn)
 rw [e] at hval
 obtain ⟨⟨⟨ds, gs, before, hw, _⟩, hx⟩, _⟩ := hpre
 exact (contract _ _ i.args ds gs before hval (DataW.Whole.of_heap (w' := w.forCall tape i) (by rfl) hw) (hX _ _ _ (by rfl) hx) hsh).mono fun e W' ⟨v, he, hp⟩ => by rw [he]; exact ChangeSpec.post_blind hp
end Go.Proofs.YtoicilchhkndmaaGreatDoor
namespace Go.Proofs.YtoicilchhkndmaaGreatDoor
open Go.Proofs.Tryz
open Go.Proofs Go.Lib Go.Shelf Go.RowKit Go.WideShapes
set_option maxRecDepth 20000
variable {W : World}
theorem fit64 {n : Int} (h : (Lit.int .i64 n).wf = true) : is64 n := by simpa [is64, Lit.wf, IntKind.min, IntKind.max, IntKind.signed, IntKind.bits] using h
theorem decArg : Dec prog W 50 encArg (fun a => is64 a.int) := fun en held fuel cs x h => by
 obtain ⟨xs, n, _, _, hl, hxl, hf⟩ := DataW.trod_struct j8 h
 have hl : cs.length = 3 := hl.trans (by kernel_rfl)
 have hxl : xs.length = 3 := hxl
 obtain ⟨a, ha, ra⟩ := yx (o := 0) (k := 1) (hf 0 _ rfl) (Dec.int underlying2) (by omega) rfl (by kernel_rfl)
 obtain ⟨b, _, rb⟩ := yx (o := 1) (k := 1) (hf 1 _ rfl) (Dec.bool Zc) (by omega) rfl (by kernel_rfl)
 obtain ⟨c, _, rc⟩ := yx (o := 2) (k := 1) (hf 2 _ rfl) decI (by omega) rfl (by kernel_rfl)
 exact ⟨⟨a, b, c⟩, fit64 ha, yr (o := 0) ra (yr rb (yr rc (RepL.fin hl)))⟩
theorem decArr : Dec prog W 37 encArr (fun r => ∀ x ∈ r, is64 x) := fun en held fuel cs x h => by
 obtain ⟨l, hl, r⟩ := Dec.slice (k := 1) ji (Dec.int underlying2) (by kernel_rfl) (by decide) en held fuel cs x h
 exact ⟨l, fun x hx => fit64 (hl.1 x hx), r⟩
theorem decIn : Dec prog W 30 encIn (fun i => in64 i ∧ i.args.length ≤ 9223372036854775807 ∧ i.arrays.length ≤ 9223372036854775807) := fun en held fuel cs x h => by
 obtain ⟨xs, n, _, _, hl, hxl, hf⟩ := DataW.trod_struct Z2 h
 have hl : cs.length = 2 := hl.trans (by kernel_rfl)
 have hxl : xs.length = 2 := hxl
 obtain ⟨a, ha, ra⟩ := yx (o := 0) (k := 1) (hf 0 _ rfl) (Dec.slice (k := 3) j5 decArg (by kernel_rfl) (by decide)) (by omega) rfl (by kernel_rfl)
 obtain ⟨b, hb, rb⟩ := yx (o := 1) (k := 1) (hf 1 _ rfl) (Dec.slice (k := 1) jn decArr (by kernel_rfl) (by decide)) (by omega) rfl (by kernel_rfl)
 exact ⟨⟨a, b⟩, ⟨⟨ha.1, hb.1⟩, ha.2, hb.2⟩, yr (o := 0) ra (yr rb (RepL.fin hl))⟩
end Go.Proofs.YtoicilchhkndmaaGreatDoor
namespace Go.Proofs.YtoicilchhkndmaaGreatDoor
open Go.Proofs.Tryz
open Go.Proofs Go.Lib Go.Shelf Go.RowKit Go.WideShapes
set_option maxRecDepth 20000
variable {W : World}
theorem of_u16 {H : Type} {enc : TypeId × Value → H} {held : Bool} {T : TypeId} {base : Nat} {v : Value} {d : DataW H} {p : List MemPlace} (ht : prog.underlying T = some (.int .u16))
  (hv : Value.okWide prog W .any base T v) (h : DataW.Trod enc prog W 0 (fun _ => true) held T v d p) : ∃ n : Int, (0 ≤ n ∧ n ≤ 65535) ∧ v = .int .u16 n := by
 obtain ⟨n, rfl⟩ := okWide_int ht hv
 obtain ⟨fuel, h⟩ := h
 obtain ⟨m, h1, h2⟩ := Dec.int ht enc held fuel _ _ h
 obtain ⟨v, _, e, h2, h3⟩ := h2
 cases e
 cases h2
 exact ⟨n, by simpa [Lit.wf, IntKind.min, IntKind.max, IntKind.signed, IntKind.bits] using h1, rfl⟩
end Go.Proofs.YtoicilchhkndmaaGreatDoor
namespace Go.Proofs.YtoicilchhkndmaaGreatDoor
open Go.Proofs.Tryz
open Go.Proofs
theorem fMay : prog.mayEnter = true := by kernel_rfl
theorem fLift : (Rows.runMoreRow.lifted == prog.liftsFinal) = true := by kernel_rfl
theorem fMake : (prog.make == some Rows.runMoreRow.make) = true := by kernel_rfl
theorem fLaid : laidOutB prog = true := by kernel_rfl
theorem fRow : mapsRowed prog = true := by kernel_rfl
theorem fStop : (prog.stops == []) = true := by kernel_rfl
theorem fKnob : (prog.stopKnobs == []) = true := by kernel_rfl
theorem fKeys : (Rows.runMoreRow.plainKeys == prog.plainKeys) = true := by kernel_rfl
theorem fHeard : prog.stopsHeard = true := by kernel_rfl
theorem gIn : (Rows.runMoreRow.inPlace == prog.inPlace 3) = true := by kernel_rfl
theorem gUn : (Rows.runMoreRow.unfollowed == prog.unfollowed 3) = true := by kernel_rfl
theorem gRec : (Rows.runMoreRow.recurses == prog.recurses 3) = true := by kernel_rfl
theorem gNam : (Rows.runMoreRow.named == prog.varsNamed 3) = true := by kernel_rfl
theorem closed : joinedFacts prog 3 Tryz.f3 Rows.runMoreSpec Rows.runMoreRow = true := by
 unfold joinedFacts
 rw [fLaid, fRow, fStop, fKnob, gIn, gUn, gRec, gNam, fKeys, fHeard, fMay, fLift, fMake]
 kernel_rfl
end Go.Proofs.YtoicilchhkndmaaGreatDoor
