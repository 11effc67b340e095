/- What is asked of the program itself, of the law CanonAgain, fact for fact. No conditions. -/
import Derived.Test.YtbkgklpihnfnjaaGreatDoorJs
import Derived.Test.YtbkgklpihnfnjaaGreatDoorJn
import Derived.Lib.LaidU8
import Derived.Stop.LaidErr
import Derived.Shelf.Vars
import Derived.Handed
import Derived.Test.YtbkgklpihnfnjaaGreatDoorRows
import Derived.Test.YtbkgklpihnfnjaaGreatDoorChecked
import Derived.ProofKit
import Derived.JoinedOf
set_option linter.unusedVariables false
set_option linter.unusedSimpArgs false
set_option linter.unusedSectionVars false
namespace Go.Proofs.YtbkgklpihnfnjaaGreatDoor
open Go.Proofs.Tryz
open Go.Proofs Go.Lib Go.Shelf Go.RowKit Go.WideShapes
set_option maxRecDepth 20000
variable {W : World}
theorem len_of (h : W.ShapedOpen prog) : ∃ m, W.cell? ⟨3, 0, none⟩ = some (.int .i64 m) :=
 cell_of_shapedOpen_int (P := prog) (g := 3) (t := 3) (zero := #[.int .i64 0]) h (of_decide_eq_true (by kernel_rfl)) (by kernel_rfl) rfl (by kernel_rfl) (by kernel_rfl) Zg
theorem star_text : "*" ++ "errors.errorString" = "*errors.errorString" := by decide
theorem star_row (u : TypeId) (h : prog.typeName? 3 u = some "*errors.errorString") : u = 300 :=
 typeName_ptr_named (nm := "errors.errorString") (by rw [star_text]; kernel_rfl) (by kernel_rfl) (by decide) u (by rw [star_text]; exact h)
theorem syn_of {text : List UInt8} {r : List (String × DataW Unit)} (h : laidMet prog (("strconv.ErrSyntax", .iface "*errors.errorString" (.ptr (.agg [.lit (.string text)]))) :: r) W) : ∃ t p, W.cell? ⟨8, 0, none⟩ = some (.iface t p) := by
 obtain ⟨a1, t1, hv1, _⟩ := laid_sentinel (g := 8) h (by kernel_rfl) (by kernel_rfl) underlying90 star_row underlying300 underlying302 rfl rfl Z3 (by kernel_rfl) (by kernel_rfl)
 exact ⟨_, _, World.var?_cell (g := 8) (by kernel_rfl) hv1 0⟩
theorem ran_of {text : List UInt8} {r : List (String × DataW Unit)} (h : laidMet prog (("strconv.ErrRange", .iface "*errors.errorString" (.ptr (.agg [.lit (.string text)]))) :: r) W) : ∃ t p, W.cell? ⟨9, 0, none⟩ = some (.iface t p) := by
 obtain ⟨a1, t1, hv1, _⟩ := laid_sentinel (g := 9) h (by kernel_rfl) (by kernel_rfl) underlying90 star_row underlying300 underlying302 rfl rfl Z3 (by kernel_rfl) (by kernel_rfl)
 exact ⟨_, _, World.var?_cell (g := 9) (by kernel_rfl) hv1 0⟩
theorem tabs_of (h1 : Lib.VarReads prog W "unicode/utf8.first" Lib.firstData) (h2 : Lib.VarReads prog W "unicode/utf8.acceptRanges" Lib.acceptData) : Lib.Utf8Tabs 0 1 W :=
 utf8Tabs_of_reads (ρ := Tryz.lays260_ren) { Tryz.lays260 with } ⟨by kernel_rfl, by kernel_rfl, by kernel_rfl, by kernel_rfl, by kernel_rfl, by kernel_rfl, by kernel_rfl⟩ h1 h2
theorem wrap_of {H : Type} {enc : TypeId × Value → H} {os : Os} {f : FuncId} {fn : Func} {s : ChangeSpec} {X : World → Array Value → Prop}
  (hX : ∀ (w w' : World) (args : Array Value), w.heap = w'.heap → X w args → X w' args)
  (own : ownKnob prog.godebug = none) (started : os.Started) (noInit : prog.inits.idxOf? f = none) (hfn : prog.funcs[f]? = some fn)
  (witness : ∃ (w : World) (tape : Tape) (i : Input), w.os = os ∧ (w.forCall tape i).Shaped Tryz.checked.prog ∧ i.vars = [] ∧ Input.okWide Tryz.checked.prog (w.forCall tape i) .any w.heap.size f i ∧
   ((s.pre enc Tryz.checked.prog fn [] false (w.forCall tape i).memory i.args ∧ X (w.forCall tape i).memory i.args) ∧ sizedMet enc Tryz.checked.prog fn (OpenSpec.ofChange s) false (w.forCall tape i).memory i.args) ∧ ({} : Assume).holds Tryz.checked.prog (lone (Frame.enter Tryz.checked.prog f i.args .normal) [] (w.forCall tape i)))
  (contract : ∀ (W : World) (base : Nat) (args : Array Value) (ds gs : List (DataW H)) (before : List MemPlace),
   (∀ (j : Nat) t v, fn.params[j]? = some t → args[j]? = some v → Value.okWide prog W .any base t v) →
   DataW.Whole enc prog fn.params.toList s.vars false W args.toList ds gs before → X W args → W.ShapedOpen prog →
   Calls prog f args W fun e W' => ∃ v, e = .returned v ∧ s.post enc prog fn false true false false W args v W') :
  ReturnsInHanded {} Tryz.checked os f .any (fun w args => (s.pre enc prog fn [] false w args ∧ X w args) ∧ sizedMet enc prog fn (OpenSpec.ofChange s) false w args) (s.post enc prog fn false true false false) := by
 refine returnsInHanded_of_calls own started noInit witness fun w tape i _ hsh _ hok hpre _ => ?_
 obtain ⟨_, _, _, fn', hfn', _, _, _, _, hval⟩ := hok
 have e : fn' = fn := Option.some.inj (hfn'.symm.trans hfn)
 rw [e] at hval
 obtain ⟨⟨⟨ds, gs, before, hw, _⟩, hx⟩, _⟩ := hpre
 exact (contract _ _ i.args ds gs before hval (DataW.Whole.of_heap (w' := w.forCall tape i) (by rfl) hw) (hX _ _ _ (by rfl) hx) hsh).mono fun e W' ⟨v, he, hp⟩ => by rw [he]; exact ChangeSpec.post_blind hp
end Go.Proofs.YtbkgklpihnfnjaaGreatDoor
namespace Go.Proofs.YtbkgklpihnfnjaaGreatDoor
open Go.Proofs.Tryz
open Go.Proofs
theorem fMay : prog.mayEnter = true := by kernel_rfl
theorem fLift : (Rows.canonAgainRow.lifted == prog.liftsFinal) = true := by kernel_rfl
theorem fMake : (prog.make == some Rows.canonAgainRow.make) = true := by kernel_rfl
theorem fLaid : laidOutB prog = true := by kernel_rfl
theorem fRow : mapsRowed prog = true := by kernel_rfl
theorem fStop : (prog.stops == []) = true := by kernel_rfl
theorem fKnob : (prog.stopKnobs == []) = true := by kernel_rfl
theorem fKeys : (Rows.canonAgainRow.plainKeys == prog.plainKeys) = true := by kernel_rfl
theorem fHeard : prog.stopsHeard = true := by kernel_rfl
theorem gIn : (Rows.canonAgainRow.inPlace == prog.inPlace 3) = true := by kernel_rfl
theorem gUn : (Rows.canonAgainRow.unfollowed == prog.unfollowed 3) = true := by kernel_rfl
theorem gRec : (Rows.canonAgainRow.recurses == prog.recurses 3) = true := by kernel_rfl
theorem gNam : (Rows.canonAgainRow.named == prog.varsNamed 3) = true := by kernel_rfl
theorem closed : joinedFacts prog 3 Tryz.f3 Rows.canonAgainSpec Rows.canonAgainRow = true := by
 unfold joinedFacts
 rw [fLaid, fRow, fStop, fKnob, gIn, gUn, gRec, gNam, fKeys, fHeard, fMay, fLift, fMake]
 kernel_rfl
end Go.Proofs.YtbkgklpihnfnjaaGreatDoor
