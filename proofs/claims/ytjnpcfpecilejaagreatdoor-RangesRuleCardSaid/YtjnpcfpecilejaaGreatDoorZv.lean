/- What is asked of the program itself, of the law RangesRule, fact for fact. No conditions. -/
import Derived.Test.YtjnpcfpecilejaaGreatDoorRows
import Derived.Test.YtjnpcfpecilejaaGreatDoorChecked
import Derived.ProofKit
import Derived.JoinedOf
set_option linter.unusedVariables false
set_option linter.unusedSimpArgs false
set_option linter.unusedSectionVars false
namespace Go.Proofs.YtjnpcfpecilejaaGreatDoor
open Go.Proofs
theorem fMay : Tryz.prog.mayEnter = true := by kernel_rfl
theorem fLift : (Rows.rangesRuleRow.lifted == Tryz.prog.liftsFinal) = true := by kernel_rfl
theorem fMake : (Tryz.prog.make == some Rows.rangesRuleRow.make) = true := by kernel_rfl
theorem fLaid : laidOutB Tryz.prog = true := by kernel_rfl
theorem fRow : mapsRowed Tryz.prog = true := by kernel_rfl
theorem fStop : (Tryz.prog.stops == []) = true := by kernel_rfl
theorem fKnob : (Tryz.prog.stopKnobs == []) = true := by kernel_rfl
theorem fKeys : (Rows.rangesRuleRow.plainKeys == Tryz.prog.plainKeys) = true := by kernel_rfl
theorem fHeard : Tryz.prog.stopsHeard = true := by kernel_rfl
theorem gIn : (Rows.rangesRuleRow.inPlace == Tryz.prog.inPlace 8) = true := by kernel_rfl
theorem gUn : (Rows.rangesRuleRow.unfollowed == Tryz.prog.unfollowed 8) = true := by kernel_rfl
theorem gRec : (Rows.rangesRuleRow.recurses == Tryz.prog.recurses 8) = true := by kernel_rfl
theorem gNam : (Rows.rangesRuleRow.named == Tryz.prog.varsNamed 8) = true := by kernel_rfl
theorem closed : joinedFacts Tryz.prog 8 Tryz.f8 Rows.rangesRuleSpec Rows.rangesRuleRow = true := by
 unfold joinedFacts
 rw [fLaid, fRow, fStop, fKnob, gIn, gUn, gRec, gNam, fKeys, fHeard, fMay, fLift, fMake]
 kernel_rfl
end Go.Proofs.YtjnpcfpecilejaaGreatDoor
