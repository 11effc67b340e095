/-
  DERIVED. GIVEN WITH THE SEED: THE CARDS: each row of YtiojekbkamegdaaGreatDoorRows.lean that lists a variable, with what it lists TIED to the program's text (the seventh form; the later family's looks); each row that meets fmt, with fmt's text TOLD by the authors' own Lean function (tested against real Go, not proved from fmt's source: count such statements apart). THE CARD IS WHAT COUNTS. Prove the row's statement (the work); the ties are given (YtiojekbkamegdaaGreatDoorTie.lean); close each card by the builder's one call (the guide's Derived/Test/ToyasCard.lean, 'card_holds'). Laid BY PROGRAM, IN A SANDBOX (cutbox-door.mjs). By AI agents, Wed Nov 11 2026. No macro, syntax, notation, axiom, sorry.
-/
import Derived.Test.YtiojekbkamegdaaGreatDoorRows
import GoSem.ClaimSeven
namespace Go.Proofs.YtiojekbkamegdaaGreatDoor
namespace Rows

/-- THE TIED CARD OF 'checkreinlaw31.NumberTells'. -/
def numberTellsCard : Claim7 := { stood := { row := numberTellsRow, standIns := [], harness := (true, "33c61e668327f0f358a89253df0fab096c915865f12c1bb2cbc0f60206fda1dd"), looks := false }, kinds := [], alts := [], laidByText := true, laidKinds := [.data, .pinned], laidTests := true, laidLooks := .later }
def NumberTellsCardSaid : Prop := Claim7.holds Tryz.pinned (.plain (OpenSpec.ofChange numberTellsSpec)) numberTellsCard

/-- THE TIED CARD OF 'checkreinlaw31.NumberRuns'. -/
def numberRunsCard : Claim7 := { stood := { row := numberRunsRow, standIns := [], harness := (true, "33c61e668327f0f358a89253df0fab096c915865f12c1bb2cbc0f60206fda1dd"), looks := false }, kinds := [], alts := [], laidByText := true, laidKinds := [.data, .pinned], laidTests := true, laidLooks := .later }
def NumberRunsCardSaid : Prop := Claim7.holds Tryz.pinned (.plain (OpenSpec.ofChange numberRunsSpec)) numberRunsCard

/-- THE TIED CARD OF 'checkreinlaw31.NumberNone'. -/
def numberNoneCard : Claim7 := { stood := { row := numberNoneRow, standIns := [], harness := (true, "33c61e668327f0f358a89253df0fab096c915865f12c1bb2cbc0f60206fda1dd"), looks := false }, kinds := [], alts := [], laidByText := true, laidKinds := [.data, .pinned], laidTests := true, laidLooks := .later }
def NumberNoneCardSaid : Prop := Claim7.holds Tryz.pinned (.plain (OpenSpec.ofChange numberNoneSpec)) numberNoneCard

/-- THE TIED CARD OF 'checkreinlaw36.PreDiamond'. -/
def preDiamondCard : Claim7 := { stood := { row := preDiamondRow, standIns := [], harness := (true, "33c61e668327f0f358a89253df0fab096c915865f12c1bb2cbc0f60206fda1dd"), looks := false }, kinds := [], alts := [], laidByText := true, laidKinds := [.data, .pinned], laidTests := true, laidLooks := .later }
def PreDiamondCardSaid : Prop := Claim7.holds Tryz.pinned (.plain (OpenSpec.ofChange preDiamondSpec)) preDiamondCard

/-- THE TIED CARD OF 'checkreinlaw23.DiffHold'. -/
def diffHoldCard : Claim7 := { stood := { row := diffHoldRow, standIns := [], harness := (true, "33c61e668327f0f358a89253df0fab096c915865f12c1bb2cbc0f60206fda1dd"), looks := false }, kinds := [], alts := [], laidByText := true, laidKinds := [.data, .pinned], laidTests := true, laidLooks := .later }
def DiffHoldCardSaid : Prop := Claim7.holds Tryz.pinned (.plain (OpenSpec.ofChange diffHoldSpec)) diffHoldCard

/-- THE TIED CARD OF 'checkreinlaw27.TableRangesHold'. -/
def tableRangesHoldCard : Claim7 := { stood := { row := tableRangesHoldRow, standIns := [], harness := (true, "33c61e668327f0f358a89253df0fab096c915865f12c1bb2cbc0f60206fda1dd"), looks := false }, kinds := [], alts := [], laidByText := true, laidKinds := [.data, .pinned], laidTests := true, laidLooks := .later }
def TableRangesHoldCardSaid : Prop := Claim7.holds Tryz.pinned (.plain (OpenSpec.ofChange tableRangesHoldSpec)) tableRangesHoldCard

/-- THE TIED CARD OF 'checkreinlaw22.RangesHold'. -/
def rangesHoldCard : Claim7 := { stood := { row := rangesHoldRow, standIns := [], harness := (true, "33c61e668327f0f358a89253df0fab096c915865f12c1bb2cbc0f60206fda1dd"), looks := false }, kinds := [], alts := [], laidByText := true, laidKinds := [.data, .pinned], laidTests := true, laidLooks := .later }
def RangesHoldCardSaid : Prop := Claim7.holds Tryz.pinned (.plain (OpenSpec.ofChange rangesHoldSpec)) rangesHoldCard

/-- THE SECOND FORM's CARD OF 'checkreinlaw31.NumberTells'. -/
def numberTellsUptoCard : Claim7 := { stood := { row := numberTellsUptoRow, standIns := [], harness := (true, "33c61e668327f0f358a89253df0fab096c915865f12c1bb2cbc0f60206fda1dd"), looks := false }, kinds := [], alts := [], laidByText := true, laidKinds := [.data, .pinned], laidTests := true, laidLooks := .later }
def NumberTellsUptoCardSaid : Prop := Claim7.holds Tryz.pinned (.plain (OpenSpec.upto numberTellsSpec)) numberTellsUptoCard

/-- THE SECOND FORM's CARD OF 'checkreinlaw31.NumberRuns'. -/
def numberRunsUptoCard : Claim7 := { stood := { row := numberRunsUptoRow, standIns := [], harness := (true, "33c61e668327f0f358a89253df0fab096c915865f12c1bb2cbc0f60206fda1dd"), looks := false }, kinds := [], alts := [], laidByText := true, laidKinds := [.data, .pinned], laidTests := true, laidLooks := .later }
def NumberRunsUptoCardSaid : Prop := Claim7.holds Tryz.pinned (.plain (OpenSpec.upto numberRunsSpec)) numberRunsUptoCard

/-- THE SECOND FORM's CARD OF 'checkreinlaw31.NumberNone'. -/
def numberNoneUptoCard : Claim7 := { stood := { row := numberNoneUptoRow, standIns := [], harness := (true, "33c61e668327f0f358a89253df0fab096c915865f12c1bb2cbc0f60206fda1dd"), looks := false }, kinds := [], alts := [], laidByText := true, laidKinds := [.data, .pinned], laidTests := true, laidLooks := .later }
def NumberNoneUptoCardSaid : Prop := Claim7.holds Tryz.pinned (.plain (OpenSpec.upto numberNoneSpec)) numberNoneUptoCard

/-- THE SECOND FORM's CARD OF 'checkreinlaw36.PreDiamond'. -/
def preDiamondUptoCard : Claim7 := { stood := { row := preDiamondUptoRow, standIns := [], harness := (true, "33c61e668327f0f358a89253df0fab096c915865f12c1bb2cbc0f60206fda1dd"), looks := false }, kinds := [], alts := [], laidByText := true, laidKinds := [.data, .pinned], laidTests := true, laidLooks := .later }
def PreDiamondUptoCardSaid : Prop := Claim7.holds Tryz.pinned (.plain (OpenSpec.upto preDiamondSpec)) preDiamondUptoCard

/-- THE SECOND FORM's CARD OF 'checkreinlaw23.DiffHold'. -/
def diffHoldUptoCard : Claim7 := { stood := { row := diffHoldUptoRow, standIns := [], harness := (true, "33c61e668327f0f358a89253df0fab096c915865f12c1bb2cbc0f60206fda1dd"), looks := false }, kinds := [], alts := [], laidByText := true, laidKinds := [.data, .pinned], laidTests := true, laidLooks := .later }
def DiffHoldUptoCardSaid : Prop := Claim7.holds Tryz.pinned (.plain (OpenSpec.upto diffHoldSpec)) diffHoldUptoCard

/-- THE SECOND FORM's CARD OF 'checkreinlaw27.TableRangesHold'. -/
def tableRangesHoldUptoCard : Claim7 := { stood := { row := tableRangesHoldUptoRow, standIns := [], harness := (true, "33c61e668327f0f358a89253df0fab096c915865f12c1bb2cbc0f60206fda1dd"), looks := false }, kinds := [], alts := [], laidByText := true, laidKinds := [.data, .pinned], laidTests := true, laidLooks := .later }
def TableRangesHoldUptoCardSaid : Prop := Claim7.holds Tryz.pinned (.plain (OpenSpec.upto tableRangesHoldSpec)) tableRangesHoldUptoCard

/-- THE SECOND FORM's CARD OF 'checkreinlaw22.RangesHold'. -/
def rangesHoldUptoCard : Claim7 := { stood := { row := rangesHoldUptoRow, standIns := [], harness := (true, "33c61e668327f0f358a89253df0fab096c915865f12c1bb2cbc0f60206fda1dd"), looks := false }, kinds := [], alts := [], laidByText := true, laidKinds := [.data, .pinned], laidTests := true, laidLooks := .later }
def RangesHoldUptoCardSaid : Prop := Claim7.holds Tryz.pinned (.plain (OpenSpec.upto rangesHoldSpec)) rangesHoldUptoCard
end Rows
end Go.Proofs.YtiojekbkamegdaaGreatDoor
