/-
  DERIVED. GIVEN WITH THE SEED: THE CARDS: each row of YtbbonnfjealmpaaGreatDoorRows.lean that lists a variable, with what it lists TIED to the program's text (the seventh form; the later family's looks); each row that meets fmt, with fmt's text TOLD by the authors' own Lean function (tested against real Go, not proved from fmt's source: count such statements apart). THE CARD IS WHAT COUNTS. Prove the row's statement (the work); the ties are given (YtbbonnfjealmpaaGreatDoorTie.lean); close each card by the builder's one call (the guide's Derived/Test/ToyasCard.lean, 'card_holds'). Laid BY PROGRAM, IN A SANDBOX (cutbox-door.mjs). By AI agents, Wed Nov 11 2026. No macro, syntax, notation, axiom, sorry.
-/
import Derived.Test.YtbbonnfjealmpaaGreatDoorRows
import GoSem.ClaimSeven
namespace Go.Proofs.YtbbonnfjealmpaaGreatDoor
namespace Rows

/-- THE TIED CARD OF 'checkreinlaw23.DiffHold'. -/
def diffHoldCard : Claim7 := { stood := { row := diffHoldRow, standIns := [], harness := (true, "8eac1b4af91aec170571058b5eadc7dce020872f1bf59c2b4ceef612bbbdb06a"), looks := false }, kinds := [], alts := [], laidByText := true, laidKinds := [.data, .pinned], laidTests := true, laidLooks := .later }
def DiffHoldCardSaid : Prop := Claim7.holds Tryz.pinned (.plain (OpenSpec.ofChange diffHoldSpec)) diffHoldCard

/-- THE TIED CARD OF 'checkreinlaw27.TableRangesHold'. -/
def tableRangesHoldCard : Claim7 := { stood := { row := tableRangesHoldRow, standIns := [], harness := (true, "8eac1b4af91aec170571058b5eadc7dce020872f1bf59c2b4ceef612bbbdb06a"), looks := false }, kinds := [], alts := [], laidByText := true, laidKinds := [.data, .pinned], laidTests := true, laidLooks := .later }
def TableRangesHoldCardSaid : Prop := Claim7.holds Tryz.pinned (.plain (OpenSpec.ofChange tableRangesHoldSpec)) tableRangesHoldCard

/-- THE TIED CARD OF 'checkreinlaw22.RangesHold'. -/
def rangesHoldCard : Claim7 := { stood := { row := rangesHoldRow, standIns := [], harness := (true, "8eac1b4af91aec170571058b5eadc7dce020872f1bf59c2b4ceef612bbbdb06a"), looks := false }, kinds := [], alts := [], laidByText := true, laidKinds := [.data, .pinned], laidTests := true, laidLooks := .later }
def RangesHoldCardSaid : Prop := Claim7.holds Tryz.pinned (.plain (OpenSpec.ofChange rangesHoldSpec)) rangesHoldCard

/-- THE SECOND FORM's CARD OF 'checkreinlaw23.DiffHold'. -/
def diffHoldUptoCard : Claim7 := { stood := { row := diffHoldUptoRow, standIns := [], harness := (true, "8eac1b4af91aec170571058b5eadc7dce020872f1bf59c2b4ceef612bbbdb06a"), looks := false }, kinds := [], alts := [], laidByText := true, laidKinds := [.data, .pinned], laidTests := true, laidLooks := .later }
def DiffHoldUptoCardSaid : Prop := Claim7.holds Tryz.pinned (.plain (OpenSpec.upto diffHoldSpec)) diffHoldUptoCard

/-- THE SECOND FORM's CARD OF 'checkreinlaw27.TableRangesHold'. -/
def tableRangesHoldUptoCard : Claim7 := { stood := { row := tableRangesHoldUptoRow, standIns := [], harness := (true, "8eac1b4af91aec170571058b5eadc7dce020872f1bf59c2b4ceef612bbbdb06a"), looks := false }, kinds := [], alts := [], laidByText := true, laidKinds := [.data, .pinned], laidTests := true, laidLooks := .later }
def TableRangesHoldUptoCardSaid : Prop := Claim7.holds Tryz.pinned (.plain (OpenSpec.upto tableRangesHoldSpec)) tableRangesHoldUptoCard

/-- THE SECOND FORM's CARD OF 'checkreinlaw22.RangesHold'. -/
def rangesHoldUptoCard : Claim7 := { stood := { row := rangesHoldUptoRow, standIns := [], harness := (true, "8eac1b4af91aec170571058b5eadc7dce020872f1bf59c2b4ceef612bbbdb06a"), looks := false }, kinds := [], alts := [], laidByText := true, laidKinds := [.data, .pinned], laidTests := true, laidLooks := .later }
def RangesHoldUptoCardSaid : Prop := Claim7.holds Tryz.pinned (.plain (OpenSpec.upto rangesHoldSpec)) rangesHoldUptoCard
end Rows
end Go.Proofs.YtbbonnfjealmpaaGreatDoor
