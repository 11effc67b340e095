/-
  DERIVED. GIVEN WITH THE SEED: THE CARDS: each row of YtoicilchhkndmaaGreatDoorRows.lean that lists a variable, with what it lists TIED to the program's text (the seventh form; the later family's looks); each row that meets fmt, with fmt's text TOLD by the authors' own Lean function (tested against real Go, not proved from fmt's source: count such statements apart). THE CARD IS WHAT COUNTS. Prove the row's statement (the work); the ties are given (YtoicilchhkndmaaGreatDoorTie.lean); close each card by the builder's one call (the guide's Derived/Test/ToyasCard.lean, 'card_holds'). Laid BY PROGRAM, IN A SANDBOX (cutbox-door.mjs). By AI agents, Wed Nov 11 2026. No macro, syntax, notation, axiom, sorry.
-/
import Derived.Test.YtoicilchhkndmaaGreatDoorRows
import GoSem.ClaimSeven
namespace Go.Proofs.YtoicilchhkndmaaGreatDoor
namespace Rows

/-- THE TIED CARD OF 'checkreinlaw09.RunMore'. -/
def runMoreCard : Claim7 := { stood := { row := runMoreRow, standIns := [], harness := (true, "cbd741073d26d424199f86c07f979cb7d5414a2604b65b3ba2e88e6784ae0b67"), looks := true }, kinds := [], alts := [], laidByText := true, laidKinds := [.data, .data, .data, .data, .sentinel, .sentinel, .data, .pinned, .pinned], laidTests := true, laidLooks := .later }
def RunMoreCardSaid : Prop := Claim7.holds Tryz.pinned (.plain (OpenSpec.ofChange runMoreSpec)) runMoreCard

/-- THE SECOND FORM's CARD OF 'checkreinlaw09.RunMore'. -/
def runMoreUptoCard : Claim7 := { stood := { row := runMoreUptoRow, standIns := [], harness := (true, "cbd741073d26d424199f86c07f979cb7d5414a2604b65b3ba2e88e6784ae0b67"), looks := true }, kinds := [], alts := [], laidByText := true, laidKinds := [.data, .data, .data, .data, .sentinel, .sentinel, .data, .pinned, .pinned], laidTests := true, laidLooks := .later }
def RunMoreUptoCardSaid : Prop := Claim7.holds Tryz.pinned (.plain (OpenSpec.upto runMoreSpec)) runMoreUptoCard
end Rows
end Go.Proofs.YtoicilchhkndmaaGreatDoor
