/-
  DERIVED. GIVEN WITH THE SEED: THE CARDS: each row of YthphijnnbfjikaaGreatDoorRows.lean that lists a variable, with what it lists TIED to the program's text (the seventh form; the later family's looks); each row that meets fmt, with fmt's text TOLD by the authors' own Lean function (tested against real Go, not proved from fmt's source: count such statements apart). THE CARD IS WHAT COUNTS. Prove the row's statement (the work); the ties are given (YthphijnnbfjikaaGreatDoorTie.lean); close each card by the builder's one call (the guide's Derived/Test/ToyasCard.lean, 'card_holds'). Laid BY PROGRAM, IN A SANDBOX (cutbox-door.mjs). By AI agents, Wed Nov 11 2026. No macro, syntax, notation, axiom, sorry.
-/
import Derived.Test.YthphijnnbfjikaaGreatDoorRows
import GoSem.ClaimSeven
namespace Go.Proofs.YthphijnnbfjikaaGreatDoor
namespace Rows

/-- THE TIED CARD OF 'checkreinlaw22.RangesCount'. -/
def rangesCountCard : Claim7 := { stood := { row := rangesCountRow, standIns := [], harness := (true, "0d49e28a92c89877b49ad5476c3cf5ee590cbe0eea9f83547ac0dffc45f8f591"), looks := false }, kinds := [], alts := [], laidByText := true, laidKinds := [.data, .data, .data, .data, .pinned], laidTests := true, laidLooks := .later }
def RangesCountCardSaid : Prop := Claim7.holds Tryz.pinned (.plain (OpenSpec.ofChange rangesCountSpec)) rangesCountCard

/-- THE SECOND FORM's CARD OF 'checkreinlaw22.RangesCount'. -/
def rangesCountUptoCard : Claim7 := { stood := { row := rangesCountUptoRow, standIns := [], harness := (true, "0d49e28a92c89877b49ad5476c3cf5ee590cbe0eea9f83547ac0dffc45f8f591"), looks := false }, kinds := [], alts := [], laidByText := true, laidKinds := [.data, .data, .data, .data, .pinned], laidTests := true, laidLooks := .later }
def RangesCountUptoCardSaid : Prop := Claim7.holds Tryz.pinned (.plain (OpenSpec.upto rangesCountSpec)) rangesCountUptoCard
end Rows
end Go.Proofs.YthphijnnbfjikaaGreatDoor
