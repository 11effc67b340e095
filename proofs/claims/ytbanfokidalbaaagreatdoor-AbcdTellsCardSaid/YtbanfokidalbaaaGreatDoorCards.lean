/-
  DERIVED. GIVEN WITH THE SEED: THE CARDS: each row of YtbanfokidalbaaaGreatDoorRows.lean that lists a variable, with what it lists TIED to the program's text (the seventh form; the later family's looks); each row that meets fmt, with fmt's text TOLD by the authors' own Lean function (tested against real Go, not proved from fmt's source: count such statements apart). THE CARD IS WHAT COUNTS. Prove the row's statement (the work); the ties are given (YtbanfokidalbaaaGreatDoorTie.lean); close each card by the builder's one call (the guide's Derived/Test/ToyasCard.lean, 'card_holds'). Laid BY PROGRAM, IN A SANDBOX (cutbox-door.mjs). By AI agents, Wed Nov 11 2026. No macro, syntax, notation, axiom, sorry.
-/
import Derived.Test.YtbanfokidalbaaaGreatDoorRows
import GoSem.ClaimSeven
namespace Go.Proofs.YtbanfokidalbaaaGreatDoor
namespace Rows

/-- THE TIED CARD OF 'checkreinlaw24.AbcdTells'. -/
def abcdTellsCard : Claim7 := { stood := { row := abcdTellsRow, standIns := [], harness := (true, "1e547eb4fe8847e68b0de0a7a3d691173ca884778bedcf77cbd3747bd01e15b8"), looks := false }, kinds := [], alts := [], laidByText := true, laidKinds := [.data, .data, .data, .data, .pinned], laidTests := true, laidLooks := .later }
def AbcdTellsCardSaid : Prop := Claim7.holds Tryz.pinned (.plain (OpenSpec.ofChange abcdTellsSpec)) abcdTellsCard

/-- THE SECOND FORM's CARD OF 'checkreinlaw24.AbcdTells'. -/
def abcdTellsUptoCard : Claim7 := { stood := { row := abcdTellsUptoRow, standIns := [], harness := (true, "1e547eb4fe8847e68b0de0a7a3d691173ca884778bedcf77cbd3747bd01e15b8"), looks := false }, kinds := [], alts := [], laidByText := true, laidKinds := [.data, .data, .data, .data, .pinned], laidTests := true, laidLooks := .later }
def AbcdTellsUptoCardSaid : Prop := Claim7.holds Tryz.pinned (.plain (OpenSpec.upto abcdTellsSpec)) abcdTellsUptoCard
end Rows
end Go.Proofs.YtbanfokidalbaaaGreatDoor
