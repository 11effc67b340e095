/-
  DERIVED. GIVEN WITH THE SEED: THE CARDS: each row of YtbkgklpihnfnjaaGreatDoorRows.lean that lists a variable, with what it lists TIED to the program's text (the seventh form; the later family's looks); each row that meets fmt, with fmt's text TOLD by the authors' own Lean function (tested against real Go, not proved from fmt's source: count such statements apart). THE CARD IS WHAT COUNTS. Prove the row's statement (the work); the ties are given (YtbkgklpihnfnjaaGreatDoorTie.lean); close each card by the builder's one call (the guide's Derived/Test/ToyasCard.lean, 'card_holds'). Laid BY PROGRAM, IN A SANDBOX (cutbox-door.mjs). By AI agents, Wed Nov 11 2026. No macro, syntax, notation, axiom, sorry.
-/
import Derived.Test.YtbkgklpihnfnjaaGreatDoorRows
import GoSem.ClaimSeven
namespace Go.Proofs.YtbkgklpihnfnjaaGreatDoor
namespace Rows

/-- THE TIED CARD OF 'checkreinlaw18.CanonAgain'. -/
def canonAgainCard : Claim7 := { stood := { row := canonAgainRow, standIns := [], harness := (true, "9c5e90a729bcb76a6209e650374e22e41d67330a88ac7fbdebc503e7e65db47f"), looks := true }, kinds := [], alts := [], laidByText := true, laidKinds := [.data, .data, .data, .data, .sentinel, .sentinel, .data, .pinned, .pinned], laidTests := true, laidLooks := .later }
def CanonAgainCardSaid : Prop := Claim7.holds Tryz.pinned (.plain (OpenSpec.ofChange canonAgainSpec)) canonAgainCard

/-- THE SECOND FORM's CARD OF 'checkreinlaw18.CanonAgain'. -/
def canonAgainUptoCard : Claim7 := { stood := { row := canonAgainUptoRow, standIns := [], harness := (true, "9c5e90a729bcb76a6209e650374e22e41d67330a88ac7fbdebc503e7e65db47f"), looks := true }, kinds := [], alts := [], laidByText := true, laidKinds := [.data, .data, .data, .data, .sentinel, .sentinel, .data, .pinned, .pinned], laidTests := true, laidLooks := .later }
def CanonAgainUptoCardSaid : Prop := Claim7.holds Tryz.pinned (.plain (OpenSpec.upto canonAgainSpec)) canonAgainUptoCard
end Rows
end Go.Proofs.YtbkgklpihnfnjaaGreatDoor
