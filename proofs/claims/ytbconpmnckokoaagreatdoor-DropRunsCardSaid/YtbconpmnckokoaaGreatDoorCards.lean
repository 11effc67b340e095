/-
  DERIVED. GIVEN WITH THE SEED: THE CARDS: each row of YtbconpmnckokoaaGreatDoorRows.lean that lists a variable, with what it lists TIED to the program's text (the seventh form; the later family's looks); each row that meets fmt, with fmt's text TOLD by the authors' own Lean function (tested against real Go, not proved from fmt's source: count such statements apart). THE CARD IS WHAT COUNTS. Prove the row's statement (the work); the ties are given (YtbconpmnckokoaaGreatDoorTie.lean); close each card by the builder's one call (the guide's Derived/Test/ToyasCard.lean, 'card_holds'). Laid BY PROGRAM, IN A SANDBOX (cutbox-door.mjs). By AI agents, Wed Nov 11 2026. No macro, syntax, notation, axiom, sorry.
-/
import Derived.Test.YtbconpmnckokoaaGreatDoorRows
import GoSem.ClaimSeven
namespace Go.Proofs.YtbconpmnckokoaaGreatDoor
namespace Rows

/-- THE TIED CARD OF 'checkreinlaw29.DropTells'. -/
def dropTellsCard : Claim7 := { stood := { row := dropTellsRow, standIns := [], harness := (true, "2ee67a248ffd352417cca398e5c194ebc6942eb0b6abbdc36c57bfa9ba045ec1"), looks := false }, kinds := [], alts := [], laidByText := true, laidKinds := [.data, .pinned], laidTests := true, laidLooks := .later }
def DropTellsCardSaid : Prop := Claim7.holds Tryz.pinned (.plain (OpenSpec.ofChange dropTellsSpec)) dropTellsCard

/-- THE TIED CARD OF 'checkreinlaw29.DropRuns'. -/
def dropRunsCard : Claim7 := { stood := { row := dropRunsRow, standIns := [], harness := (true, "2ee67a248ffd352417cca398e5c194ebc6942eb0b6abbdc36c57bfa9ba045ec1"), looks := false }, kinds := [], alts := [], laidByText := true, laidKinds := [.data, .pinned], laidTests := true, laidLooks := .later }
def DropRunsCardSaid : Prop := Claim7.holds Tryz.pinned (.plain (OpenSpec.ofChange dropRunsSpec)) dropRunsCard

/-- THE SECOND FORM's CARD OF 'checkreinlaw29.DropTells'. -/
def dropTellsUptoCard : Claim7 := { stood := { row := dropTellsUptoRow, standIns := [], harness := (true, "2ee67a248ffd352417cca398e5c194ebc6942eb0b6abbdc36c57bfa9ba045ec1"), looks := false }, kinds := [], alts := [], laidByText := true, laidKinds := [.data, .pinned], laidTests := true, laidLooks := .later }
def DropTellsUptoCardSaid : Prop := Claim7.holds Tryz.pinned (.plain (OpenSpec.upto dropTellsSpec)) dropTellsUptoCard

/-- THE SECOND FORM's CARD OF 'checkreinlaw29.DropRuns'. -/
def dropRunsUptoCard : Claim7 := { stood := { row := dropRunsUptoRow, standIns := [], harness := (true, "2ee67a248ffd352417cca398e5c194ebc6942eb0b6abbdc36c57bfa9ba045ec1"), looks := false }, kinds := [], alts := [], laidByText := true, laidKinds := [.data, .pinned], laidTests := true, laidLooks := .later }
def DropRunsUptoCardSaid : Prop := Claim7.holds Tryz.pinned (.plain (OpenSpec.upto dropRunsSpec)) dropRunsUptoCard
end Rows
end Go.Proofs.YtbconpmnckokoaaGreatDoor
