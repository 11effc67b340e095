/-
  DERIVED. GIVEN WITH THE SEED: THE CARDS: each row of YtdilpodccjlkgaaGreatDoorRows.lean that lists a variable, with what it lists TIED to the program's text (the seventh form; the later family's looks); each row that meets fmt, with fmt's text TOLD by the authors' own Lean function (tested against real Go, not proved from fmt's source: count such statements apart). THE CARD IS WHAT COUNTS. Prove the row's statement (the work); the ties are given (YtdilpodccjlkgaaGreatDoorTie.lean); close each card by the builder's one call (the guide's Derived/Test/ToyasCard.lean, 'card_holds'). Laid BY PROGRAM, IN A SANDBOX (cutbox-door.mjs). By AI agents, Wed Nov 11 2026. No macro, syntax, notation, axiom, sorry.
-/
import Derived.Test.YtdilpodccjlkgaaGreatDoorRows
import GoSem.ClaimSeven
namespace Go.Proofs.YtdilpodccjlkgaaGreatDoor
namespace Rows

/-- THE TIED CARD OF 'checkreinlaw26.WalkTells'. -/
def walkTellsCard : Claim7 := { stood := { row := walkTellsRow, standIns := [], harness := (true, "8a551e5c413a9a05443a06ef77cf0c2d50cf0cb43397da27d78fe00c7ca1925b"), looks := false }, kinds := [], alts := [], laidByText := true, laidKinds := [.data, .pinned], laidTests := true, laidLooks := .later }
def WalkTellsCardSaid : Prop := Claim7.holds Tryz.pinned (.plain (OpenSpec.ofChange walkTellsSpec)) walkTellsCard

/-- THE TIED CARD OF 'checkreinlaw26.WalkHolds'. -/
def walkHoldsCard : Claim7 := { stood := { row := walkHoldsRow, standIns := [], harness := (true, "8a551e5c413a9a05443a06ef77cf0c2d50cf0cb43397da27d78fe00c7ca1925b"), looks := false }, kinds := [], alts := [], laidByText := true, laidKinds := [.data, .pinned], laidTests := true, laidLooks := .later }
def WalkHoldsCardSaid : Prop := Claim7.holds Tryz.pinned (.plain (OpenSpec.ofChange walkHoldsSpec)) walkHoldsCard

/-- THE TIED CARD OF 'checkreinlaw26.WalkTwice'. -/
def walkTwiceCard : Claim7 := { stood := { row := walkTwiceRow, standIns := [], harness := (true, "8a551e5c413a9a05443a06ef77cf0c2d50cf0cb43397da27d78fe00c7ca1925b"), looks := false }, kinds := [], alts := [], laidByText := true, laidKinds := [.data, .pinned], laidTests := true, laidLooks := .later }
def WalkTwiceCardSaid : Prop := Claim7.holds Tryz.pinned (.plain (OpenSpec.ofChange walkTwiceSpec)) walkTwiceCard

/-- THE TIED CARD OF 'checkreinlaw26.WalkGoes'. -/
def walkGoesCard : Claim7 := { stood := { row := walkGoesRow, standIns := [], harness := (true, "8a551e5c413a9a05443a06ef77cf0c2d50cf0cb43397da27d78fe00c7ca1925b"), looks := false }, kinds := [], alts := [], laidByText := true, laidKinds := [.data, .pinned], laidTests := true, laidLooks := .later }
def WalkGoesCardSaid : Prop := Claim7.holds Tryz.pinned (.plain (OpenSpec.ofChange walkGoesSpec)) walkGoesCard

/-- THE SECOND FORM's CARD OF 'checkreinlaw26.WalkTells'. -/
def walkTellsUptoCard : Claim7 := { stood := { row := walkTellsUptoRow, standIns := [], harness := (true, "8a551e5c413a9a05443a06ef77cf0c2d50cf0cb43397da27d78fe00c7ca1925b"), looks := false }, kinds := [], alts := [], laidByText := true, laidKinds := [.data, .pinned], laidTests := true, laidLooks := .later }
def WalkTellsUptoCardSaid : Prop := Claim7.holds Tryz.pinned (.plain (OpenSpec.upto walkTellsSpec)) walkTellsUptoCard

/-- THE SECOND FORM's CARD OF 'checkreinlaw26.WalkHolds'. -/
def walkHoldsUptoCard : Claim7 := { stood := { row := walkHoldsUptoRow, standIns := [], harness := (true, "8a551e5c413a9a05443a06ef77cf0c2d50cf0cb43397da27d78fe00c7ca1925b"), looks := false }, kinds := [], alts := [], laidByText := true, laidKinds := [.data, .pinned], laidTests := true, laidLooks := .later }
def WalkHoldsUptoCardSaid : Prop := Claim7.holds Tryz.pinned (.plain (OpenSpec.upto walkHoldsSpec)) walkHoldsUptoCard

/-- THE SECOND FORM's CARD OF 'checkreinlaw26.WalkTwice'. -/
def walkTwiceUptoCard : Claim7 := { stood := { row := walkTwiceUptoRow, standIns := [], harness := (true, "8a551e5c413a9a05443a06ef77cf0c2d50cf0cb43397da27d78fe00c7ca1925b"), looks := false }, kinds := [], alts := [], laidByText := true, laidKinds := [.data, .pinned], laidTests := true, laidLooks := .later }
def WalkTwiceUptoCardSaid : Prop := Claim7.holds Tryz.pinned (.plain (OpenSpec.upto walkTwiceSpec)) walkTwiceUptoCard

/-- THE SECOND FORM's CARD OF 'checkreinlaw26.WalkGoes'. -/
def walkGoesUptoCard : Claim7 := { stood := { row := walkGoesUptoRow, standIns := [], harness := (true, "8a551e5c413a9a05443a06ef77cf0c2d50cf0cb43397da27d78fe00c7ca1925b"), looks := false }, kinds := [], alts := [], laidByText := true, laidKinds := [.data, .pinned], laidTests := true, laidLooks := .later }
def WalkGoesUptoCardSaid : Prop := Claim7.holds Tryz.pinned (.plain (OpenSpec.upto walkGoesSpec)) walkGoesUptoCard
end Rows
end Go.Proofs.YtdilpodccjlkgaaGreatDoor
