/-
  DERIVED. GIVEN WITH THE SEED: THE CARDS: each row of YtpojdepccecpgaaGreatDoorRows.lean that lists a variable, with what it lists TIED to the program's text (the seventh form; the later family's looks); each row that meets fmt, with fmt's text TOLD by the authors' own Lean function (tested against real Go, not proved from fmt's source: count such statements apart). THE CARD IS WHAT COUNTS. Prove the row's statement (the work); the ties are given (YtpojdepccecpgaaGreatDoorTie.lean); close each card by the builder's one call (the guide's Derived/Test/ToyasCard.lean, 'card_holds'). Laid BY PROGRAM, IN A SANDBOX (cutbox-door.mjs). By AI agents, Wed Nov 11 2026. No macro, syntax, notation, axiom, sorry.
-/
import Derived.Test.YtpojdepccecpgaaGreatDoorRows
import GoSem.ClaimSeven
namespace Go.Proofs.YtpojdepccecpgaaGreatDoor
namespace Rows

/-- THE TIED CARD OF 'checkreinlaw18.CanonTells'. -/
def canonTellsCard : Claim7 := { stood := { row := canonTellsRow, standIns := [], harness := (true, "4859761fcef20b3779af1deca03df7b9f7378a6c89fa8d1807dc2a9bd511a521"), looks := false }, kinds := [], alts := [], laidByText := true, laidKinds := [.data, .data, .data, .data, .pinned], laidTests := true, laidLooks := .later }
def CanonTellsCardSaid : Prop := Claim7.holds Tryz.pinned (.plain (OpenSpec.ofChange canonTellsSpec)) canonTellsCard

/-- THE TIED CARD OF 'checkreinlaw18.CanonRuns'. -/
def canonRunsCard : Claim7 := { stood := { row := canonRunsRow, standIns := [], harness := (true, "4859761fcef20b3779af1deca03df7b9f7378a6c89fa8d1807dc2a9bd511a521"), looks := false }, kinds := [], alts := [], laidByText := true, laidKinds := [.data, .data, .data, .data, .pinned], laidTests := true, laidLooks := .later }
def CanonRunsCardSaid : Prop := Claim7.holds Tryz.pinned (.plain (OpenSpec.ofChange canonRunsSpec)) canonRunsCard

/-- THE TIED CARD OF 'checkreinlaw18.CanonTurned'. -/
def canonTurnedCard : Claim7 := { stood := { row := canonTurnedRow, standIns := [], harness := (true, "4859761fcef20b3779af1deca03df7b9f7378a6c89fa8d1807dc2a9bd511a521"), looks := false }, kinds := [], alts := [], laidByText := true, laidKinds := [.data, .data, .data, .data, .pinned], laidTests := true, laidLooks := .later }
def CanonTurnedCardSaid : Prop := Claim7.holds Tryz.pinned (.plain (OpenSpec.ofChange canonTurnedSpec)) canonTurnedCard

/-- THE TIED CARD OF 'checkreinlaw18.CanonUnlike'. -/
def canonUnlikeCard : Claim7 := { stood := { row := canonUnlikeRow, standIns := [], harness := (true, "4859761fcef20b3779af1deca03df7b9f7378a6c89fa8d1807dc2a9bd511a521"), looks := false }, kinds := [], alts := [], laidByText := true, laidKinds := [.data, .data, .data, .data, .pinned], laidTests := true, laidLooks := .later }
def CanonUnlikeCardSaid : Prop := Claim7.holds Tryz.pinned (.plain (OpenSpec.ofChange canonUnlikeSpec)) canonUnlikeCard

/-- THE SECOND FORM's CARD OF 'checkreinlaw18.CanonTells'. -/
def canonTellsUptoCard : Claim7 := { stood := { row := canonTellsUptoRow, standIns := [], harness := (true, "4859761fcef20b3779af1deca03df7b9f7378a6c89fa8d1807dc2a9bd511a521"), looks := false }, kinds := [], alts := [], laidByText := true, laidKinds := [.data, .data, .data, .data, .pinned], laidTests := true, laidLooks := .later }
def CanonTellsUptoCardSaid : Prop := Claim7.holds Tryz.pinned (.plain (OpenSpec.upto canonTellsSpec)) canonTellsUptoCard

/-- THE SECOND FORM's CARD OF 'checkreinlaw18.CanonRuns'. -/
def canonRunsUptoCard : Claim7 := { stood := { row := canonRunsUptoRow, standIns := [], harness := (true, "4859761fcef20b3779af1deca03df7b9f7378a6c89fa8d1807dc2a9bd511a521"), looks := false }, kinds := [], alts := [], laidByText := true, laidKinds := [.data, .data, .data, .data, .pinned], laidTests := true, laidLooks := .later }
def CanonRunsUptoCardSaid : Prop := Claim7.holds Tryz.pinned (.plain (OpenSpec.upto canonRunsSpec)) canonRunsUptoCard

/-- THE SECOND FORM's CARD OF 'checkreinlaw18.CanonTurned'. -/
def canonTurnedUptoCard : Claim7 := { stood := { row := canonTurnedUptoRow, standIns := [], harness := (true, "4859761fcef20b3779af1deca03df7b9f7378a6c89fa8d1807dc2a9bd511a521"), looks := false }, kinds := [], alts := [], laidByText := true, laidKinds := [.data, .data, .data, .data, .pinned], laidTests := true, laidLooks := .later }
def CanonTurnedUptoCardSaid : Prop := Claim7.holds Tryz.pinned (.plain (OpenSpec.upto canonTurnedSpec)) canonTurnedUptoCard

/-- THE SECOND FORM's CARD OF 'checkreinlaw18.CanonUnlike'. -/
def canonUnlikeUptoCard : Claim7 := { stood := { row := canonUnlikeUptoRow, standIns := [], harness := (true, "4859761fcef20b3779af1deca03df7b9f7378a6c89fa8d1807dc2a9bd511a521"), looks := false }, kinds := [], alts := [], laidByText := true, laidKinds := [.data, .data, .data, .data, .pinned], laidTests := true, laidLooks := .later }
def CanonUnlikeUptoCardSaid : Prop := Claim7.holds Tryz.pinned (.plain (OpenSpec.upto canonUnlikeSpec)) canonUnlikeUptoCard
end Rows
end Go.Proofs.YtpojdepccecpgaaGreatDoor
