/-
  DERIVED. GIVEN WITH THE SEED: THE CARDS: each row of YtlfhoiakmbcnlaaDoorRows.lean that lists a variable, with what it lists TIED to the program's text (the seventh form; the later family's looks); each row that meets fmt, with fmt's text TOLD by the authors' own Lean function (tested against real Go, not proved from fmt's source: count such statements apart). THE CARD IS WHAT COUNTS. Prove the row's statement (the work); the ties are given (YtlfhoiakmbcnlaaDoorTie.lean); close each card by the builder's one call (the guide's Derived/Test/ToyasCard.lean, 'card_holds'). Laid BY PROGRAM, IN A SANDBOX (cutbox-door.mjs). By AI agents, Wed Nov 11 2026. No macro, syntax, notation, axiom, sorry.
-/
import Derived.Test.YtlfhoiakmbcnlaaDoorRows
import GoSem.ClaimSeven
namespace Go.Proofs.YtlfhoiakmbcnlaaDoor
namespace Rows

/-- THE TIED CARD OF 'checkreinlaw05.PrintCopies'. -/
def printCopiesCard : Claim7 := { stood := { row := printCopiesRow, standIns := [], harness := (true, "a5cac2afbcdcfe728e1348f8a7c3690f8cdcc0a700e2d14029034d2daf9ceb47"), looks := false }, kinds := [], alts := [], laidByText := true, laidKinds := [.data, .data, .data], laidTests := true, laidLooks := .later }
def PrintCopiesCardSaid : Prop := Claim7.holds Tryd.pinned (.plain (OpenSpec.ofChange printCopiesSpec)) printCopiesCard

/-- THE TIED CARD OF 'checkreinlaw05.PrintLines'. -/
def printLinesCard : Claim7 := { stood := { row := printLinesRow, standIns := [], harness := (true, "a5cac2afbcdcfe728e1348f8a7c3690f8cdcc0a700e2d14029034d2daf9ceb47"), looks := false }, kinds := [], alts := [], laidByText := true, laidKinds := [.data, .data, .data, .data, .pinned], laidTests := true, laidLooks := .later }
def PrintLinesCardSaid : Prop := Claim7.holds Tryd.pinned (.plain (OpenSpec.ofChange printLinesSpec)) printLinesCard

/-- THE SECOND FORM's CARD OF 'checkreinlaw05.PrintCopies'. -/
def printCopiesUptoCard : Claim7 := { stood := { row := printCopiesUptoRow, standIns := [], harness := (true, "a5cac2afbcdcfe728e1348f8a7c3690f8cdcc0a700e2d14029034d2daf9ceb47"), looks := false }, kinds := [], alts := [], laidByText := true, laidKinds := [.data, .data, .data], laidTests := true, laidLooks := .later }
def PrintCopiesUptoCardSaid : Prop := Claim7.holds Tryd.pinned (.plain (OpenSpec.upto printCopiesSpec)) printCopiesUptoCard

/-- THE SECOND FORM's CARD OF 'checkreinlaw05.PrintLines'. -/
def printLinesUptoCard : Claim7 := { stood := { row := printLinesUptoRow, standIns := [], harness := (true, "a5cac2afbcdcfe728e1348f8a7c3690f8cdcc0a700e2d14029034d2daf9ceb47"), looks := false }, kinds := [], alts := [], laidByText := true, laidKinds := [.data, .data, .data, .data, .pinned], laidTests := true, laidLooks := .later }
def PrintLinesUptoCardSaid : Prop := Claim7.holds Tryd.pinned (.plain (OpenSpec.upto printLinesSpec)) printLinesUptoCard
end Rows
end Go.Proofs.YtlfhoiakmbcnlaaDoor
