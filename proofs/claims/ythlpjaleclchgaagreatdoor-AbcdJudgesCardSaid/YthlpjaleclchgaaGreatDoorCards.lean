/-
  DERIVED. GIVEN WITH THE SEED: THE CARDS: each row of YthlpjaleclchgaaGreatDoorRows.lean that lists a variable, with what it lists TIED to the program's text (the seventh form; the later family's looks); each row that meets fmt, with fmt's text TOLD by the authors' own Lean function (tested against real Go, not proved from fmt's source: count such statements apart). THE CARD IS WHAT COUNTS. Prove the row's statement (the work); the ties are given (YthlpjaleclchgaaGreatDoorTie.lean); close each card by the builder's one call (the guide's Derived/Test/ToyasCard.lean, 'card_holds'). Laid BY PROGRAM, IN A SANDBOX (cutbox-door.mjs). By AI agents, Wed Nov 11 2026. No macro, syntax, notation, axiom, sorry.
-/
import Derived.Test.YthlpjaleclchgaaGreatDoorRows
import GoSem.ClaimSeven
namespace Go.Proofs.YthlpjaleclchgaaGreatDoor
namespace Rows

/-- THE TIED CARD OF 'checkreinlaw24.AbcdJudges'. -/
def abcdJudgesCard : Claim7 := { stood := { row := abcdJudgesRow, standIns := [], harness := (true, "01204f05d08c2fdb3172f730bbecda145974818ded39a3f817852ec6afcdd87d"), looks := true }, kinds := [], alts := [], laidByText := true, laidKinds := [.data, .data, .data, .data, .pinned], laidTests := true, laidLooks := .later }
def AbcdJudgesCardSaid : Prop := Claim7.holds Tryz.pinned (.plain (OpenSpec.ofChange abcdJudgesSpec)) abcdJudgesCard

/-- THE TIED CARD OF 'checkreinlaw30.FoldTells'. -/
def foldTellsCard : Claim7 := { stood := { row := foldTellsRow, standIns := [], harness := (true, "01204f05d08c2fdb3172f730bbecda145974818ded39a3f817852ec6afcdd87d"), looks := true }, kinds := [], alts := [], laidByText := true, laidKinds := [.data, .pinned], laidTests := true, laidLooks := .later }
def FoldTellsCardSaid : Prop := Claim7.holds Tryz.pinned (.plain (OpenSpec.ofChange foldTellsSpec)) foldTellsCard

/-- THE TIED CARD OF 'checkreinlaw30.FoldRuns'. -/
def foldRunsCard : Claim7 := { stood := { row := foldRunsRow, standIns := [], harness := (true, "01204f05d08c2fdb3172f730bbecda145974818ded39a3f817852ec6afcdd87d"), looks := true }, kinds := [], alts := [], laidByText := true, laidKinds := [.data, .pinned], laidTests := true, laidLooks := .later }
def FoldRunsCardSaid : Prop := Claim7.holds Tryz.pinned (.plain (OpenSpec.ofChange foldRunsSpec)) foldRunsCard

/-- THE TIED CARD OF 'checkreinlaw29.DropTells'. -/
def dropTellsCard : Claim7 := { stood := { row := dropTellsRow, standIns := [], harness := (true, "01204f05d08c2fdb3172f730bbecda145974818ded39a3f817852ec6afcdd87d"), looks := true }, kinds := [], alts := [], laidByText := true, laidKinds := [.data, .pinned], laidTests := true, laidLooks := .later }
def DropTellsCardSaid : Prop := Claim7.holds Tryz.pinned (.plain (OpenSpec.ofChange dropTellsSpec)) dropTellsCard

/-- THE TIED CARD OF 'checkreinlaw29.DropRuns'. -/
def dropRunsCard : Claim7 := { stood := { row := dropRunsRow, standIns := [], harness := (true, "01204f05d08c2fdb3172f730bbecda145974818ded39a3f817852ec6afcdd87d"), looks := true }, kinds := [], alts := [], laidByText := true, laidKinds := [.data, .pinned], laidTests := true, laidLooks := .later }
def DropRunsCardSaid : Prop := Claim7.holds Tryz.pinned (.plain (OpenSpec.ofChange dropRunsSpec)) dropRunsCard

/-- THE SECOND FORM's CARD OF 'checkreinlaw24.AbcdJudges'. -/
def abcdJudgesUptoCard : Claim7 := { stood := { row := abcdJudgesUptoRow, standIns := [], harness := (true, "01204f05d08c2fdb3172f730bbecda145974818ded39a3f817852ec6afcdd87d"), looks := true }, kinds := [], alts := [], laidByText := true, laidKinds := [.data, .data, .data, .data, .pinned], laidTests := true, laidLooks := .later }
def AbcdJudgesUptoCardSaid : Prop := Claim7.holds Tryz.pinned (.plain (OpenSpec.upto abcdJudgesSpec)) abcdJudgesUptoCard

/-- THE SECOND FORM's CARD OF 'checkreinlaw30.FoldTells'. -/
def foldTellsUptoCard : Claim7 := { stood := { row := foldTellsUptoRow, standIns := [], harness := (true, "01204f05d08c2fdb3172f730bbecda145974818ded39a3f817852ec6afcdd87d"), looks := true }, kinds := [], alts := [], laidByText := true, laidKinds := [.data, .pinned], laidTests := true, laidLooks := .later }
def FoldTellsUptoCardSaid : Prop := Claim7.holds Tryz.pinned (.plain (OpenSpec.upto foldTellsSpec)) foldTellsUptoCard

/-- THE SECOND FORM's CARD OF 'checkreinlaw30.FoldRuns'. -/
def foldRunsUptoCard : Claim7 := { stood := { row := foldRunsUptoRow, standIns := [], harness := (true, "01204f05d08c2fdb3172f730bbecda145974818ded39a3f817852ec6afcdd87d"), looks := true }, kinds := [], alts := [], laidByText := true, laidKinds := [.data, .pinned], laidTests := true, laidLooks := .later }
def FoldRunsUptoCardSaid : Prop := Claim7.holds Tryz.pinned (.plain (OpenSpec.upto foldRunsSpec)) foldRunsUptoCard

/-- THE SECOND FORM's CARD OF 'checkreinlaw29.DropTells'. -/
def dropTellsUptoCard : Claim7 := { stood := { row := dropTellsUptoRow, standIns := [], harness := (true, "01204f05d08c2fdb3172f730bbecda145974818ded39a3f817852ec6afcdd87d"), looks := true }, kinds := [], alts := [], laidByText := true, laidKinds := [.data, .pinned], laidTests := true, laidLooks := .later }
def DropTellsUptoCardSaid : Prop := Claim7.holds Tryz.pinned (.plain (OpenSpec.upto dropTellsSpec)) dropTellsUptoCard

/-- THE SECOND FORM's CARD OF 'checkreinlaw29.DropRuns'. -/
def dropRunsUptoCard : Claim7 := { stood := { row := dropRunsUptoRow, standIns := [], harness := (true, "01204f05d08c2fdb3172f730bbecda145974818ded39a3f817852ec6afcdd87d"), looks := true }, kinds := [], alts := [], laidByText := true, laidKinds := [.data, .pinned], laidTests := true, laidLooks := .later }
def DropRunsUptoCardSaid : Prop := Claim7.holds Tryz.pinned (.plain (OpenSpec.upto dropRunsSpec)) dropRunsUptoCard
end Rows
end Go.Proofs.YthlpjaleclchgaaGreatDoor
