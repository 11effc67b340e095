/-
  DERIVED. GIVEN WITH THE SEED: THE CARDS: each row of YtjpnhkmfhlnpcaaGreatDoorRows.lean that lists a variable, with what it lists TIED to the program's text (the seventh form; the later family's looks); each row that meets fmt, with fmt's text TOLD by the authors' own Lean function (tested against real Go, not proved from fmt's source: count such statements apart). THE CARD IS WHAT COUNTS. Prove the row's statement (the work); the ties are given (YtjpnhkmfhlnpcaaGreatDoorTie.lean); close each card by the builder's one call (the guide's Derived/Test/ToyasCard.lean, 'card_holds'). Laid BY PROGRAM, IN A SANDBOX (cutbox-door.mjs). By AI agents, Wed Nov 11 2026. No macro, syntax, notation, axiom, sorry.
-/
import Derived.Test.YtjpnhkmfhlnpcaaGreatDoorRows
import GoSem.ClaimSeven
namespace Go.Proofs.YtjpnhkmfhlnpcaaGreatDoor
namespace Rows

/-- THE TIED CARD OF 'checkreinlaw30.FoldTells'. -/
def foldTellsCard : Claim7 := { stood := { row := foldTellsRow, standIns := [], harness := (true, "42539b71b4861cf977487b80ecd99f31a4cd16453546707823a2e654b5ad080e"), looks := true }, kinds := [], alts := [], laidByText := true, laidKinds := [.data, .pinned], laidTests := true, laidLooks := .later }
def FoldTellsCardSaid : Prop := Claim7.holds Tryz.pinned (.plain (OpenSpec.ofChange foldTellsSpec)) foldTellsCard

/-- THE TIED CARD OF 'checkreinlaw30.FoldRuns'. -/
def foldRunsCard : Claim7 := { stood := { row := foldRunsRow, standIns := [], harness := (true, "42539b71b4861cf977487b80ecd99f31a4cd16453546707823a2e654b5ad080e"), looks := true }, kinds := [], alts := [], laidByText := true, laidKinds := [.data, .pinned], laidTests := true, laidLooks := .later }
def FoldRunsCardSaid : Prop := Claim7.holds Tryz.pinned (.plain (OpenSpec.ofChange foldRunsSpec)) foldRunsCard

/-- THE SECOND FORM's CARD OF 'checkreinlaw30.FoldTells'. -/
def foldTellsUptoCard : Claim7 := { stood := { row := foldTellsUptoRow, standIns := [], harness := (true, "42539b71b4861cf977487b80ecd99f31a4cd16453546707823a2e654b5ad080e"), looks := true }, kinds := [], alts := [], laidByText := true, laidKinds := [.data, .pinned], laidTests := true, laidLooks := .later }
def FoldTellsUptoCardSaid : Prop := Claim7.holds Tryz.pinned (.plain (OpenSpec.upto foldTellsSpec)) foldTellsUptoCard

/-- THE SECOND FORM's CARD OF 'checkreinlaw30.FoldRuns'. -/
def foldRunsUptoCard : Claim7 := { stood := { row := foldRunsUptoRow, standIns := [], harness := (true, "42539b71b4861cf977487b80ecd99f31a4cd16453546707823a2e654b5ad080e"), looks := true }, kinds := [], alts := [], laidByText := true, laidKinds := [.data, .pinned], laidTests := true, laidLooks := .later }
def FoldRunsUptoCardSaid : Prop := Claim7.holds Tryz.pinned (.plain (OpenSpec.upto foldRunsSpec)) foldRunsUptoCard
end Rows
end Go.Proofs.YtjpnhkmfhlnpcaaGreatDoor
