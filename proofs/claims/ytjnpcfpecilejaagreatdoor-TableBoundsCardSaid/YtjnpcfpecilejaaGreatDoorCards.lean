/-
  DERIVED. GIVEN WITH THE SEED: THE CARDS: each row of YtjnpcfpecilejaaGreatDoorRows.lean that lists a variable, with what it lists TIED to the program's text (the seventh form; the later family's looks); each row that meets fmt, with fmt's text TOLD by the authors' own Lean function (tested against real Go, not proved from fmt's source: count such statements apart). THE CARD IS WHAT COUNTS. Prove the row's statement (the work); the ties are given (YtjnpcfpecilejaaGreatDoorTie.lean); close each card by the builder's one call (the guide's Derived/Test/ToyasCard.lean, 'card_holds'). Laid BY PROGRAM, IN A SANDBOX (cutbox-door.mjs). By AI agents, Wed Nov 11 2026. No macro, syntax, notation, axiom, sorry.
-/
import Derived.Test.YtjnpcfpecilejaaGreatDoorRows
import GoSem.ClaimSeven
namespace Go.Proofs.YtjnpcfpecilejaaGreatDoor
namespace Rows

/-- THE TIED CARD OF 'checkreinlaw36.PreFirst'. -/
def preFirstCard : Claim7 := { stood := { row := preFirstRow, standIns := [], harness := (true, "82ed07073db2c94573b5b4af6fc81afeb10ba7ecc065a95027c43350008e08e4"), looks := false }, kinds := [], alts := [], laidByText := true, laidKinds := [.data, .pinned], laidTests := true, laidLooks := .later }
def PreFirstCardSaid : Prop := Claim7.holds Tryz.pinned (.plain (OpenSpec.ofChange preFirstSpec)) preFirstCard

/-- THE TIED CARD OF 'checkreinlaw23.DiffTells'. -/
def diffTellsCard : Claim7 := { stood := { row := diffTellsRow, standIns := [], harness := (true, "82ed07073db2c94573b5b4af6fc81afeb10ba7ecc065a95027c43350008e08e4"), looks := false }, kinds := [], alts := [], laidByText := true, laidKinds := [.data, .pinned], laidTests := true, laidLooks := .later }
def DiffTellsCardSaid : Prop := Claim7.holds Tryz.pinned (.plain (OpenSpec.ofChange diffTellsSpec)) diffTellsCard

/-- THE TIED CARD OF 'checkreinlaw23.DiffApart'. -/
def diffApartCard : Claim7 := { stood := { row := diffApartRow, standIns := [], harness := (true, "82ed07073db2c94573b5b4af6fc81afeb10ba7ecc065a95027c43350008e08e4"), looks := false }, kinds := [], alts := [], laidByText := true, laidKinds := [.data, .pinned], laidTests := true, laidLooks := .later }
def DiffApartCardSaid : Prop := Claim7.holds Tryz.pinned (.plain (OpenSpec.ofChange diffApartSpec)) diffApartCard

/-- THE TIED CARD OF 'checkreinlaw27.TableRanges'. -/
def tableRangesCard : Claim7 := { stood := { row := tableRangesRow, standIns := [], harness := (true, "82ed07073db2c94573b5b4af6fc81afeb10ba7ecc065a95027c43350008e08e4"), looks := false }, kinds := [], alts := [], laidByText := true, laidKinds := [.data, .pinned], laidTests := true, laidLooks := .later }
def TableRangesCardSaid : Prop := Claim7.holds Tryz.pinned (.plain (OpenSpec.ofChange tableRangesSpec)) tableRangesCard

/-- THE TIED CARD OF 'checkreinlaw22.RangesTell'. -/
def rangesTellCard : Claim7 := { stood := { row := rangesTellRow, standIns := [], harness := (true, "82ed07073db2c94573b5b4af6fc81afeb10ba7ecc065a95027c43350008e08e4"), looks := false }, kinds := [], alts := [], laidByText := true, laidKinds := [.data, .pinned], laidTests := true, laidLooks := .later }
def RangesTellCardSaid : Prop := Claim7.holds Tryz.pinned (.plain (OpenSpec.ofChange rangesTellSpec)) rangesTellCard

/-- THE TIED CARD OF 'checkreinlaw22.RangesRule'. -/
def rangesRuleCard : Claim7 := { stood := { row := rangesRuleRow, standIns := [], harness := (true, "82ed07073db2c94573b5b4af6fc81afeb10ba7ecc065a95027c43350008e08e4"), looks := false }, kinds := [], alts := [], laidByText := true, laidKinds := [.data, .pinned], laidTests := true, laidLooks := .later }
def RangesRuleCardSaid : Prop := Claim7.holds Tryz.pinned (.plain (OpenSpec.ofChange rangesRuleSpec)) rangesRuleCard

/-- THE TIED CARD OF 'checkreinlaw22.RangesFixed'. -/
def rangesFixedCard : Claim7 := { stood := { row := rangesFixedRow, standIns := [], harness := (true, "82ed07073db2c94573b5b4af6fc81afeb10ba7ecc065a95027c43350008e08e4"), looks := false }, kinds := [], alts := [], laidByText := true, laidKinds := [.data, .pinned], laidTests := true, laidLooks := .later }
def RangesFixedCardSaid : Prop := Claim7.holds Tryz.pinned (.plain (OpenSpec.ofChange rangesFixedSpec)) rangesFixedCard

/-- THE TIED CARD OF 'checkreinlaw27.TableBounds'. -/
def tableBoundsCard : Claim7 := { stood := { row := tableBoundsRow, standIns := [], harness := (true, "82ed07073db2c94573b5b4af6fc81afeb10ba7ecc065a95027c43350008e08e4"), looks := false }, kinds := [], alts := [], laidByText := true, laidKinds := [.data, .pinned], laidTests := true, laidLooks := .later }
def TableBoundsCardSaid : Prop := Claim7.holds Tryz.pinned (.plain (OpenSpec.ofChange tableBoundsSpec)) tableBoundsCard

/-- THE SECOND FORM's CARD OF 'checkreinlaw36.PreFirst'. -/
def preFirstUptoCard : Claim7 := { stood := { row := preFirstUptoRow, standIns := [], harness := (true, "82ed07073db2c94573b5b4af6fc81afeb10ba7ecc065a95027c43350008e08e4"), looks := false }, kinds := [], alts := [], laidByText := true, laidKinds := [.data, .pinned], laidTests := true, laidLooks := .later }
def PreFirstUptoCardSaid : Prop := Claim7.holds Tryz.pinned (.plain (OpenSpec.upto preFirstSpec)) preFirstUptoCard

/-- THE SECOND FORM's CARD OF 'checkreinlaw23.DiffTells'. -/
def diffTellsUptoCard : Claim7 := { stood := { row := diffTellsUptoRow, standIns := [], harness := (true, "82ed07073db2c94573b5b4af6fc81afeb10ba7ecc065a95027c43350008e08e4"), looks := false }, kinds := [], alts := [], laidByText := true, laidKinds := [.data, .pinned], laidTests := true, laidLooks := .later }
def DiffTellsUptoCardSaid : Prop := Claim7.holds Tryz.pinned (.plain (OpenSpec.upto diffTellsSpec)) diffTellsUptoCard

/-- THE SECOND FORM's CARD OF 'checkreinlaw23.DiffApart'. -/
def diffApartUptoCard : Claim7 := { stood := { row := diffApartUptoRow, standIns := [], harness := (true, "82ed07073db2c94573b5b4af6fc81afeb10ba7ecc065a95027c43350008e08e4"), looks := false }, kinds := [], alts := [], laidByText := true, laidKinds := [.data, .pinned], laidTests := true, laidLooks := .later }
def DiffApartUptoCardSaid : Prop := Claim7.holds Tryz.pinned (.plain (OpenSpec.upto diffApartSpec)) diffApartUptoCard

/-- THE SECOND FORM's CARD OF 'checkreinlaw27.TableRanges'. -/
def tableRangesUptoCard : Claim7 := { stood := { row := tableRangesUptoRow, standIns := [], harness := (true, "82ed07073db2c94573b5b4af6fc81afeb10ba7ecc065a95027c43350008e08e4"), looks := false }, kinds := [], alts := [], laidByText := true, laidKinds := [.data, .pinned], laidTests := true, laidLooks := .later }
def TableRangesUptoCardSaid : Prop := Claim7.holds Tryz.pinned (.plain (OpenSpec.upto tableRangesSpec)) tableRangesUptoCard

/-- THE SECOND FORM's CARD OF 'checkreinlaw22.RangesTell'. -/
def rangesTellUptoCard : Claim7 := { stood := { row := rangesTellUptoRow, standIns := [], harness := (true, "82ed07073db2c94573b5b4af6fc81afeb10ba7ecc065a95027c43350008e08e4"), looks := false }, kinds := [], alts := [], laidByText := true, laidKinds := [.data, .pinned], laidTests := true, laidLooks := .later }
def RangesTellUptoCardSaid : Prop := Claim7.holds Tryz.pinned (.plain (OpenSpec.upto rangesTellSpec)) rangesTellUptoCard

/-- THE SECOND FORM's CARD OF 'checkreinlaw22.RangesRule'. -/
def rangesRuleUptoCard : Claim7 := { stood := { row := rangesRuleUptoRow, standIns := [], harness := (true, "82ed07073db2c94573b5b4af6fc81afeb10ba7ecc065a95027c43350008e08e4"), looks := false }, kinds := [], alts := [], laidByText := true, laidKinds := [.data, .pinned], laidTests := true, laidLooks := .later }
def RangesRuleUptoCardSaid : Prop := Claim7.holds Tryz.pinned (.plain (OpenSpec.upto rangesRuleSpec)) rangesRuleUptoCard

/-- THE SECOND FORM's CARD OF 'checkreinlaw22.RangesFixed'. -/
def rangesFixedUptoCard : Claim7 := { stood := { row := rangesFixedUptoRow, standIns := [], harness := (true, "82ed07073db2c94573b5b4af6fc81afeb10ba7ecc065a95027c43350008e08e4"), looks := false }, kinds := [], alts := [], laidByText := true, laidKinds := [.data, .pinned], laidTests := true, laidLooks := .later }
def RangesFixedUptoCardSaid : Prop := Claim7.holds Tryz.pinned (.plain (OpenSpec.upto rangesFixedSpec)) rangesFixedUptoCard

/-- THE SECOND FORM's CARD OF 'checkreinlaw27.TableBounds'. -/
def tableBoundsUptoCard : Claim7 := { stood := { row := tableBoundsUptoRow, standIns := [], harness := (true, "82ed07073db2c94573b5b4af6fc81afeb10ba7ecc065a95027c43350008e08e4"), looks := false }, kinds := [], alts := [], laidByText := true, laidKinds := [.data, .pinned], laidTests := true, laidLooks := .later }
def TableBoundsUptoCardSaid : Prop := Claim7.holds Tryz.pinned (.plain (OpenSpec.upto tableBoundsSpec)) tableBoundsUptoCard
end Rows
end Go.Proofs.YtjnpcfpecilejaaGreatDoor
