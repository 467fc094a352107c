/-
  DERIVED. GIVEN WITH THE SEED: THE CARDS: each row of YtmdmclbpnkdimaaGreatDoorRows.lean that lists a variable, with what it lists TIED to the program's text (the seventh form; the later family's looks); each row that meets fmt, with fmt's text TOLD by the authors' own Lean function (tested against real Go, not proved from fmt's source: count such statements apart). THE CARD IS WHAT COUNTS. Prove the row's statement (the work); the ties are given (YtmdmclbpnkdimaaGreatDoorTie.lean); close each card by the builder's one call (the guide's Derived/Test/ToyasCard.lean, 'card_holds'). Laid BY PROGRAM, IN A SANDBOX (cutbox-door.mjs). By AI agents, Wed Nov 11 2026. No macro, syntax, notation, axiom, sorry.
-/
import Derived.Test.YtmdmclbpnkdimaaGreatDoorRows
import GoSem.ClaimSeven
namespace Go.Proofs.YtmdmclbpnkdimaaGreatDoor
namespace Rows

/-- THE TIED CARD OF 'acreagelaw02.RangesProducts'. -/
def rangesProductsCard : Claim7 := { stood := { row := rangesProductsRow, standIns := [], harness := (true, "72e6add7b953c21797fb35c1bdd0b165af6631a951d5349f641f71e9a9671c13"), looks := true }, kinds := [], alts := [], laidByText := true, laidKinds := [.data, .data, .data, .data, .sentinel, .sentinel, .pinned], laidTests := true, laidLooks := .later }
def RangesProductsCardSaid : Prop := Claim7.holds Tryz.pinned (.plain (OpenSpec.ofChange rangesProductsSpec)) rangesProductsCard

/-- THE TIED CARD OF 'acreagelaw02.RangesDials'. -/
def rangesDialsCard : Claim7 := { stood := { row := rangesDialsRow, standIns := [], harness := (true, "72e6add7b953c21797fb35c1bdd0b165af6631a951d5349f641f71e9a9671c13"), looks := true }, kinds := [], alts := [], laidByText := true, laidKinds := [.data, .data, .data, .data, .sentinel, .sentinel, .pinned], laidTests := true, laidLooks := .later }
def RangesDialsCardSaid : Prop := Claim7.holds Tryz.pinned (.plain (OpenSpec.ofChange rangesDialsSpec)) rangesDialsCard

/-- THE TIED CARD OF 'acreagelaw02.RangesSums'. -/
def rangesSumsCard : Claim7 := { stood := { row := rangesSumsRow, standIns := [], harness := (true, "72e6add7b953c21797fb35c1bdd0b165af6631a951d5349f641f71e9a9671c13"), looks := true }, kinds := [], alts := [], laidByText := true, laidKinds := [.data, .data, .data, .data, .sentinel, .sentinel, .pinned], laidTests := true, laidLooks := .later }
def RangesSumsCardSaid : Prop := Claim7.holds Tryz.pinned (.plain (OpenSpec.ofChange rangesSumsSpec)) rangesSumsCard

/-- THE TIED CARD OF 'acreagelaw02.RangesOne'. -/
def rangesOneCard : Claim7 := { stood := { row := rangesOneRow, standIns := [], harness := (true, "72e6add7b953c21797fb35c1bdd0b165af6631a951d5349f641f71e9a9671c13"), looks := true }, kinds := [], alts := [], laidByText := true, laidKinds := [.data, .data, .data, .data, .sentinel, .sentinel, .pinned], laidTests := true, laidLooks := .later }
def RangesOneCardSaid : Prop := Claim7.holds Tryz.pinned (.plain (OpenSpec.ofChange rangesOneSpec)) rangesOneCard

/-- THE TIED CARD OF 'acreagelaw02.RangesAdjoint'. -/
def rangesAdjointCard : Claim7 := { stood := { row := rangesAdjointRow, standIns := [], harness := (true, "72e6add7b953c21797fb35c1bdd0b165af6631a951d5349f641f71e9a9671c13"), looks := true }, kinds := [], alts := [], laidByText := true, laidKinds := [.data, .data, .data, .data, .sentinel, .sentinel, .pinned], laidTests := true, laidLooks := .later }
def RangesAdjointCardSaid : Prop := Claim7.holds Tryz.pinned (.plain (OpenSpec.ofChange rangesAdjointSpec)) rangesAdjointCard

/-- THE TIED CARD OF 'acreagelaw02.RangesAround'. -/
def rangesAroundCard : Claim7 := { stood := { row := rangesAroundRow, standIns := [], harness := (true, "72e6add7b953c21797fb35c1bdd0b165af6631a951d5349f641f71e9a9671c13"), looks := true }, kinds := [], alts := [], laidByText := true, laidKinds := [.data, .data, .data, .data, .sentinel, .sentinel, .pinned], laidTests := true, laidLooks := .later }
def RangesAroundCardSaid : Prop := Claim7.holds Tryz.pinned (.plain (OpenSpec.ofChange rangesAroundSpec)) rangesAroundCard

/-- THE TIED CARD OF 'acreagelaw02.RangesNear'. -/
def rangesNearCard : Claim7 := { stood := { row := rangesNearRow, standIns := [], harness := (true, "72e6add7b953c21797fb35c1bdd0b165af6631a951d5349f641f71e9a9671c13"), looks := true }, kinds := [], alts := [], laidByText := true, laidKinds := [.data, .data, .data, .data, .sentinel, .sentinel, .pinned], laidTests := true, laidLooks := .later }
def RangesNearCardSaid : Prop := Claim7.holds Tryz.pinned (.plain (OpenSpec.ofChange rangesNearSpec)) rangesNearCard

/-- THE TIED CARD OF 'acreagelaw02.RangesQuotients'. -/
def rangesQuotientsCard : Claim7 := { stood := { row := rangesQuotientsRow, standIns := [], harness := (true, "72e6add7b953c21797fb35c1bdd0b165af6631a951d5349f641f71e9a9671c13"), looks := true }, kinds := [], alts := [], laidByText := true, laidKinds := [.data, .data, .data, .data, .sentinel, .sentinel, .pinned], laidTests := true, laidLooks := .later }
def RangesQuotientsCardSaid : Prop := Claim7.holds Tryz.pinned (.plain (OpenSpec.ofChange rangesQuotientsSpec)) rangesQuotientsCard

/-- THE TIED CARD OF 'acreagelaw02.RangesAdd'. -/
def rangesAddCard : Claim7 := { stood := { row := rangesAddRow, standIns := [], harness := (true, "72e6add7b953c21797fb35c1bdd0b165af6631a951d5349f641f71e9a9671c13"), looks := true }, kinds := [], alts := [], laidByText := true, laidKinds := [.data, .data, .data, .data, .sentinel, .sentinel, .pinned], laidTests := true, laidLooks := .later }
def RangesAddCardSaid : Prop := Claim7.holds Tryz.pinned (.plain (OpenSpec.ofChange rangesAddSpec)) rangesAddCard

/-- THE TIED CARD OF 'acreagelaw02.RangesElements'. -/
def rangesElementsCard : Claim7 := { stood := { row := rangesElementsRow, standIns := [], harness := (true, "72e6add7b953c21797fb35c1bdd0b165af6631a951d5349f641f71e9a9671c13"), looks := true }, kinds := [], alts := [], laidByText := true, laidKinds := [.data, .data, .data, .data, .sentinel, .sentinel, .pinned], laidTests := true, laidLooks := .later }
def RangesElementsCardSaid : Prop := Claim7.holds Tryz.pinned (.plain (OpenSpec.ofChange rangesElementsSpec)) rangesElementsCard

/-- THE TIED CARD OF 'acreagelaw02.RangesNext'. -/
def rangesNextCard : Claim7 := { stood := { row := rangesNextRow, standIns := [], harness := (true, "72e6add7b953c21797fb35c1bdd0b165af6631a951d5349f641f71e9a9671c13"), looks := true }, kinds := [], alts := [], laidByText := true, laidKinds := [.data, .data, .data, .data, .sentinel, .sentinel, .pinned], laidTests := true, laidLooks := .later }
def RangesNextCardSaid : Prop := Claim7.holds Tryz.pinned (.plain (OpenSpec.ofChange rangesNextSpec)) rangesNextCard

/-- THE TIED CARD OF 'acreagelaw02.RangesSets'. -/
def rangesSetsCard : Claim7 := { stood := { row := rangesSetsRow, standIns := [], harness := (true, "72e6add7b953c21797fb35c1bdd0b165af6631a951d5349f641f71e9a9671c13"), looks := true }, kinds := [], alts := [], laidByText := true, laidKinds := [.data, .data, .data, .data, .sentinel, .sentinel, .pinned], laidTests := true, laidLooks := .later }
def RangesSetsCardSaid : Prop := Claim7.holds Tryz.pinned (.plain (OpenSpec.ofChange rangesSetsSpec)) rangesSetsCard

/-- THE TIED CARD OF 'acreagelaw02.RangesAlgebra'. -/
def rangesAlgebraCard : Claim7 := { stood := { row := rangesAlgebraRow, standIns := [], harness := (true, "72e6add7b953c21797fb35c1bdd0b165af6631a951d5349f641f71e9a9671c13"), looks := true }, kinds := [], alts := [], laidByText := true, laidKinds := [.data, .data, .data, .data, .sentinel, .sentinel, .pinned], laidTests := true, laidLooks := .later }
def RangesAlgebraCardSaid : Prop := Claim7.holds Tryz.pinned (.plain (OpenSpec.ofChange rangesAlgebraSpec)) rangesAlgebraCard

/-- THE SECOND FORM's CARD OF 'acreagelaw02.RangesProducts'. -/
def rangesProductsUptoCard : Claim7 := { stood := { row := rangesProductsUptoRow, standIns := [], harness := (true, "72e6add7b953c21797fb35c1bdd0b165af6631a951d5349f641f71e9a9671c13"), looks := true }, kinds := [], alts := [], laidByText := true, laidKinds := [.data, .data, .data, .data, .sentinel, .sentinel, .pinned], laidTests := true, laidLooks := .later }
def RangesProductsUptoCardSaid : Prop := Claim7.holds Tryz.pinned (.plain (OpenSpec.upto rangesProductsSpec)) rangesProductsUptoCard

/-- THE SECOND FORM's CARD OF 'acreagelaw02.RangesDials'. -/
def rangesDialsUptoCard : Claim7 := { stood := { row := rangesDialsUptoRow, standIns := [], harness := (true, "72e6add7b953c21797fb35c1bdd0b165af6631a951d5349f641f71e9a9671c13"), looks := true }, kinds := [], alts := [], laidByText := true, laidKinds := [.data, .data, .data, .data, .sentinel, .sentinel, .pinned], laidTests := true, laidLooks := .later }
def RangesDialsUptoCardSaid : Prop := Claim7.holds Tryz.pinned (.plain (OpenSpec.upto rangesDialsSpec)) rangesDialsUptoCard

/-- THE SECOND FORM's CARD OF 'acreagelaw02.RangesSums'. -/
def rangesSumsUptoCard : Claim7 := { stood := { row := rangesSumsUptoRow, standIns := [], harness := (true, "72e6add7b953c21797fb35c1bdd0b165af6631a951d5349f641f71e9a9671c13"), looks := true }, kinds := [], alts := [], laidByText := true, laidKinds := [.data, .data, .data, .data, .sentinel, .sentinel, .pinned], laidTests := true, laidLooks := .later }
def RangesSumsUptoCardSaid : Prop := Claim7.holds Tryz.pinned (.plain (OpenSpec.upto rangesSumsSpec)) rangesSumsUptoCard

/-- THE SECOND FORM's CARD OF 'acreagelaw02.RangesOne'. -/
def rangesOneUptoCard : Claim7 := { stood := { row := rangesOneUptoRow, standIns := [], harness := (true, "72e6add7b953c21797fb35c1bdd0b165af6631a951d5349f641f71e9a9671c13"), looks := true }, kinds := [], alts := [], laidByText := true, laidKinds := [.data, .data, .data, .data, .sentinel, .sentinel, .pinned], laidTests := true, laidLooks := .later }
def RangesOneUptoCardSaid : Prop := Claim7.holds Tryz.pinned (.plain (OpenSpec.upto rangesOneSpec)) rangesOneUptoCard

/-- THE SECOND FORM's CARD OF 'acreagelaw02.RangesAdjoint'. -/
def rangesAdjointUptoCard : Claim7 := { stood := { row := rangesAdjointUptoRow, standIns := [], harness := (true, "72e6add7b953c21797fb35c1bdd0b165af6631a951d5349f641f71e9a9671c13"), looks := true }, kinds := [], alts := [], laidByText := true, laidKinds := [.data, .data, .data, .data, .sentinel, .sentinel, .pinned], laidTests := true, laidLooks := .later }
def RangesAdjointUptoCardSaid : Prop := Claim7.holds Tryz.pinned (.plain (OpenSpec.upto rangesAdjointSpec)) rangesAdjointUptoCard

/-- THE SECOND FORM's CARD OF 'acreagelaw02.RangesAround'. -/
def rangesAroundUptoCard : Claim7 := { stood := { row := rangesAroundUptoRow, standIns := [], harness := (true, "72e6add7b953c21797fb35c1bdd0b165af6631a951d5349f641f71e9a9671c13"), looks := true }, kinds := [], alts := [], laidByText := true, laidKinds := [.data, .data, .data, .data, .sentinel, .sentinel, .pinned], laidTests := true, laidLooks := .later }
def RangesAroundUptoCardSaid : Prop := Claim7.holds Tryz.pinned (.plain (OpenSpec.upto rangesAroundSpec)) rangesAroundUptoCard

/-- THE SECOND FORM's CARD OF 'acreagelaw02.RangesNear'. -/
def rangesNearUptoCard : Claim7 := { stood := { row := rangesNearUptoRow, standIns := [], harness := (true, "72e6add7b953c21797fb35c1bdd0b165af6631a951d5349f641f71e9a9671c13"), looks := true }, kinds := [], alts := [], laidByText := true, laidKinds := [.data, .data, .data, .data, .sentinel, .sentinel, .pinned], laidTests := true, laidLooks := .later }
def RangesNearUptoCardSaid : Prop := Claim7.holds Tryz.pinned (.plain (OpenSpec.upto rangesNearSpec)) rangesNearUptoCard

/-- THE SECOND FORM's CARD OF 'acreagelaw02.RangesQuotients'. -/
def rangesQuotientsUptoCard : Claim7 := { stood := { row := rangesQuotientsUptoRow, standIns := [], harness := (true, "72e6add7b953c21797fb35c1bdd0b165af6631a951d5349f641f71e9a9671c13"), looks := true }, kinds := [], alts := [], laidByText := true, laidKinds := [.data, .data, .data, .data, .sentinel, .sentinel, .pinned], laidTests := true, laidLooks := .later }
def RangesQuotientsUptoCardSaid : Prop := Claim7.holds Tryz.pinned (.plain (OpenSpec.upto rangesQuotientsSpec)) rangesQuotientsUptoCard

/-- THE SECOND FORM's CARD OF 'acreagelaw02.RangesAdd'. -/
def rangesAddUptoCard : Claim7 := { stood := { row := rangesAddUptoRow, standIns := [], harness := (true, "72e6add7b953c21797fb35c1bdd0b165af6631a951d5349f641f71e9a9671c13"), looks := true }, kinds := [], alts := [], laidByText := true, laidKinds := [.data, .data, .data, .data, .sentinel, .sentinel, .pinned], laidTests := true, laidLooks := .later }
def RangesAddUptoCardSaid : Prop := Claim7.holds Tryz.pinned (.plain (OpenSpec.upto rangesAddSpec)) rangesAddUptoCard

/-- THE SECOND FORM's CARD OF 'acreagelaw02.RangesElements'. -/
def rangesElementsUptoCard : Claim7 := { stood := { row := rangesElementsUptoRow, standIns := [], harness := (true, "72e6add7b953c21797fb35c1bdd0b165af6631a951d5349f641f71e9a9671c13"), looks := true }, kinds := [], alts := [], laidByText := true, laidKinds := [.data, .data, .data, .data, .sentinel, .sentinel, .pinned], laidTests := true, laidLooks := .later }
def RangesElementsUptoCardSaid : Prop := Claim7.holds Tryz.pinned (.plain (OpenSpec.upto rangesElementsSpec)) rangesElementsUptoCard

/-- THE SECOND FORM's CARD OF 'acreagelaw02.RangesNext'. -/
def rangesNextUptoCard : Claim7 := { stood := { row := rangesNextUptoRow, standIns := [], harness := (true, "72e6add7b953c21797fb35c1bdd0b165af6631a951d5349f641f71e9a9671c13"), looks := true }, kinds := [], alts := [], laidByText := true, laidKinds := [.data, .data, .data, .data, .sentinel, .sentinel, .pinned], laidTests := true, laidLooks := .later }
def RangesNextUptoCardSaid : Prop := Claim7.holds Tryz.pinned (.plain (OpenSpec.upto rangesNextSpec)) rangesNextUptoCard

/-- THE SECOND FORM's CARD OF 'acreagelaw02.RangesSets'. -/
def rangesSetsUptoCard : Claim7 := { stood := { row := rangesSetsUptoRow, standIns := [], harness := (true, "72e6add7b953c21797fb35c1bdd0b165af6631a951d5349f641f71e9a9671c13"), looks := true }, kinds := [], alts := [], laidByText := true, laidKinds := [.data, .data, .data, .data, .sentinel, .sentinel, .pinned], laidTests := true, laidLooks := .later }
def RangesSetsUptoCardSaid : Prop := Claim7.holds Tryz.pinned (.plain (OpenSpec.upto rangesSetsSpec)) rangesSetsUptoCard

/-- THE SECOND FORM's CARD OF 'acreagelaw02.RangesAlgebra'. -/
def rangesAlgebraUptoCard : Claim7 := { stood := { row := rangesAlgebraUptoRow, standIns := [], harness := (true, "72e6add7b953c21797fb35c1bdd0b165af6631a951d5349f641f71e9a9671c13"), looks := true }, kinds := [], alts := [], laidByText := true, laidKinds := [.data, .data, .data, .data, .sentinel, .sentinel, .pinned], laidTests := true, laidLooks := .later }
def RangesAlgebraUptoCardSaid : Prop := Claim7.holds Tryz.pinned (.plain (OpenSpec.upto rangesAlgebraSpec)) rangesAlgebraUptoCard
end Rows
end Go.Proofs.YtmdmclbpnkdimaaGreatDoor
