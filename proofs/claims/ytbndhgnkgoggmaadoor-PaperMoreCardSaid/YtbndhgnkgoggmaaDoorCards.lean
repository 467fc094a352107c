/-
  DERIVED. GIVEN WITH THE SEED: THE CARDS: each row of YtbndhgnkgoggmaaDoorRows.lean that lists a variable, with what it lists TIED to the program's text (the seventh form; the later family's looks); each row that meets fmt, with fmt's text TOLD by the authors' own Lean function (tested against real Go, not proved from fmt's source: count such statements apart). THE CARD IS WHAT COUNTS. Prove the row's statement (the work); the ties are given (YtbndhgnkgoggmaaDoorTie.lean); close each card by the builder's one call (the guide's Derived/Test/ToyasCard.lean, 'card_holds'). Laid BY PROGRAM, IN A SANDBOX (cutbox-door.mjs). By AI agents, Wed Nov 11 2026. No macro, syntax, notation, axiom, sorry.
-/
import Derived.Test.YtbndhgnkgoggmaaDoorRows
import GoSem.ClaimSeven
namespace Go.Proofs.YtbndhgnkgoggmaaDoor
namespace Rows

/-- THE TIED CARD OF 'acreagelaw03.PaperFactors'. -/
def paperFactorsCard : Claim7 := { stood := { row := paperFactorsRow, standIns := [], harness := (true, "66cf6bf338ab1ab75c55d6b9817594bdee3113a85e3da7095536de3637b4b771"), looks := false }, kinds := [], alts := [], laidByText := true, laidKinds := [.data], laidTests := true, laidLooks := .later }
def PaperFactorsCardSaid : Prop := Claim7.holds Tryd.pinned (.plain (OpenSpec.ofChange paperFactorsSpec)) paperFactorsCard

/-- THE TIED CARD OF 'acreagelaw03.PaperQuotients'. -/
def paperQuotientsCard : Claim7 := { stood := { row := paperQuotientsRow, standIns := [], harness := (true, "66cf6bf338ab1ab75c55d6b9817594bdee3113a85e3da7095536de3637b4b771"), looks := false }, kinds := [], alts := [], laidByText := true, laidKinds := [.data], laidTests := true, laidLooks := .later }
def PaperQuotientsCardSaid : Prop := Claim7.holds Tryd.pinned (.plain (OpenSpec.ofChange paperQuotientsSpec)) paperQuotientsCard

/-- THE TIED CARD OF 'acreagelaw03.PaperAxes'. -/
def paperAxesCard : Claim7 := { stood := { row := paperAxesRow, standIns := [], harness := (true, "66cf6bf338ab1ab75c55d6b9817594bdee3113a85e3da7095536de3637b4b771"), looks := false }, kinds := [], alts := [], laidByText := true, laidKinds := [.data], laidTests := true, laidLooks := .later }
def PaperAxesCardSaid : Prop := Claim7.holds Tryd.pinned (.plain (OpenSpec.ofChange paperAxesSpec)) paperAxesCard

/-- THE TIED CARD OF 'acreagelaw03.PaperCheckSpec'. -/
def paperCheckSpecCard : Claim7 := { stood := { row := paperCheckSpecRow, standIns := [], harness := (true, "66cf6bf338ab1ab75c55d6b9817594bdee3113a85e3da7095536de3637b4b771"), looks := false }, kinds := [], alts := [], laidByText := true, laidKinds := [.data], laidTests := true, laidLooks := .later }
def PaperCheckSpecCardSaid : Prop := Claim7.holds Tryd.pinned (.plain (OpenSpec.ofChange paperCheckSpecSpec)) paperCheckSpecCard

/-- THE TIED CARD OF 'acreagelaw03.PaperBoundsSpec'. -/
def paperBoundsSpecCard : Claim7 := { stood := { row := paperBoundsSpecRow, standIns := [], harness := (true, "66cf6bf338ab1ab75c55d6b9817594bdee3113a85e3da7095536de3637b4b771"), looks := false }, kinds := [], alts := [], laidByText := true, laidKinds := [.data], laidTests := true, laidLooks := .later }
def PaperBoundsSpecCardSaid : Prop := Claim7.holds Tryd.pinned (.plain (OpenSpec.ofChange paperBoundsSpecSpec)) paperBoundsSpecCard

/-- THE TIED CARD OF 'acreagelaw03.PaperTrueSpec'. -/
def paperTrueSpecCard : Claim7 := { stood := { row := paperTrueSpecRow, standIns := [], harness := (true, "66cf6bf338ab1ab75c55d6b9817594bdee3113a85e3da7095536de3637b4b771"), looks := false }, kinds := [], alts := [], laidByText := true, laidKinds := [.data], laidTests := true, laidLooks := .later }
def PaperTrueSpecCardSaid : Prop := Claim7.holds Tryd.pinned (.plain (OpenSpec.ofChange paperTrueSpecSpec)) paperTrueSpecCard

/-- THE TIED CARD OF 'acreagelaw03.PaperReasonsSpec'. -/
def paperReasonsSpecCard : Claim7 := { stood := { row := paperReasonsSpecRow, standIns := [], harness := (true, "66cf6bf338ab1ab75c55d6b9817594bdee3113a85e3da7095536de3637b4b771"), looks := false }, kinds := [], alts := [], laidByText := true, laidKinds := [.data], laidTests := true, laidLooks := .later }
def PaperReasonsSpecCardSaid : Prop := Claim7.holds Tryd.pinned (.plain (OpenSpec.ofChange paperReasonsSpecSpec)) paperReasonsSpecCard

/-- THE TIED CARD OF 'acreagelaw03.PaperHidden'. -/
def paperHiddenCard : Claim7 := { stood := { row := paperHiddenRow, standIns := [], harness := (true, "66cf6bf338ab1ab75c55d6b9817594bdee3113a85e3da7095536de3637b4b771"), looks := false }, kinds := [], alts := [], laidByText := true, laidKinds := [.data], laidTests := true, laidLooks := .later }
def PaperHiddenCardSaid : Prop := Claim7.holds Tryd.pinned (.plain (OpenSpec.ofChange paperHiddenSpec)) paperHiddenCard

/-- THE TIED CARD OF 'acreagelaw03.PaperExact'. -/
def paperExactCard : Claim7 := { stood := { row := paperExactRow, standIns := [], harness := (true, "66cf6bf338ab1ab75c55d6b9817594bdee3113a85e3da7095536de3637b4b771"), looks := false }, kinds := [], alts := [], laidByText := true, laidKinds := [.data], laidTests := true, laidLooks := .later }
def PaperExactCardSaid : Prop := Claim7.holds Tryd.pinned (.plain (OpenSpec.ofChange paperExactSpec)) paperExactCard

/-- THE TIED CARD OF 'acreagelaw03.PaperWithoutSpec'. -/
def paperWithoutSpecCard : Claim7 := { stood := { row := paperWithoutSpecRow, standIns := [], harness := (true, "66cf6bf338ab1ab75c55d6b9817594bdee3113a85e3da7095536de3637b4b771"), looks := false }, kinds := [], alts := [], laidByText := true, laidKinds := [.data], laidTests := true, laidLooks := .later }
def PaperWithoutSpecCardSaid : Prop := Claim7.holds Tryd.pinned (.plain (OpenSpec.ofChange paperWithoutSpecSpec)) paperWithoutSpecCard

/-- THE TIED CARD OF 'acreagelaw03.PaperMore'. -/
def paperMoreCard : Claim7 := { stood := { row := paperMoreRow, standIns := [], harness := (true, "66cf6bf338ab1ab75c55d6b9817594bdee3113a85e3da7095536de3637b4b771"), looks := false }, kinds := [], alts := [], laidByText := true, laidKinds := [.data], laidTests := true, laidLooks := .later }
def PaperMoreCardSaid : Prop := Claim7.holds Tryd.pinned (.plain (OpenSpec.ofChange paperMoreSpec)) paperMoreCard

/-- THE SECOND FORM's CARD OF 'acreagelaw03.PaperFactors'. -/
def paperFactorsUptoCard : Claim7 := { stood := { row := paperFactorsUptoRow, standIns := [], harness := (true, "66cf6bf338ab1ab75c55d6b9817594bdee3113a85e3da7095536de3637b4b771"), looks := false }, kinds := [], alts := [], laidByText := true, laidKinds := [.data], laidTests := true, laidLooks := .later }
def PaperFactorsUptoCardSaid : Prop := Claim7.holds Tryd.pinned (.plain (OpenSpec.upto paperFactorsSpec)) paperFactorsUptoCard

/-- THE SECOND FORM's CARD OF 'acreagelaw03.PaperQuotients'. -/
def paperQuotientsUptoCard : Claim7 := { stood := { row := paperQuotientsUptoRow, standIns := [], harness := (true, "66cf6bf338ab1ab75c55d6b9817594bdee3113a85e3da7095536de3637b4b771"), looks := false }, kinds := [], alts := [], laidByText := true, laidKinds := [.data], laidTests := true, laidLooks := .later }
def PaperQuotientsUptoCardSaid : Prop := Claim7.holds Tryd.pinned (.plain (OpenSpec.upto paperQuotientsSpec)) paperQuotientsUptoCard

/-- THE SECOND FORM's CARD OF 'acreagelaw03.PaperAxes'. -/
def paperAxesUptoCard : Claim7 := { stood := { row := paperAxesUptoRow, standIns := [], harness := (true, "66cf6bf338ab1ab75c55d6b9817594bdee3113a85e3da7095536de3637b4b771"), looks := false }, kinds := [], alts := [], laidByText := true, laidKinds := [.data], laidTests := true, laidLooks := .later }
def PaperAxesUptoCardSaid : Prop := Claim7.holds Tryd.pinned (.plain (OpenSpec.upto paperAxesSpec)) paperAxesUptoCard

/-- THE SECOND FORM's CARD OF 'acreagelaw03.PaperCheckSpec'. -/
def paperCheckSpecUptoCard : Claim7 := { stood := { row := paperCheckSpecUptoRow, standIns := [], harness := (true, "66cf6bf338ab1ab75c55d6b9817594bdee3113a85e3da7095536de3637b4b771"), looks := false }, kinds := [], alts := [], laidByText := true, laidKinds := [.data], laidTests := true, laidLooks := .later }
def PaperCheckSpecUptoCardSaid : Prop := Claim7.holds Tryd.pinned (.plain (OpenSpec.upto paperCheckSpecSpec)) paperCheckSpecUptoCard

/-- THE SECOND FORM's CARD OF 'acreagelaw03.PaperBoundsSpec'. -/
def paperBoundsSpecUptoCard : Claim7 := { stood := { row := paperBoundsSpecUptoRow, standIns := [], harness := (true, "66cf6bf338ab1ab75c55d6b9817594bdee3113a85e3da7095536de3637b4b771"), looks := false }, kinds := [], alts := [], laidByText := true, laidKinds := [.data], laidTests := true, laidLooks := .later }
def PaperBoundsSpecUptoCardSaid : Prop := Claim7.holds Tryd.pinned (.plain (OpenSpec.upto paperBoundsSpecSpec)) paperBoundsSpecUptoCard

/-- THE SECOND FORM's CARD OF 'acreagelaw03.PaperTrueSpec'. -/
def paperTrueSpecUptoCard : Claim7 := { stood := { row := paperTrueSpecUptoRow, standIns := [], harness := (true, "66cf6bf338ab1ab75c55d6b9817594bdee3113a85e3da7095536de3637b4b771"), looks := false }, kinds := [], alts := [], laidByText := true, laidKinds := [.data], laidTests := true, laidLooks := .later }
def PaperTrueSpecUptoCardSaid : Prop := Claim7.holds Tryd.pinned (.plain (OpenSpec.upto paperTrueSpecSpec)) paperTrueSpecUptoCard

/-- THE SECOND FORM's CARD OF 'acreagelaw03.PaperReasonsSpec'. -/
def paperReasonsSpecUptoCard : Claim7 := { stood := { row := paperReasonsSpecUptoRow, standIns := [], harness := (true, "66cf6bf338ab1ab75c55d6b9817594bdee3113a85e3da7095536de3637b4b771"), looks := false }, kinds := [], alts := [], laidByText := true, laidKinds := [.data], laidTests := true, laidLooks := .later }
def PaperReasonsSpecUptoCardSaid : Prop := Claim7.holds Tryd.pinned (.plain (OpenSpec.upto paperReasonsSpecSpec)) paperReasonsSpecUptoCard

/-- THE SECOND FORM's CARD OF 'acreagelaw03.PaperHidden'. -/
def paperHiddenUptoCard : Claim7 := { stood := { row := paperHiddenUptoRow, standIns := [], harness := (true, "66cf6bf338ab1ab75c55d6b9817594bdee3113a85e3da7095536de3637b4b771"), looks := false }, kinds := [], alts := [], laidByText := true, laidKinds := [.data], laidTests := true, laidLooks := .later }
def PaperHiddenUptoCardSaid : Prop := Claim7.holds Tryd.pinned (.plain (OpenSpec.upto paperHiddenSpec)) paperHiddenUptoCard

/-- THE SECOND FORM's CARD OF 'acreagelaw03.PaperExact'. -/
def paperExactUptoCard : Claim7 := { stood := { row := paperExactUptoRow, standIns := [], harness := (true, "66cf6bf338ab1ab75c55d6b9817594bdee3113a85e3da7095536de3637b4b771"), looks := false }, kinds := [], alts := [], laidByText := true, laidKinds := [.data], laidTests := true, laidLooks := .later }
def PaperExactUptoCardSaid : Prop := Claim7.holds Tryd.pinned (.plain (OpenSpec.upto paperExactSpec)) paperExactUptoCard

/-- THE SECOND FORM's CARD OF 'acreagelaw03.PaperWithoutSpec'. -/
def paperWithoutSpecUptoCard : Claim7 := { stood := { row := paperWithoutSpecUptoRow, standIns := [], harness := (true, "66cf6bf338ab1ab75c55d6b9817594bdee3113a85e3da7095536de3637b4b771"), looks := false }, kinds := [], alts := [], laidByText := true, laidKinds := [.data], laidTests := true, laidLooks := .later }
def PaperWithoutSpecUptoCardSaid : Prop := Claim7.holds Tryd.pinned (.plain (OpenSpec.upto paperWithoutSpecSpec)) paperWithoutSpecUptoCard

/-- THE SECOND FORM's CARD OF 'acreagelaw03.PaperMore'. -/
def paperMoreUptoCard : Claim7 := { stood := { row := paperMoreUptoRow, standIns := [], harness := (true, "66cf6bf338ab1ab75c55d6b9817594bdee3113a85e3da7095536de3637b4b771"), looks := false }, kinds := [], alts := [], laidByText := true, laidKinds := [.data], laidTests := true, laidLooks := .later }
def PaperMoreUptoCardSaid : Prop := Claim7.holds Tryd.pinned (.plain (OpenSpec.upto paperMoreSpec)) paperMoreUptoCard
end Rows
end Go.Proofs.YtbndhgnkgoggmaaDoor
