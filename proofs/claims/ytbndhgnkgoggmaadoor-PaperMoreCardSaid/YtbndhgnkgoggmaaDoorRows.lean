/-
  NARROWER THAN 'FOR EVERY INPUT', by the rows' own cells (each row's printed sentence says how): PaperFactors: laid · PaperQuotients: laid · PaperAxes: laid · PaperCheckSpec: laid · PaperBoundsSpec: laid · PaperTrueSpec: laid · PaperReasonsSpec: laid · PaperHidden: laid · PaperExact: laid · PaperWithoutSpec: laid · PaperMore: laid.
  DERIVED. THE GIVEN ROWS OF THIS SEAT. 11 by the template 'for every input the law returns true; each argument reads behind the call as it read before'; 0 by the template 'total and deterministic' (their statements: YtbndhgnkgoggmaaDoorTotals.lean).
  GIVEN WITH THE SEED: the statements are not yours to turn. If you find one false, say at which input.
  Laid BY PROGRAM, IN A SANDBOX (cutbox-rows.mjs): the forced cells as the released guide's own fill.sh prints them over the translation e19789a930c97423… (all of the seat's roots in one cut). By AI agents, Wed Nov 11 2026. No macro, syntax, notation, axiom, sorry.
-/
import Derived.Test.YtbndhgnkgoggmaaDoorChecked
import GoSem.Claim
import GoSem.ClaimJoined
import GoSem.ClaimMapViews
import Derived.JoinedTies
import Derived.KernelRfl
namespace Go.Proofs.YtbndhgnkgoggmaaDoor
/- THE CELL 'sum', in the pinned program and in every row, IS THE sha256 OF THE DUMP (.gsa) THAT YtbndhgnkgoggmaaDoorProg.lean LOADS. Nothing in Lean hashes anything: it is a label: what it is worth is what the hold of that sum in a sandbox is worth. -/
noncomputable def Tryd.pinned : Pinned := { name := "ytbndhgnkgoggmaadoor", sum := "e19789a930c974236b6ffbc0efb432e5459c65810124cc1c34294479ce8a28b5", checked := Tryd.checked }
namespace Rows
def none {H : Type} : Left H := { results := [], args := [] }

/- WHAT THE LISTED PACKAGE-LEVEL VARIABLES READ AS WHEN THE CALL BEGINS. Each datum BY PROGRAM (the guide's laid-datum.mjs) off the statement by which the dump's own 'gosem.cut.vars' lays the variable. In a bare row this is a premise. The card (YtbndhgnkgoggmaaDoorCards.lean) ties it to the program's text. -/
def laid_acreage_paper_one {H : Type} : DataW H := .agg [.lit (.int .i64 1), .lit (.int .i64 1)]

/-- 'acreagelaw03.PaperFactors': WHATEVER THE INPUT: true; the input reads as it did. -/
def paperFactorsSpec : ChangeSpec := { name := "paperFactors", fn := fun _ => fun
  | [d1, d2] => { results := [.lit (.bool true)], args := [d1, d2] }
  | _ => none }
def paperFactorsRow : OpenClaim := { program := "ytbndhgnkgoggmaadoor", sum := "e19789a930c974236b6ffbc0efb432e5459c65810124cc1c34294479ce8a28b5", func := "acreage/acreagelaw03.PaperFactors", spec := "paperFactors", unfollowed := true, recurses := true, named := ["acreage/paper.one", "math/bits.divideError", "math/bits.overflowError"], apart := false, laid := [("acreage/paper.one", laid_acreage_paper_one)] }
def PaperFactorsSaid : Prop := paperFactorsRow.holds Tryd.pinned (OpenSpec.ofChange paperFactorsSpec)

/-- ITS FALSE NEIGHBOUR: 'it returns false'. Refute it at one input. -/
def paperFactorsWrong : ChangeSpec := { name := "paperFactors", fn := fun _ => fun
  | [d1, d2] => { results := [.lit (.bool false)], args := [d1, d2] }
  | _ => none }
def PaperFactorsWrongFalsely : Prop := paperFactorsRow.holds Tryd.pinned (OpenSpec.ofChange paperFactorsWrong)

/-- 'acreagelaw03.PaperQuotients': WHATEVER THE INPUT: true; the input reads as it did. -/
def paperQuotientsSpec : ChangeSpec := { name := "paperQuotients", fn := fun _ => fun
  | [d1, d2, d3, d4, d5] => { results := [.lit (.bool true)], args := [d1, d2, d3, d4, d5] }
  | _ => none }
def paperQuotientsRow : OpenClaim := { program := "ytbndhgnkgoggmaadoor", sum := "e19789a930c974236b6ffbc0efb432e5459c65810124cc1c34294479ce8a28b5", func := "acreage/acreagelaw03.PaperQuotients", spec := "paperQuotients", unfollowed := true, recurses := true, named := ["acreage/paper.one", "math/bits.divideError", "math/bits.overflowError"], apart := false, laid := [("acreage/paper.one", laid_acreage_paper_one)] }
def PaperQuotientsSaid : Prop := paperQuotientsRow.holds Tryd.pinned (OpenSpec.ofChange paperQuotientsSpec)

/-- ITS FALSE NEIGHBOUR: 'it returns false'. Refute it at one input. -/
def paperQuotientsWrong : ChangeSpec := { name := "paperQuotients", fn := fun _ => fun
  | [d1, d2, d3, d4, d5] => { results := [.lit (.bool false)], args := [d1, d2, d3, d4, d5] }
  | _ => none }
def PaperQuotientsWrongFalsely : Prop := paperQuotientsRow.holds Tryd.pinned (OpenSpec.ofChange paperQuotientsWrong)

/-- 'acreagelaw03.PaperAxes': WHATEVER THE INPUT: true; the input reads as it did. -/
def paperAxesSpec : ChangeSpec := { name := "paperAxes", fn := fun _ => fun
  | [d1, d2, d3] => { results := [.lit (.bool true)], args := [d1, d2, d3] }
  | _ => none }
def paperAxesRow : OpenClaim := { program := "ytbndhgnkgoggmaadoor", sum := "e19789a930c974236b6ffbc0efb432e5459c65810124cc1c34294479ce8a28b5", func := "acreage/acreagelaw03.PaperAxes", spec := "paperAxes", unfollowed := true, recurses := true, named := ["acreage/paper.one", "math/bits.divideError", "math/bits.overflowError"], apart := false, laid := [("acreage/paper.one", laid_acreage_paper_one)] }
def PaperAxesSaid : Prop := paperAxesRow.holds Tryd.pinned (OpenSpec.ofChange paperAxesSpec)

/-- ITS FALSE NEIGHBOUR: 'it returns false'. Refute it at one input. -/
def paperAxesWrong : ChangeSpec := { name := "paperAxes", fn := fun _ => fun
  | [d1, d2, d3] => { results := [.lit (.bool false)], args := [d1, d2, d3] }
  | _ => none }
def PaperAxesWrongFalsely : Prop := paperAxesRow.holds Tryd.pinned (OpenSpec.ofChange paperAxesWrong)

/-- 'acreagelaw03.PaperCheckSpec': WHATEVER THE INPUT: true; the input reads as it did. -/
def paperCheckSpecSpec : ChangeSpec := { name := "paperCheckSpec", fn := fun _ => fun
  | [d1, d2, d3, d4] => { results := [.lit (.bool true)], args := [d1, d2, d3, d4] }
  | _ => none }
def paperCheckSpecRow : OpenClaim := { program := "ytbndhgnkgoggmaadoor", sum := "e19789a930c974236b6ffbc0efb432e5459c65810124cc1c34294479ce8a28b5", func := "acreage/acreagelaw03.PaperCheckSpec", spec := "paperCheckSpec", unfollowed := true, recurses := true, named := ["acreage/paper.one", "math/bits.divideError", "math/bits.overflowError"], apart := false, laid := [("acreage/paper.one", laid_acreage_paper_one)] }
def PaperCheckSpecSaid : Prop := paperCheckSpecRow.holds Tryd.pinned (OpenSpec.ofChange paperCheckSpecSpec)

/-- ITS FALSE NEIGHBOUR: 'it returns false'. Refute it at one input. -/
def paperCheckSpecWrong : ChangeSpec := { name := "paperCheckSpec", fn := fun _ => fun
  | [d1, d2, d3, d4] => { results := [.lit (.bool false)], args := [d1, d2, d3, d4] }
  | _ => none }
def PaperCheckSpecWrongFalsely : Prop := paperCheckSpecRow.holds Tryd.pinned (OpenSpec.ofChange paperCheckSpecWrong)

/-- 'acreagelaw03.PaperBoundsSpec': WHATEVER THE INPUT: true; the input reads as it did. -/
def paperBoundsSpecSpec : ChangeSpec := { name := "paperBoundsSpec", fn := fun _ => fun
  | [d1, d2, d3, d4] => { results := [.lit (.bool true)], args := [d1, d2, d3, d4] }
  | _ => none }
def paperBoundsSpecRow : OpenClaim := { program := "ytbndhgnkgoggmaadoor", sum := "e19789a930c974236b6ffbc0efb432e5459c65810124cc1c34294479ce8a28b5", func := "acreage/acreagelaw03.PaperBoundsSpec", spec := "paperBoundsSpec", unfollowed := true, recurses := true, named := ["acreage/paper.one", "math/bits.divideError", "math/bits.overflowError"], apart := false, laid := [("acreage/paper.one", laid_acreage_paper_one)] }
def PaperBoundsSpecSaid : Prop := paperBoundsSpecRow.holds Tryd.pinned (OpenSpec.ofChange paperBoundsSpecSpec)

/-- ITS FALSE NEIGHBOUR: 'it returns false'. Refute it at one input. -/
def paperBoundsSpecWrong : ChangeSpec := { name := "paperBoundsSpec", fn := fun _ => fun
  | [d1, d2, d3, d4] => { results := [.lit (.bool false)], args := [d1, d2, d3, d4] }
  | _ => none }
def PaperBoundsSpecWrongFalsely : Prop := paperBoundsSpecRow.holds Tryd.pinned (OpenSpec.ofChange paperBoundsSpecWrong)

/-- 'acreagelaw03.PaperTrueSpec': WHATEVER THE INPUT: true; the input reads as it did. -/
def paperTrueSpecSpec : ChangeSpec := { name := "paperTrueSpec", fn := fun _ => fun
  | [d1, d2, d3, d4] => { results := [.lit (.bool true)], args := [d1, d2, d3, d4] }
  | _ => none }
def paperTrueSpecRow : OpenClaim := { program := "ytbndhgnkgoggmaadoor", sum := "e19789a930c974236b6ffbc0efb432e5459c65810124cc1c34294479ce8a28b5", func := "acreage/acreagelaw03.PaperTrueSpec", spec := "paperTrueSpec", unfollowed := true, recurses := true, named := ["acreage/paper.one", "math/bits.divideError", "math/bits.overflowError"], apart := false, laid := [("acreage/paper.one", laid_acreage_paper_one)] }
def PaperTrueSpecSaid : Prop := paperTrueSpecRow.holds Tryd.pinned (OpenSpec.ofChange paperTrueSpecSpec)

/-- ITS FALSE NEIGHBOUR: 'it returns false'. Refute it at one input. -/
def paperTrueSpecWrong : ChangeSpec := { name := "paperTrueSpec", fn := fun _ => fun
  | [d1, d2, d3, d4] => { results := [.lit (.bool false)], args := [d1, d2, d3, d4] }
  | _ => none }
def PaperTrueSpecWrongFalsely : Prop := paperTrueSpecRow.holds Tryd.pinned (OpenSpec.ofChange paperTrueSpecWrong)

/-- 'acreagelaw03.PaperReasonsSpec': WHATEVER THE INPUT: true; the input reads as it did. -/
def paperReasonsSpecSpec : ChangeSpec := { name := "paperReasonsSpec", fn := fun _ => fun
  | [d1, d2, d3, d4, d5, d6] => { results := [.lit (.bool true)], args := [d1, d2, d3, d4, d5, d6] }
  | _ => none }
def paperReasonsSpecRow : OpenClaim := { program := "ytbndhgnkgoggmaadoor", sum := "e19789a930c974236b6ffbc0efb432e5459c65810124cc1c34294479ce8a28b5", func := "acreage/acreagelaw03.PaperReasonsSpec", spec := "paperReasonsSpec", unfollowed := true, recurses := true, named := ["acreage/paper.one", "math/bits.divideError", "math/bits.overflowError"], apart := false, laid := [("acreage/paper.one", laid_acreage_paper_one)] }
def PaperReasonsSpecSaid : Prop := paperReasonsSpecRow.holds Tryd.pinned (OpenSpec.ofChange paperReasonsSpecSpec)

/-- ITS FALSE NEIGHBOUR: 'it returns false'. Refute it at one input. -/
def paperReasonsSpecWrong : ChangeSpec := { name := "paperReasonsSpec", fn := fun _ => fun
  | [d1, d2, d3, d4, d5, d6] => { results := [.lit (.bool false)], args := [d1, d2, d3, d4, d5, d6] }
  | _ => none }
def PaperReasonsSpecWrongFalsely : Prop := paperReasonsSpecRow.holds Tryd.pinned (OpenSpec.ofChange paperReasonsSpecWrong)

/-- 'acreagelaw03.PaperHidden': WHATEVER THE INPUT: true; the input reads as it did. -/
def paperHiddenSpec : ChangeSpec := { name := "paperHidden", fn := fun _ => fun
  | [d1, d2, d3, d4, d5] => { results := [.lit (.bool true)], args := [d1, d2, d3, d4, d5] }
  | _ => none }
def paperHiddenRow : OpenClaim := { program := "ytbndhgnkgoggmaadoor", sum := "e19789a930c974236b6ffbc0efb432e5459c65810124cc1c34294479ce8a28b5", func := "acreage/acreagelaw03.PaperHidden", spec := "paperHidden", unfollowed := true, recurses := true, named := ["acreage/paper.one", "math/bits.divideError", "math/bits.overflowError"], apart := false, laid := [("acreage/paper.one", laid_acreage_paper_one)] }
def PaperHiddenSaid : Prop := paperHiddenRow.holds Tryd.pinned (OpenSpec.ofChange paperHiddenSpec)

/-- ITS FALSE NEIGHBOUR: 'it returns false'. Refute it at one input. -/
def paperHiddenWrong : ChangeSpec := { name := "paperHidden", fn := fun _ => fun
  | [d1, d2, d3, d4, d5] => { results := [.lit (.bool false)], args := [d1, d2, d3, d4, d5] }
  | _ => none }
def PaperHiddenWrongFalsely : Prop := paperHiddenRow.holds Tryd.pinned (OpenSpec.ofChange paperHiddenWrong)

/-- 'acreagelaw03.PaperExact': WHATEVER THE INPUT: true; the input reads as it did. -/
def paperExactSpec : ChangeSpec := { name := "paperExact", fn := fun _ => fun
  | [d1, d2, d3, d4, d5, d6, d7] => { results := [.lit (.bool true)], args := [d1, d2, d3, d4, d5, d6, d7] }
  | _ => none }
def paperExactRow : OpenClaim := { program := "ytbndhgnkgoggmaadoor", sum := "e19789a930c974236b6ffbc0efb432e5459c65810124cc1c34294479ce8a28b5", func := "acreage/acreagelaw03.PaperExact", spec := "paperExact", unfollowed := true, recurses := true, named := ["acreage/paper.one", "math/bits.divideError", "math/bits.overflowError"], apart := false, laid := [("acreage/paper.one", laid_acreage_paper_one)] }
def PaperExactSaid : Prop := paperExactRow.holds Tryd.pinned (OpenSpec.ofChange paperExactSpec)

/-- ITS FALSE NEIGHBOUR: 'it returns false'. Refute it at one input. -/
def paperExactWrong : ChangeSpec := { name := "paperExact", fn := fun _ => fun
  | [d1, d2, d3, d4, d5, d6, d7] => { results := [.lit (.bool false)], args := [d1, d2, d3, d4, d5, d6, d7] }
  | _ => none }
def PaperExactWrongFalsely : Prop := paperExactRow.holds Tryd.pinned (OpenSpec.ofChange paperExactWrong)

/-- 'acreagelaw03.PaperWithoutSpec': WHATEVER THE INPUT: true; the input reads as it did. -/
def paperWithoutSpecSpec : ChangeSpec := { name := "paperWithoutSpec", fn := fun _ => fun
  | [d1, d2, d3, d4] => { results := [.lit (.bool true)], args := [d1, d2, d3, d4] }
  | _ => none }
def paperWithoutSpecRow : OpenClaim := { program := "ytbndhgnkgoggmaadoor", sum := "e19789a930c974236b6ffbc0efb432e5459c65810124cc1c34294479ce8a28b5", func := "acreage/acreagelaw03.PaperWithoutSpec", spec := "paperWithoutSpec", unfollowed := true, recurses := true, named := ["acreage/paper.one", "math/bits.divideError", "math/bits.overflowError"], apart := false, laid := [("acreage/paper.one", laid_acreage_paper_one)] }
def PaperWithoutSpecSaid : Prop := paperWithoutSpecRow.holds Tryd.pinned (OpenSpec.ofChange paperWithoutSpecSpec)

/-- ITS FALSE NEIGHBOUR: 'it returns false'. Refute it at one input. -/
def paperWithoutSpecWrong : ChangeSpec := { name := "paperWithoutSpec", fn := fun _ => fun
  | [d1, d2, d3, d4] => { results := [.lit (.bool false)], args := [d1, d2, d3, d4] }
  | _ => none }
def PaperWithoutSpecWrongFalsely : Prop := paperWithoutSpecRow.holds Tryd.pinned (OpenSpec.ofChange paperWithoutSpecWrong)

/-- 'acreagelaw03.PaperMore': WHATEVER THE INPUT: true; the input reads as it did. -/
def paperMoreSpec : ChangeSpec := { name := "paperMore", fn := fun _ => fun
  | [d1, d2, d3, d4, d5, d6, d7, d8, d9] => { results := [.lit (.bool true)], args := [d1, d2, d3, d4, d5, d6, d7, d8, d9] }
  | _ => none }
def paperMoreRow : OpenClaim := { program := "ytbndhgnkgoggmaadoor", sum := "e19789a930c974236b6ffbc0efb432e5459c65810124cc1c34294479ce8a28b5", func := "acreage/acreagelaw03.PaperMore", spec := "paperMore", unfollowed := true, recurses := true, named := ["acreage/paper.one", "math/bits.divideError", "math/bits.overflowError"], apart := false, laid := [("acreage/paper.one", laid_acreage_paper_one)] }
def PaperMoreSaid : Prop := paperMoreRow.holds Tryd.pinned (OpenSpec.ofChange paperMoreSpec)

/-- ITS FALSE NEIGHBOUR: 'it returns false'. Refute it at one input. -/
def paperMoreWrong : ChangeSpec := { name := "paperMore", fn := fun _ => fun
  | [d1, d2, d3, d4, d5, d6, d7, d8, d9] => { results := [.lit (.bool false)], args := [d1, d2, d3, d4, d5, d6, d7, d8, d9] }
  | _ => none }
def PaperMoreWrongFalsely : Prop := paperMoreRow.holds Tryd.pinned (OpenSpec.ofChange paperMoreWrong)

/- THE SECOND FORM. 'bulk': how many values and letters a reading holds, each counted each time it is reached (what is shared counts as often as it is met; a slice's spare places count too). A statement '..UptoSaid' is the law's where the arguments, and the package variables that the reading takes, are together of bulk at most 1048576: NARROWER than '..Said'. Prove '..Said' where nothing that the law and all that it calls make is longer than what came in: it says more and counts as full. Else prove '..UptoSaid'. A law counts once. -/
mutual
def uptoBulk {H : Type} : DataW H → Nat
  | .lit (.string bytes) => bytes.length + 1
  | .lit _ => 1
  | .nil => 1
  | .ptr d => uptoBulk d + 1
  | .slice elems spare => uptoBulkAll elems + uptoBulkAll spare + 1
  | .agg parts => uptoBulkAll parts + 1
  | .iface _ d => uptoBulk d + 1
  | .map entries => uptoBulkEntries entries + 1
  | .held _ => 1
def uptoBulkAll {H : Type} : List (DataW H) → Nat
  | [] => 0
  | d :: r => uptoBulk d + uptoBulkAll r
def uptoBulkEntries {H : Type} : List (Lit × DataW H) → Nat
  | [] => 0
  | x :: r => uptoBulkEntry x + uptoBulkEntries r
def uptoBulkEntry {H : Type} : Lit × DataW H → Nat
  | (.string bytes, d) => bytes.length + uptoBulk d + 1
  | (_, d) => uptoBulk d + 1
 end
def uptoSmall : (H : Type) → List (DataW H) → Bool := fun _ ds => decide (uptoBulkAll ds ≤ 1048576)
def OpenSpec.upto (s : _root_.Go.ChangeSpec) : _root_.Go.OpenSpec := { _root_.Go.OpenSpec.ofChange s with cond := some uptoSmall }

/-- 'acreagelaw03.PaperFactors', WHERE WHAT IT READS IS OF BULK AT MOST 1048576: true; the input reads as it did. -/
def paperFactorsUptoRow : OpenClaim := { program := "ytbndhgnkgoggmaadoor", sum := "e19789a930c974236b6ffbc0efb432e5459c65810124cc1c34294479ce8a28b5", func := "acreage/acreagelaw03.PaperFactors", spec := "paperFactors", unfollowed := true, recurses := true, named := ["acreage/paper.one", "math/bits.divideError", "math/bits.overflowError"], apart := false, laid := [("acreage/paper.one", laid_acreage_paper_one)], narrowed := true }
def PaperFactorsUptoSaid : Prop := paperFactorsUptoRow.holds Tryd.pinned (OpenSpec.upto paperFactorsSpec)

/-- 'acreagelaw03.PaperQuotients', WHERE WHAT IT READS IS OF BULK AT MOST 1048576: true; the input reads as it did. -/
def paperQuotientsUptoRow : OpenClaim := { program := "ytbndhgnkgoggmaadoor", sum := "e19789a930c974236b6ffbc0efb432e5459c65810124cc1c34294479ce8a28b5", func := "acreage/acreagelaw03.PaperQuotients", spec := "paperQuotients", unfollowed := true, recurses := true, named := ["acreage/paper.one", "math/bits.divideError", "math/bits.overflowError"], apart := false, laid := [("acreage/paper.one", laid_acreage_paper_one)], narrowed := true }
def PaperQuotientsUptoSaid : Prop := paperQuotientsUptoRow.holds Tryd.pinned (OpenSpec.upto paperQuotientsSpec)

/-- 'acreagelaw03.PaperAxes', WHERE WHAT IT READS IS OF BULK AT MOST 1048576: true; the input reads as it did. -/
def paperAxesUptoRow : OpenClaim := { program := "ytbndhgnkgoggmaadoor", sum := "e19789a930c974236b6ffbc0efb432e5459c65810124cc1c34294479ce8a28b5", func := "acreage/acreagelaw03.PaperAxes", spec := "paperAxes", unfollowed := true, recurses := true, named := ["acreage/paper.one", "math/bits.divideError", "math/bits.overflowError"], apart := false, laid := [("acreage/paper.one", laid_acreage_paper_one)], narrowed := true }
def PaperAxesUptoSaid : Prop := paperAxesUptoRow.holds Tryd.pinned (OpenSpec.upto paperAxesSpec)

/-- 'acreagelaw03.PaperCheckSpec', WHERE WHAT IT READS IS OF BULK AT MOST 1048576: true; the input reads as it did. -/
def paperCheckSpecUptoRow : OpenClaim := { program := "ytbndhgnkgoggmaadoor", sum := "e19789a930c974236b6ffbc0efb432e5459c65810124cc1c34294479ce8a28b5", func := "acreage/acreagelaw03.PaperCheckSpec", spec := "paperCheckSpec", unfollowed := true, recurses := true, named := ["acreage/paper.one", "math/bits.divideError", "math/bits.overflowError"], apart := false, laid := [("acreage/paper.one", laid_acreage_paper_one)], narrowed := true }
def PaperCheckSpecUptoSaid : Prop := paperCheckSpecUptoRow.holds Tryd.pinned (OpenSpec.upto paperCheckSpecSpec)

/-- 'acreagelaw03.PaperBoundsSpec', WHERE WHAT IT READS IS OF BULK AT MOST 1048576: true; the input reads as it did. -/
def paperBoundsSpecUptoRow : OpenClaim := { program := "ytbndhgnkgoggmaadoor", sum := "e19789a930c974236b6ffbc0efb432e5459c65810124cc1c34294479ce8a28b5", func := "acreage/acreagelaw03.PaperBoundsSpec", spec := "paperBoundsSpec", unfollowed := true, recurses := true, named := ["acreage/paper.one", "math/bits.divideError", "math/bits.overflowError"], apart := false, laid := [("acreage/paper.one", laid_acreage_paper_one)], narrowed := true }
def PaperBoundsSpecUptoSaid : Prop := paperBoundsSpecUptoRow.holds Tryd.pinned (OpenSpec.upto paperBoundsSpecSpec)

/-- 'acreagelaw03.PaperTrueSpec', WHERE WHAT IT READS IS OF BULK AT MOST 1048576: true; the input reads as it did. -/
def paperTrueSpecUptoRow : OpenClaim := { program := "ytbndhgnkgoggmaadoor", sum := "e19789a930c974236b6ffbc0efb432e5459c65810124cc1c34294479ce8a28b5", func := "acreage/acreagelaw03.PaperTrueSpec", spec := "paperTrueSpec", unfollowed := true, recurses := true, named := ["acreage/paper.one", "math/bits.divideError", "math/bits.overflowError"], apart := false, laid := [("acreage/paper.one", laid_acreage_paper_one)], narrowed := true }
def PaperTrueSpecUptoSaid : Prop := paperTrueSpecUptoRow.holds Tryd.pinned (OpenSpec.upto paperTrueSpecSpec)

/-- 'acreagelaw03.PaperReasonsSpec', WHERE WHAT IT READS IS OF BULK AT MOST 1048576: true; the input reads as it did. -/
def paperReasonsSpecUptoRow : OpenClaim := { program := "ytbndhgnkgoggmaadoor", sum := "e19789a930c974236b6ffbc0efb432e5459c65810124cc1c34294479ce8a28b5", func := "acreage/acreagelaw03.PaperReasonsSpec", spec := "paperReasonsSpec", unfollowed := true, recurses := true, named := ["acreage/paper.one", "math/bits.divideError", "math/bits.overflowError"], apart := false, laid := [("acreage/paper.one", laid_acreage_paper_one)], narrowed := true }
def PaperReasonsSpecUptoSaid : Prop := paperReasonsSpecUptoRow.holds Tryd.pinned (OpenSpec.upto paperReasonsSpecSpec)

/-- 'acreagelaw03.PaperHidden', WHERE WHAT IT READS IS OF BULK AT MOST 1048576: true; the input reads as it did. -/
def paperHiddenUptoRow : OpenClaim := { program := "ytbndhgnkgoggmaadoor", sum := "e19789a930c974236b6ffbc0efb432e5459c65810124cc1c34294479ce8a28b5", func := "acreage/acreagelaw03.PaperHidden", spec := "paperHidden", unfollowed := true, recurses := true, named := ["acreage/paper.one", "math/bits.divideError", "math/bits.overflowError"], apart := false, laid := [("acreage/paper.one", laid_acreage_paper_one)], narrowed := true }
def PaperHiddenUptoSaid : Prop := paperHiddenUptoRow.holds Tryd.pinned (OpenSpec.upto paperHiddenSpec)

/-- 'acreagelaw03.PaperExact', WHERE WHAT IT READS IS OF BULK AT MOST 1048576: true; the input reads as it did. -/
def paperExactUptoRow : OpenClaim := { program := "ytbndhgnkgoggmaadoor", sum := "e19789a930c974236b6ffbc0efb432e5459c65810124cc1c34294479ce8a28b5", func := "acreage/acreagelaw03.PaperExact", spec := "paperExact", unfollowed := true, recurses := true, named := ["acreage/paper.one", "math/bits.divideError", "math/bits.overflowError"], apart := false, laid := [("acreage/paper.one", laid_acreage_paper_one)], narrowed := true }
def PaperExactUptoSaid : Prop := paperExactUptoRow.holds Tryd.pinned (OpenSpec.upto paperExactSpec)

/-- 'acreagelaw03.PaperWithoutSpec', WHERE WHAT IT READS IS OF BULK AT MOST 1048576: true; the input reads as it did. -/
def paperWithoutSpecUptoRow : OpenClaim := { program := "ytbndhgnkgoggmaadoor", sum := "e19789a930c974236b6ffbc0efb432e5459c65810124cc1c34294479ce8a28b5", func := "acreage/acreagelaw03.PaperWithoutSpec", spec := "paperWithoutSpec", unfollowed := true, recurses := true, named := ["acreage/paper.one", "math/bits.divideError", "math/bits.overflowError"], apart := false, laid := [("acreage/paper.one", laid_acreage_paper_one)], narrowed := true }
def PaperWithoutSpecUptoSaid : Prop := paperWithoutSpecUptoRow.holds Tryd.pinned (OpenSpec.upto paperWithoutSpecSpec)

/-- 'acreagelaw03.PaperMore', WHERE WHAT IT READS IS OF BULK AT MOST 1048576: true; the input reads as it did. -/
def paperMoreUptoRow : OpenClaim := { program := "ytbndhgnkgoggmaadoor", sum := "e19789a930c974236b6ffbc0efb432e5459c65810124cc1c34294479ce8a28b5", func := "acreage/acreagelaw03.PaperMore", spec := "paperMore", unfollowed := true, recurses := true, named := ["acreage/paper.one", "math/bits.divideError", "math/bits.overflowError"], apart := false, laid := [("acreage/paper.one", laid_acreage_paper_one)], narrowed := true }
def PaperMoreUptoSaid : Prop := paperMoreUptoRow.holds Tryd.pinned (OpenSpec.upto paperMoreSpec)

end Rows
end Go.Proofs.YtbndhgnkgoggmaaDoor
