/-
  No cell of these rows narrows 'for every input' (looked for: loops, veiled, ifaces, maps, wideKeys, modest, calm, conditions, laid).
  DERIVED. THE GIVEN ROWS OF THIS SEAT. 4 by the template 'for every input the law returns true; each argument reads behind the call as it read before'; 0 by the template 'total and deterministic' (their statements: YtnifoeahomkdlaaGreatTotals.lean).
  GIVEN WITH THE SEED: the statements are not yours to turn. If you find one false, say at which input.
  Laid BY PROGRAM, IN A SANDBOX (cutbox-rows.mjs): the forced cells as the released guide's own fill.sh prints them over the translation 400ec60e08a16ffa… (all of the seat's roots in one cut). By AI agents, Wed Nov 11 2026. No macro, syntax, notation, axiom, sorry.
-/
import Derived.Test.YtnifoeahomkdlaaGreatChecked
import GoSem.Claim
import GoSem.ClaimJoined
import GoSem.ClaimMapViews
import Derived.JoinedTies
import Derived.KernelRfl
namespace Go.Proofs.YtnifoeahomkdlaaGreat
/- THE CELL 'sum', in the pinned program and in every row, IS THE sha256 OF THE DUMP (.gsa) THAT YtnifoeahomkdlaaGreatProg.lean LOADS. Nothing in Lean hashes anything: it is a label: what it is worth is what the hold of that sum in a sandbox is worth. -/
noncomputable def Tryz.pinned : Pinned := { name := "ytnifoeahomkdlaagreat", sum := "400ec60e08a16ffa9ba08444086cd7beb0c5061559502af0257423743f13863e", checked := Tryz.checked }
namespace Rows
def none {H : Type} : Left H := { results := [], args := [] }

/-- 'acreagelaw08.OrdersLeast': WHATEVER THE INPUT: true; the input reads as it did. -/
def ordersLeastSpec : ChangeSpec := { name := "ordersLeast", fn := fun _ => fun
  | [d1, d2] => { results := [.lit (.bool true)], args := [d1, d2] }
  | _ => none }
def ordersLeastRow : OpenClaim := { program := "ytnifoeahomkdlaagreat", sum := "400ec60e08a16ffa9ba08444086cd7beb0c5061559502af0257423743f13863e", func := "acreage/acreagelaw08.OrdersLeast", spec := "ordersLeast", unfollowed := true, recurses := true, apart := false }
def OrdersLeastSaid : Prop := ordersLeastRow.holds Tryz.pinned (OpenSpec.ofChange ordersLeastSpec)

/-- ITS FALSE NEIGHBOUR: 'it returns false'. Refute it at one input. -/
def ordersLeastWrong : ChangeSpec := { name := "ordersLeast", fn := fun _ => fun
  | [d1, d2] => { results := [.lit (.bool false)], args := [d1, d2] }
  | _ => none }
def OrdersLeastWrongFalsely : Prop := ordersLeastRow.holds Tryz.pinned (OpenSpec.ofChange ordersLeastWrong)

/-- 'acreagelaw08.OrdersDecides': WHATEVER THE INPUT: true; the input reads as it did. -/
def ordersDecidesSpec : ChangeSpec := { name := "ordersDecides", fn := fun _ => fun
  | [d1, d2, d3, d4] => { results := [.lit (.bool true)], args := [d1, d2, d3, d4] }
  | _ => none }
def ordersDecidesRow : OpenClaim := { program := "ytnifoeahomkdlaagreat", sum := "400ec60e08a16ffa9ba08444086cd7beb0c5061559502af0257423743f13863e", func := "acreage/acreagelaw08.OrdersDecides", spec := "ordersDecides", unfollowed := true, recurses := true, apart := false }
def OrdersDecidesSaid : Prop := ordersDecidesRow.holds Tryz.pinned (OpenSpec.ofChange ordersDecidesSpec)

/-- ITS FALSE NEIGHBOUR: 'it returns false'. Refute it at one input. -/
def ordersDecidesWrong : ChangeSpec := { name := "ordersDecides", fn := fun _ => fun
  | [d1, d2, d3, d4] => { results := [.lit (.bool false)], args := [d1, d2, d3, d4] }
  | _ => none }
def OrdersDecidesWrongFalsely : Prop := ordersDecidesRow.holds Tryz.pinned (OpenSpec.ofChange ordersDecidesWrong)

/-- 'acreagelaw08.OrdersWorst': WHATEVER THE INPUT: true; the input reads as it did. -/
def ordersWorstSpec : ChangeSpec := { name := "ordersWorst", fn := fun _ => fun
  | [d1, d2] => { results := [.lit (.bool true)], args := [d1, d2] }
  | _ => none }
def ordersWorstRow : OpenClaim := { program := "ytnifoeahomkdlaagreat", sum := "400ec60e08a16ffa9ba08444086cd7beb0c5061559502af0257423743f13863e", func := "acreage/acreagelaw08.OrdersWorst", spec := "ordersWorst", unfollowed := true, recurses := true, apart := false }
def OrdersWorstSaid : Prop := ordersWorstRow.holds Tryz.pinned (OpenSpec.ofChange ordersWorstSpec)

/-- ITS FALSE NEIGHBOUR: 'it returns false'. Refute it at one input. -/
def ordersWorstWrong : ChangeSpec := { name := "ordersWorst", fn := fun _ => fun
  | [d1, d2] => { results := [.lit (.bool false)], args := [d1, d2] }
  | _ => none }
def OrdersWorstWrongFalsely : Prop := ordersWorstRow.holds Tryz.pinned (OpenSpec.ofChange ordersWorstWrong)

/-- 'acreagelaw08.OrdersKnown': WHATEVER THE INPUT: true; the input reads as it did. -/
def ordersKnownSpec : ChangeSpec := { name := "ordersKnown", fn := fun _ => fun
  | [d1, d2, d3, d4, d5] => { results := [.lit (.bool true)], args := [d1, d2, d3, d4, d5] }
  | _ => none }
def ordersKnownRow : OpenClaim := { program := "ytnifoeahomkdlaagreat", sum := "400ec60e08a16ffa9ba08444086cd7beb0c5061559502af0257423743f13863e", func := "acreage/acreagelaw08.OrdersKnown", spec := "ordersKnown", unfollowed := true, recurses := true, apart := false }
def OrdersKnownSaid : Prop := ordersKnownRow.holds Tryz.pinned (OpenSpec.ofChange ordersKnownSpec)

/-- ITS FALSE NEIGHBOUR: 'it returns false'. Refute it at one input. -/
def ordersKnownWrong : ChangeSpec := { name := "ordersKnown", fn := fun _ => fun
  | [d1, d2, d3, d4, d5] => { results := [.lit (.bool false)], args := [d1, d2, d3, d4, d5] }
  | _ => none }
def OrdersKnownWrongFalsely : Prop := ordersKnownRow.holds Tryz.pinned (OpenSpec.ofChange ordersKnownWrong)

/- THE SECOND FORM. 'bulk': how many values and letters a reading holds, each counted each time it is reached (what is shared counts as often as it is met; a slice's spare places count too). A statement '..UptoSaid' is the law's where the arguments, and the package variables that the reading takes, are together of bulk at most 1048576: NARROWER than '..Said'. Prove '..Said' where nothing that the law and all that it calls make is longer than what came in: it says more and counts as full. Else prove '..UptoSaid'. A law counts once. -/
mutual
def uptoBulk {H : Type} : DataW H → Nat
  | .lit (.string bytes) => bytes.length + 1
  | .lit _ => 1
  | .nil => 1
  | .ptr d => uptoBulk d + 1
  | .slice elems spare => uptoBulkAll elems + uptoBulkAll spare + 1
  | .agg parts => uptoBulkAll parts + 1
  | .iface _ d => uptoBulk d + 1
  | .map entries => uptoBulkEntries entries + 1
  | .held _ => 1
def uptoBulkAll {H : Type} : List (DataW H) → Nat
  | [] => 0
  | d :: r => uptoBulk d + uptoBulkAll r
def uptoBulkEntries {H : Type} : List (Lit × DataW H) → Nat
  | [] => 0
  | x :: r => uptoBulkEntry x + uptoBulkEntries r
def uptoBulkEntry {H : Type} : Lit × DataW H → Nat
  | (.string bytes, d) => bytes.length + uptoBulk d + 1
  | (_, d) => uptoBulk d + 1
 end
def uptoSmall : (H : Type) → List (DataW H) → Bool := fun _ ds => decide (uptoBulkAll ds ≤ 1048576)
def OpenSpec.upto (s : _root_.Go.ChangeSpec) : _root_.Go.OpenSpec := { _root_.Go.OpenSpec.ofChange s with cond := some uptoSmall }

/-- 'acreagelaw08.OrdersLeast', WHERE WHAT IT READS IS OF BULK AT MOST 1048576: true; the input reads as it did. -/
def ordersLeastUptoRow : OpenClaim := { program := "ytnifoeahomkdlaagreat", sum := "400ec60e08a16ffa9ba08444086cd7beb0c5061559502af0257423743f13863e", func := "acreage/acreagelaw08.OrdersLeast", spec := "ordersLeast", unfollowed := true, recurses := true, apart := false, narrowed := true }
def OrdersLeastUptoSaid : Prop := ordersLeastUptoRow.holds Tryz.pinned (OpenSpec.upto ordersLeastSpec)

/-- 'acreagelaw08.OrdersDecides', WHERE WHAT IT READS IS OF BULK AT MOST 1048576: true; the input reads as it did. -/
def ordersDecidesUptoRow : OpenClaim := { program := "ytnifoeahomkdlaagreat", sum := "400ec60e08a16ffa9ba08444086cd7beb0c5061559502af0257423743f13863e", func := "acreage/acreagelaw08.OrdersDecides", spec := "ordersDecides", unfollowed := true, recurses := true, apart := false, narrowed := true }
def OrdersDecidesUptoSaid : Prop := ordersDecidesUptoRow.holds Tryz.pinned (OpenSpec.upto ordersDecidesSpec)

/-- 'acreagelaw08.OrdersWorst', WHERE WHAT IT READS IS OF BULK AT MOST 1048576: true; the input reads as it did. -/
def ordersWorstUptoRow : OpenClaim := { program := "ytnifoeahomkdlaagreat", sum := "400ec60e08a16ffa9ba08444086cd7beb0c5061559502af0257423743f13863e", func := "acreage/acreagelaw08.OrdersWorst", spec := "ordersWorst", unfollowed := true, recurses := true, apart := false, narrowed := true }
def OrdersWorstUptoSaid : Prop := ordersWorstUptoRow.holds Tryz.pinned (OpenSpec.upto ordersWorstSpec)

/-- 'acreagelaw08.OrdersKnown', WHERE WHAT IT READS IS OF BULK AT MOST 1048576: true; the input reads as it did. -/
def ordersKnownUptoRow : OpenClaim := { program := "ytnifoeahomkdlaagreat", sum := "400ec60e08a16ffa9ba08444086cd7beb0c5061559502af0257423743f13863e", func := "acreage/acreagelaw08.OrdersKnown", spec := "ordersKnown", unfollowed := true, recurses := true, apart := false, narrowed := true }
def OrdersKnownUptoSaid : Prop := ordersKnownUptoRow.holds Tryz.pinned (OpenSpec.upto ordersKnownSpec)

end Rows
end Go.Proofs.YtnifoeahomkdlaaGreat
