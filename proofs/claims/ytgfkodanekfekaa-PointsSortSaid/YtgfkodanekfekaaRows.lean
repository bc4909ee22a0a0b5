/-
  No cell of these rows narrows 'for every input' (looked for: loops, veiled, ifaces, maps, wideKeys, modest, calm, conditions, laid).
  DERIVED. THE GIVEN ROWS OF THIS SEAT. 9 by the template 'for every input the law returns true; each argument reads behind the call as it read before'; 0 by the template 'total and deterministic' (their statements: YtgfkodanekfekaaTotals.lean).
  GIVEN WITH THE SEED: the statements are not yours to turn. If you find one false, say at which input.
  Laid BY PROGRAM, IN A SANDBOX (cutbox-rows.mjs): the forced cells as the released guide's own fill.sh prints them over the translation d009be46984cc7a1… (all of the seat's roots in one cut). By AI agents, Wed Nov 11 2026. No macro, syntax, notation, axiom, sorry.
-/
import Derived.Test.YtgfkodanekfekaaChecked
import GoSem.Claim
import GoSem.ClaimJoined
import GoSem.ClaimMapViews
import Derived.JoinedTies
import Derived.KernelRfl
namespace Go.Proofs.Ytgfkodanekfekaa
/- THE CELL 'sum', in the pinned program and in every row, IS THE sha256 OF THE DUMP (.gsa) THAT YtgfkodanekfekaaProg.lean LOADS. Nothing in Lean hashes anything: it is a label: what it is worth is what the hold of that sum in a sandbox is worth. -/
noncomputable def Try.pinned : Pinned := { name := "ytgfkodanekfekaa", sum := "d009be46984cc7a1532bfdd57bbac8ebdc066e9590d99b65e7731242c4b78bfb", checked := Try.checked }
namespace Rows
def none {H : Type} : Left H := { results := [], args := [] }

/-- 'metrolablaw31.PointsThin': WHATEVER THE INPUT: true; the input reads as it did. -/
def pointsThinSpec : ChangeSpec := { name := "pointsThin", fn := fun _ => fun
  | [d1, d2] => { results := [.lit (.bool true)], args := [d1, d2] }
  | _ => none }
def pointsThinRow : OpenClaim := { program := "ytgfkodanekfekaa", sum := "d009be46984cc7a1532bfdd57bbac8ebdc066e9590d99b65e7731242c4b78bfb", func := "metrolab/metrolablaw31.PointsThin", spec := "pointsThin", unfollowed := true, recurses := true, apart := false }
def PointsThinSaid : Prop := pointsThinRow.holds Try.pinned (OpenSpec.ofChange pointsThinSpec)

/-- ITS FALSE NEIGHBOUR: 'it returns false'. Refute it at one input. -/
def pointsThinWrong : ChangeSpec := { name := "pointsThin", fn := fun _ => fun
  | [d1, d2] => { results := [.lit (.bool false)], args := [d1, d2] }
  | _ => none }
def PointsThinWrongFalsely : Prop := pointsThinRow.holds Try.pinned (OpenSpec.ofChange pointsThinWrong)

/-- 'metrolablaw31.PointsTurns': WHATEVER THE INPUT: true; the input reads as it did. -/
def pointsTurnsSpec : ChangeSpec := { name := "pointsTurns", fn := fun _ => fun
  | [d1, d2, d3] => { results := [.lit (.bool true)], args := [d1, d2, d3] }
  | _ => none }
def pointsTurnsRow : OpenClaim := { program := "ytgfkodanekfekaa", sum := "d009be46984cc7a1532bfdd57bbac8ebdc066e9590d99b65e7731242c4b78bfb", func := "metrolab/metrolablaw31.PointsTurns", spec := "pointsTurns", unfollowed := true, recurses := true, apart := false }
def PointsTurnsSaid : Prop := pointsTurnsRow.holds Try.pinned (OpenSpec.ofChange pointsTurnsSpec)

/-- ITS FALSE NEIGHBOUR: 'it returns false'. Refute it at one input. -/
def pointsTurnsWrong : ChangeSpec := { name := "pointsTurns", fn := fun _ => fun
  | [d1, d2, d3] => { results := [.lit (.bool false)], args := [d1, d2, d3] }
  | _ => none }
def PointsTurnsWrongFalsely : Prop := pointsTurnsRow.holds Try.pinned (OpenSpec.ofChange pointsTurnsWrong)

/-- 'metrolablaw31.PointsShifts': WHATEVER THE INPUT: true; the input reads as it did. -/
def pointsShiftsSpec : ChangeSpec := { name := "pointsShifts", fn := fun _ => fun
  | [d1, d2] => { results := [.lit (.bool true)], args := [d1, d2] }
  | _ => none }
def pointsShiftsRow : OpenClaim := { program := "ytgfkodanekfekaa", sum := "d009be46984cc7a1532bfdd57bbac8ebdc066e9590d99b65e7731242c4b78bfb", func := "metrolab/metrolablaw31.PointsShifts", spec := "pointsShifts", unfollowed := true, recurses := true, apart := false }
def PointsShiftsSaid : Prop := pointsShiftsRow.holds Try.pinned (OpenSpec.ofChange pointsShiftsSpec)

/-- ITS FALSE NEIGHBOUR: 'it returns false'. Refute it at one input. -/
def pointsShiftsWrong : ChangeSpec := { name := "pointsShifts", fn := fun _ => fun
  | [d1, d2] => { results := [.lit (.bool false)], args := [d1, d2] }
  | _ => none }
def PointsShiftsWrongFalsely : Prop := pointsShiftsRow.holds Try.pinned (OpenSpec.ofChange pointsShiftsWrong)

/-- 'metrolablaw31.PointsUndo': WHATEVER THE INPUT: true; the input reads as it did. -/
def pointsUndoSpec : ChangeSpec := { name := "pointsUndo", fn := fun _ => fun
  | [d1, d2, d3] => { results := [.lit (.bool true)], args := [d1, d2, d3] }
  | _ => none }
def pointsUndoRow : OpenClaim := { program := "ytgfkodanekfekaa", sum := "d009be46984cc7a1532bfdd57bbac8ebdc066e9590d99b65e7731242c4b78bfb", func := "metrolab/metrolablaw31.PointsUndo", spec := "pointsUndo", unfollowed := true, recurses := true, apart := false }
def PointsUndoSaid : Prop := pointsUndoRow.holds Try.pinned (OpenSpec.ofChange pointsUndoSpec)

/-- ITS FALSE NEIGHBOUR: 'it returns false'. Refute it at one input. -/
def pointsUndoWrong : ChangeSpec := { name := "pointsUndo", fn := fun _ => fun
  | [d1, d2, d3] => { results := [.lit (.bool false)], args := [d1, d2, d3] }
  | _ => none }
def PointsUndoWrongFalsely : Prop := pointsUndoRow.holds Try.pinned (OpenSpec.ofChange pointsUndoWrong)

/-- 'metrolablaw31.PointsKeep': WHATEVER THE INPUT: true; the input reads as it did. -/
def pointsKeepSpec : ChangeSpec := { name := "pointsKeep", fn := fun _ => fun
  | [d1, d2, d3] => { results := [.lit (.bool true)], args := [d1, d2, d3] }
  | _ => none }
def pointsKeepRow : OpenClaim := { program := "ytgfkodanekfekaa", sum := "d009be46984cc7a1532bfdd57bbac8ebdc066e9590d99b65e7731242c4b78bfb", func := "metrolab/metrolablaw31.PointsKeep", spec := "pointsKeep", unfollowed := true, recurses := true, apart := false }
def PointsKeepSaid : Prop := pointsKeepRow.holds Try.pinned (OpenSpec.ofChange pointsKeepSpec)

/-- ITS FALSE NEIGHBOUR: 'it returns false'. Refute it at one input. -/
def pointsKeepWrong : ChangeSpec := { name := "pointsKeep", fn := fun _ => fun
  | [d1, d2, d3] => { results := [.lit (.bool false)], args := [d1, d2, d3] }
  | _ => none }
def PointsKeepWrongFalsely : Prop := pointsKeepRow.holds Try.pinned (OpenSpec.ofChange pointsKeepWrong)

/-- 'metrolablaw31.PointsLifts': WHATEVER THE INPUT: true; the input reads as it did. -/
def pointsLiftsSpec : ChangeSpec := { name := "pointsLifts", fn := fun _ => fun
  | [d1, d2, d3] => { results := [.lit (.bool true)], args := [d1, d2, d3] }
  | _ => none }
def pointsLiftsRow : OpenClaim := { program := "ytgfkodanekfekaa", sum := "d009be46984cc7a1532bfdd57bbac8ebdc066e9590d99b65e7731242c4b78bfb", func := "metrolab/metrolablaw31.PointsLifts", spec := "pointsLifts", inPlace := ["slices.overlaps[int]"], unfollowed := true, recurses := true, apart := false }
def PointsLiftsSaid : Prop := pointsLiftsRow.holds Try.pinned (OpenSpec.ofChange pointsLiftsSpec)

/-- ITS FALSE NEIGHBOUR: 'it returns false'. Refute it at one input. -/
def pointsLiftsWrong : ChangeSpec := { name := "pointsLifts", fn := fun _ => fun
  | [d1, d2, d3] => { results := [.lit (.bool false)], args := [d1, d2, d3] }
  | _ => none }
def PointsLiftsWrongFalsely : Prop := pointsLiftsRow.holds Try.pinned (OpenSpec.ofChange pointsLiftsWrong)

/-- 'metrolablaw31.PointsFilters': WHATEVER THE INPUT: true; the input reads as it did. -/
def pointsFiltersSpec : ChangeSpec := { name := "pointsFilters", fn := fun _ => fun
  | [d1, d2] => { results := [.lit (.bool true)], args := [d1, d2] }
  | _ => none }
def pointsFiltersRow : OpenClaim := { program := "ytgfkodanekfekaa", sum := "d009be46984cc7a1532bfdd57bbac8ebdc066e9590d99b65e7731242c4b78bfb", func := "metrolab/metrolablaw31.PointsFilters", spec := "pointsFilters", unfollowed := true, recurses := true, apart := false }
def PointsFiltersSaid : Prop := pointsFiltersRow.holds Try.pinned (OpenSpec.ofChange pointsFiltersSpec)

/-- ITS FALSE NEIGHBOUR: 'it returns false'. Refute it at one input. -/
def pointsFiltersWrong : ChangeSpec := { name := "pointsFilters", fn := fun _ => fun
  | [d1, d2] => { results := [.lit (.bool false)], args := [d1, d2] }
  | _ => none }
def PointsFiltersWrongFalsely : Prop := pointsFiltersRow.holds Try.pinned (OpenSpec.ofChange pointsFiltersWrong)

/-- 'metrolablaw31.PointsCompares': WHATEVER THE INPUT: true; the input reads as it did. -/
def pointsComparesSpec : ChangeSpec := { name := "pointsCompares", fn := fun _ => fun
  | [d1, d2] => { results := [.lit (.bool true)], args := [d1, d2] }
  | _ => none }
def pointsComparesRow : OpenClaim := { program := "ytgfkodanekfekaa", sum := "d009be46984cc7a1532bfdd57bbac8ebdc066e9590d99b65e7731242c4b78bfb", func := "metrolab/metrolablaw31.PointsCompares", spec := "pointsCompares", unfollowed := true, recurses := true, apart := false }
def PointsComparesSaid : Prop := pointsComparesRow.holds Try.pinned (OpenSpec.ofChange pointsComparesSpec)

/-- ITS FALSE NEIGHBOUR: 'it returns false'. Refute it at one input. -/
def pointsComparesWrong : ChangeSpec := { name := "pointsCompares", fn := fun _ => fun
  | [d1, d2] => { results := [.lit (.bool false)], args := [d1, d2] }
  | _ => none }
def PointsComparesWrongFalsely : Prop := pointsComparesRow.holds Try.pinned (OpenSpec.ofChange pointsComparesWrong)

/-- 'metrolablaw31.PointsSort': WHATEVER THE INPUT: true; the input reads as it did. -/
def pointsSortSpec : ChangeSpec := { name := "pointsSort", fn := fun _ => fun
  | [d1, d2, d3] => { results := [.lit (.bool true)], args := [d1, d2, d3] }
  | _ => none }
def pointsSortRow : OpenClaim := { program := "ytgfkodanekfekaa", sum := "d009be46984cc7a1532bfdd57bbac8ebdc066e9590d99b65e7731242c4b78bfb", func := "metrolab/metrolablaw31.PointsSort", spec := "pointsSort", inPlace := ["slices.overlaps[int]"], unfollowed := true, recurses := true, apart := false }
def PointsSortSaid : Prop := pointsSortRow.holds Try.pinned (OpenSpec.ofChange pointsSortSpec)

/-- ITS FALSE NEIGHBOUR: 'it returns false'. Refute it at one input. -/
def pointsSortWrong : ChangeSpec := { name := "pointsSort", fn := fun _ => fun
  | [d1, d2, d3] => { results := [.lit (.bool false)], args := [d1, d2, d3] }
  | _ => none }
def PointsSortWrongFalsely : Prop := pointsSortRow.holds Try.pinned (OpenSpec.ofChange pointsSortWrong)

/- THE SECOND FORM. 'bulk': how many values and letters a reading holds, each counted each time it is reached (what is shared counts as often as it is met; a slice's spare places count too). A statement '..UptoSaid' is the law's where the arguments, and the package variables that the reading takes, are together of bulk at most 1048576: NARROWER than '..Said'. Prove '..Said' where nothing that the law and all that it calls make is longer than what came in: it says more and counts as full. Else prove '..UptoSaid'. A law counts once. -/
mutual
def uptoBulk {H : Type} : DataW H → Nat
  | .lit (.string bytes) => bytes.length + 1
  | .lit _ => 1
  | .nil => 1
  | .ptr d => uptoBulk d + 1
  | .slice elems spare => uptoBulkAll elems + uptoBulkAll spare + 1
  | .agg parts => uptoBulkAll parts + 1
  | .iface _ d => uptoBulk d + 1
  | .map entries => uptoBulkEntries entries + 1
  | .held _ => 1
def uptoBulkAll {H : Type} : List (DataW H) → Nat
  | [] => 0
  | d :: r => uptoBulk d + uptoBulkAll r
def uptoBulkEntries {H : Type} : List (Lit × DataW H) → Nat
  | [] => 0
  | x :: r => uptoBulkEntry x + uptoBulkEntries r
def uptoBulkEntry {H : Type} : Lit × DataW H → Nat
  | (.string bytes, d) => bytes.length + uptoBulk d + 1
  | (_, d) => uptoBulk d + 1
 end
def uptoSmall : (H : Type) → List (DataW H) → Bool := fun _ ds => decide (uptoBulkAll ds ≤ 1048576)
def OpenSpec.upto (s : _root_.Go.ChangeSpec) : _root_.Go.OpenSpec := { _root_.Go.OpenSpec.ofChange s with cond := some uptoSmall }

/-- 'metrolablaw31.PointsThin', WHERE WHAT IT READS IS OF BULK AT MOST 1048576: true; the input reads as it did. -/
def pointsThinUptoRow : OpenClaim := { program := "ytgfkodanekfekaa", sum := "d009be46984cc7a1532bfdd57bbac8ebdc066e9590d99b65e7731242c4b78bfb", func := "metrolab/metrolablaw31.PointsThin", spec := "pointsThin", unfollowed := true, recurses := true, apart := false, narrowed := true }
def PointsThinUptoSaid : Prop := pointsThinUptoRow.holds Try.pinned (OpenSpec.upto pointsThinSpec)

/-- 'metrolablaw31.PointsTurns', WHERE WHAT IT READS IS OF BULK AT MOST 1048576: true; the input reads as it did. -/
def pointsTurnsUptoRow : OpenClaim := { program := "ytgfkodanekfekaa", sum := "d009be46984cc7a1532bfdd57bbac8ebdc066e9590d99b65e7731242c4b78bfb", func := "metrolab/metrolablaw31.PointsTurns", spec := "pointsTurns", unfollowed := true, recurses := true, apart := false, narrowed := true }
def PointsTurnsUptoSaid : Prop := pointsTurnsUptoRow.holds Try.pinned (OpenSpec.upto pointsTurnsSpec)

/-- 'metrolablaw31.PointsShifts', WHERE WHAT IT READS IS OF BULK AT MOST 1048576: true; the input reads as it did. -/
def pointsShiftsUptoRow : OpenClaim := { program := "ytgfkodanekfekaa", sum := "d009be46984cc7a1532bfdd57bbac8ebdc066e9590d99b65e7731242c4b78bfb", func := "metrolab/metrolablaw31.PointsShifts", spec := "pointsShifts", unfollowed := true, recurses := true, apart := false, narrowed := true }
def PointsShiftsUptoSaid : Prop := pointsShiftsUptoRow.holds Try.pinned (OpenSpec.upto pointsShiftsSpec)

/-- 'metrolablaw31.PointsUndo', WHERE WHAT IT READS IS OF BULK AT MOST 1048576: true; the input reads as it did. -/
def pointsUndoUptoRow : OpenClaim := { program := "ytgfkodanekfekaa", sum := "d009be46984cc7a1532bfdd57bbac8ebdc066e9590d99b65e7731242c4b78bfb", func := "metrolab/metrolablaw31.PointsUndo", spec := "pointsUndo", unfollowed := true, recurses := true, apart := false, narrowed := true }
def PointsUndoUptoSaid : Prop := pointsUndoUptoRow.holds Try.pinned (OpenSpec.upto pointsUndoSpec)

/-- 'metrolablaw31.PointsKeep', WHERE WHAT IT READS IS OF BULK AT MOST 1048576: true; the input reads as it did. -/
def pointsKeepUptoRow : OpenClaim := { program := "ytgfkodanekfekaa", sum := "d009be46984cc7a1532bfdd57bbac8ebdc066e9590d99b65e7731242c4b78bfb", func := "metrolab/metrolablaw31.PointsKeep", spec := "pointsKeep", unfollowed := true, recurses := true, apart := false, narrowed := true }
def PointsKeepUptoSaid : Prop := pointsKeepUptoRow.holds Try.pinned (OpenSpec.upto pointsKeepSpec)

/-- 'metrolablaw31.PointsLifts', WHERE WHAT IT READS IS OF BULK AT MOST 1048576: true; the input reads as it did. -/
def pointsLiftsUptoRow : OpenClaim := { program := "ytgfkodanekfekaa", sum := "d009be46984cc7a1532bfdd57bbac8ebdc066e9590d99b65e7731242c4b78bfb", func := "metrolab/metrolablaw31.PointsLifts", spec := "pointsLifts", inPlace := ["slices.overlaps[int]"], unfollowed := true, recurses := true, apart := false, narrowed := true }
def PointsLiftsUptoSaid : Prop := pointsLiftsUptoRow.holds Try.pinned (OpenSpec.upto pointsLiftsSpec)

/-- 'metrolablaw31.PointsFilters', WHERE WHAT IT READS IS OF BULK AT MOST 1048576: true; the input reads as it did. -/
def pointsFiltersUptoRow : OpenClaim := { program := "ytgfkodanekfekaa", sum := "d009be46984cc7a1532bfdd57bbac8ebdc066e9590d99b65e7731242c4b78bfb", func := "metrolab/metrolablaw31.PointsFilters", spec := "pointsFilters", unfollowed := true, recurses := true, apart := false, narrowed := true }
def PointsFiltersUptoSaid : Prop := pointsFiltersUptoRow.holds Try.pinned (OpenSpec.upto pointsFiltersSpec)

/-- 'metrolablaw31.PointsCompares', WHERE WHAT IT READS IS OF BULK AT MOST 1048576: true; the input reads as it did. -/
def pointsComparesUptoRow : OpenClaim := { program := "ytgfkodanekfekaa", sum := "d009be46984cc7a1532bfdd57bbac8ebdc066e9590d99b65e7731242c4b78bfb", func := "metrolab/metrolablaw31.PointsCompares", spec := "pointsCompares", unfollowed := true, recurses := true, apart := false, narrowed := true }
def PointsComparesUptoSaid : Prop := pointsComparesUptoRow.holds Try.pinned (OpenSpec.upto pointsComparesSpec)

/-- 'metrolablaw31.PointsSort', WHERE WHAT IT READS IS OF BULK AT MOST 1048576: true; the input reads as it did. -/
def pointsSortUptoRow : OpenClaim := { program := "ytgfkodanekfekaa", sum := "d009be46984cc7a1532bfdd57bbac8ebdc066e9590d99b65e7731242c4b78bfb", func := "metrolab/metrolablaw31.PointsSort", spec := "pointsSort", inPlace := ["slices.overlaps[int]"], unfollowed := true, recurses := true, apart := false, narrowed := true }
def PointsSortUptoSaid : Prop := pointsSortUptoRow.holds Try.pinned (OpenSpec.upto pointsSortSpec)

end Rows
end Go.Proofs.Ytgfkodanekfekaa
