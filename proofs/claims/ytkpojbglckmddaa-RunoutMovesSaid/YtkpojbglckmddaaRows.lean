/-
  No cell of these rows narrows 'for every input' (looked for: loops, veiled, ifaces, maps, wideKeys, modest, calm, conditions, laid).
  DERIVED. THE GIVEN ROWS OF THIS SEAT. 7 by the template 'for every input the law returns true; each argument reads behind the call as it read before'; 0 by the template 'total and deterministic' (their statements: YtkpojbglckmddaaTotals.lean).
  GIVEN WITH THE SEED: the statements are not yours to turn. If you find one false, say at which input.
  Laid BY PROGRAM, IN A SANDBOX (cutbox-rows.mjs): the forced cells as the released guide's own fill.sh prints them over the translation 4d686067a723d320… (all of the seat's roots in one cut). By AI agents, Wed Nov 11 2026. No macro, syntax, notation, axiom, sorry.
-/
import Derived.Test.YtkpojbglckmddaaChecked
import GoSem.Claim
import GoSem.ClaimJoined
import GoSem.ClaimMapViews
import Derived.JoinedTies
import Derived.KernelRfl
namespace Go.Proofs.Ytkpojbglckmddaa
/- THE CELL 'sum', in the pinned program and in every row, IS THE sha256 OF THE DUMP (.gsa) THAT YtkpojbglckmddaaProg.lean LOADS. Nothing in Lean hashes anything: it is a label: what it is worth is what the hold of that sum in a sandbox is worth. -/
noncomputable def Try.pinned : Pinned := { name := "ytkpojbglckmddaa", sum := "4d686067a723d320ab417ebff1ca84a31c66ee87f4b1fcbe03c0fa990880e14f", checked := Try.checked }
namespace Rows
def none {H : Type} : Left H := { results := [], args := [] }

/-- 'metrolablaw38.RunoutChecks': WHATEVER THE INPUT: true; the input reads as it did. -/
def runoutChecksSpec : ChangeSpec := { name := "runoutChecks", fn := fun _ => fun
  | [d1, d2, d3] => { results := [.lit (.bool true)], args := [d1, d2, d3] }
  | _ => none }
def runoutChecksRow : OpenClaim := { program := "ytkpojbglckmddaa", sum := "4d686067a723d320ab417ebff1ca84a31c66ee87f4b1fcbe03c0fa990880e14f", func := "metrolab/metrolablaw38.RunoutChecks", spec := "runoutChecks", unfollowed := true, recurses := true, apart := false }
def RunoutChecksSaid : Prop := runoutChecksRow.holds Try.pinned (OpenSpec.ofChange runoutChecksSpec)

/-- ITS FALSE NEIGHBOUR: 'it returns false'. Refute it at one input. -/
def runoutChecksWrong : ChangeSpec := { name := "runoutChecks", fn := fun _ => fun
  | [d1, d2, d3] => { results := [.lit (.bool false)], args := [d1, d2, d3] }
  | _ => none }
def RunoutChecksWrongFalsely : Prop := runoutChecksRow.holds Try.pinned (OpenSpec.ofChange runoutChecksWrong)

/-- 'metrolablaw38.RunoutDiffers': WHATEVER THE INPUT: true; the input reads as it did. -/
def runoutDiffersSpec : ChangeSpec := { name := "runoutDiffers", fn := fun _ => fun
  | [d1, d2, d3] => { results := [.lit (.bool true)], args := [d1, d2, d3] }
  | _ => none }
def runoutDiffersRow : OpenClaim := { program := "ytkpojbglckmddaa", sum := "4d686067a723d320ab417ebff1ca84a31c66ee87f4b1fcbe03c0fa990880e14f", func := "metrolab/metrolablaw38.RunoutDiffers", spec := "runoutDiffers", unfollowed := true, recurses := true, apart := false }
def RunoutDiffersSaid : Prop := runoutDiffersRow.holds Try.pinned (OpenSpec.ofChange runoutDiffersSpec)

/-- ITS FALSE NEIGHBOUR: 'it returns false'. Refute it at one input. -/
def runoutDiffersWrong : ChangeSpec := { name := "runoutDiffers", fn := fun _ => fun
  | [d1, d2, d3] => { results := [.lit (.bool false)], args := [d1, d2, d3] }
  | _ => none }
def RunoutDiffersWrongFalsely : Prop := runoutDiffersRow.holds Try.pinned (OpenSpec.ofChange runoutDiffersWrong)

/-- 'metrolablaw38.RunoutJudges': WHATEVER THE INPUT: true; the input reads as it did. -/
def runoutJudgesSpec : ChangeSpec := { name := "runoutJudges", fn := fun _ => fun
  | [d1, d2, d3] => { results := [.lit (.bool true)], args := [d1, d2, d3] }
  | _ => none }
def runoutJudgesRow : OpenClaim := { program := "ytkpojbglckmddaa", sum := "4d686067a723d320ab417ebff1ca84a31c66ee87f4b1fcbe03c0fa990880e14f", func := "metrolab/metrolablaw38.RunoutJudges", spec := "runoutJudges", unfollowed := true, recurses := true, apart := false }
def RunoutJudgesSaid : Prop := runoutJudgesRow.holds Try.pinned (OpenSpec.ofChange runoutJudgesSpec)

/-- ITS FALSE NEIGHBOUR: 'it returns false'. Refute it at one input. -/
def runoutJudgesWrong : ChangeSpec := { name := "runoutJudges", fn := fun _ => fun
  | [d1, d2, d3] => { results := [.lit (.bool false)], args := [d1, d2, d3] }
  | _ => none }
def RunoutJudgesWrongFalsely : Prop := runoutJudgesRow.holds Try.pinned (OpenSpec.ofChange runoutJudgesWrong)

/-- 'metrolablaw38.RunoutBounds': WHATEVER THE INPUT: true; the input reads as it did. -/
def runoutBoundsSpec : ChangeSpec := { name := "runoutBounds", fn := fun _ => fun
  | [d1, d2, d3] => { results := [.lit (.bool true)], args := [d1, d2, d3] }
  | _ => none }
def runoutBoundsRow : OpenClaim := { program := "ytkpojbglckmddaa", sum := "4d686067a723d320ab417ebff1ca84a31c66ee87f4b1fcbe03c0fa990880e14f", func := "metrolab/metrolablaw38.RunoutBounds", spec := "runoutBounds", unfollowed := true, recurses := true, apart := false }
def RunoutBoundsSaid : Prop := runoutBoundsRow.holds Try.pinned (OpenSpec.ofChange runoutBoundsSpec)

/-- ITS FALSE NEIGHBOUR: 'it returns false'. Refute it at one input. -/
def runoutBoundsWrong : ChangeSpec := { name := "runoutBounds", fn := fun _ => fun
  | [d1, d2, d3] => { results := [.lit (.bool false)], args := [d1, d2, d3] }
  | _ => none }
def RunoutBoundsWrongFalsely : Prop := runoutBoundsRow.holds Try.pinned (OpenSpec.ofChange runoutBoundsWrong)

/-- 'metrolablaw38.RunoutSquares': WHATEVER THE INPUT: true; the input reads as it did. -/
def runoutSquaresSpec : ChangeSpec := { name := "runoutSquares", fn := fun _ => fun
  | [d1, d2, d3] => { results := [.lit (.bool true)], args := [d1, d2, d3] }
  | _ => none }
def runoutSquaresRow : OpenClaim := { program := "ytkpojbglckmddaa", sum := "4d686067a723d320ab417ebff1ca84a31c66ee87f4b1fcbe03c0fa990880e14f", func := "metrolab/metrolablaw38.RunoutSquares", spec := "runoutSquares", unfollowed := true, recurses := true, apart := false }
def RunoutSquaresSaid : Prop := runoutSquaresRow.holds Try.pinned (OpenSpec.ofChange runoutSquaresSpec)

/-- ITS FALSE NEIGHBOUR: 'it returns false'. Refute it at one input. -/
def runoutSquaresWrong : ChangeSpec := { name := "runoutSquares", fn := fun _ => fun
  | [d1, d2, d3] => { results := [.lit (.bool false)], args := [d1, d2, d3] }
  | _ => none }
def RunoutSquaresWrongFalsely : Prop := runoutSquaresRow.holds Try.pinned (OpenSpec.ofChange runoutSquaresWrong)

/-- 'metrolablaw38.RunoutMoves': WHATEVER THE INPUT: true; the input reads as it did. -/
def runoutMovesSpec : ChangeSpec := { name := "runoutMoves", fn := fun _ => fun
  | [d1, d2, d3] => { results := [.lit (.bool true)], args := [d1, d2, d3] }
  | _ => none }
def runoutMovesRow : OpenClaim := { program := "ytkpojbglckmddaa", sum := "4d686067a723d320ab417ebff1ca84a31c66ee87f4b1fcbe03c0fa990880e14f", func := "metrolab/metrolablaw38.RunoutMoves", spec := "runoutMoves", unfollowed := true, recurses := true, apart := false }
def RunoutMovesSaid : Prop := runoutMovesRow.holds Try.pinned (OpenSpec.ofChange runoutMovesSpec)

/-- ITS FALSE NEIGHBOUR: 'it returns false'. Refute it at one input. -/
def runoutMovesWrong : ChangeSpec := { name := "runoutMoves", fn := fun _ => fun
  | [d1, d2, d3] => { results := [.lit (.bool false)], args := [d1, d2, d3] }
  | _ => none }
def RunoutMovesWrongFalsely : Prop := runoutMovesRow.holds Try.pinned (OpenSpec.ofChange runoutMovesWrong)

/-- 'metrolablaw38.RunoutFaces': WHATEVER THE INPUT: true; the input reads as it did. -/
def runoutFacesSpec : ChangeSpec := { name := "runoutFaces", fn := fun _ => fun
  | [d1, d2, d3] => { results := [.lit (.bool true)], args := [d1, d2, d3] }
  | _ => none }
def runoutFacesRow : OpenClaim := { program := "ytkpojbglckmddaa", sum := "4d686067a723d320ab417ebff1ca84a31c66ee87f4b1fcbe03c0fa990880e14f", func := "metrolab/metrolablaw38.RunoutFaces", spec := "runoutFaces", unfollowed := true, recurses := true, apart := false }
def RunoutFacesSaid : Prop := runoutFacesRow.holds Try.pinned (OpenSpec.ofChange runoutFacesSpec)

/-- ITS FALSE NEIGHBOUR: 'it returns false'. Refute it at one input. -/
def runoutFacesWrong : ChangeSpec := { name := "runoutFaces", fn := fun _ => fun
  | [d1, d2, d3] => { results := [.lit (.bool false)], args := [d1, d2, d3] }
  | _ => none }
def RunoutFacesWrongFalsely : Prop := runoutFacesRow.holds Try.pinned (OpenSpec.ofChange runoutFacesWrong)

/- THE SECOND FORM. 'bulk': how many values and letters a reading holds, each counted each time it is reached (what is shared counts as often as it is met; a slice's spare places count too). A statement '..UptoSaid' is the law's where the arguments, and the package variables that the reading takes, are together of bulk at most 1048576: NARROWER than '..Said'. Prove '..Said' where nothing that the law and all that it calls make is longer than what came in: it says more and counts as full. Else prove '..UptoSaid'. A law counts once. -/
mutual
def uptoBulk {H : Type} : DataW H → Nat
  | .lit (.string bytes) => bytes.length + 1
  | .lit _ => 1
  | .nil => 1
  | .ptr d => uptoBulk d + 1
  | .slice elems spare => uptoBulkAll elems + uptoBulkAll spare + 1
  | .agg parts => uptoBulkAll parts + 1
  | .iface _ d => uptoBulk d + 1
  | .map entries => uptoBulkEntries entries + 1
  | .held _ => 1
def uptoBulkAll {H : Type} : List (DataW H) → Nat
  | [] => 0
  | d :: r => uptoBulk d + uptoBulkAll r
def uptoBulkEntries {H : Type} : List (Lit × DataW H) → Nat
  | [] => 0
  | x :: r => uptoBulkEntry x + uptoBulkEntries r
def uptoBulkEntry {H : Type} : Lit × DataW H → Nat
  | (.string bytes, d) => bytes.length + uptoBulk d + 1
  | (_, d) => uptoBulk d + 1
 end
def uptoSmall : (H : Type) → List (DataW H) → Bool := fun _ ds => decide (uptoBulkAll ds ≤ 1048576)
def OpenSpec.upto (s : _root_.Go.ChangeSpec) : _root_.Go.OpenSpec := { _root_.Go.OpenSpec.ofChange s with cond := some uptoSmall }

/-- 'metrolablaw38.RunoutChecks', WHERE WHAT IT READS IS OF BULK AT MOST 1048576: true; the input reads as it did. -/
def runoutChecksUptoRow : OpenClaim := { program := "ytkpojbglckmddaa", sum := "4d686067a723d320ab417ebff1ca84a31c66ee87f4b1fcbe03c0fa990880e14f", func := "metrolab/metrolablaw38.RunoutChecks", spec := "runoutChecks", unfollowed := true, recurses := true, apart := false, narrowed := true }
def RunoutChecksUptoSaid : Prop := runoutChecksUptoRow.holds Try.pinned (OpenSpec.upto runoutChecksSpec)

/-- 'metrolablaw38.RunoutDiffers', WHERE WHAT IT READS IS OF BULK AT MOST 1048576: true; the input reads as it did. -/
def runoutDiffersUptoRow : OpenClaim := { program := "ytkpojbglckmddaa", sum := "4d686067a723d320ab417ebff1ca84a31c66ee87f4b1fcbe03c0fa990880e14f", func := "metrolab/metrolablaw38.RunoutDiffers", spec := "runoutDiffers", unfollowed := true, recurses := true, apart := false, narrowed := true }
def RunoutDiffersUptoSaid : Prop := runoutDiffersUptoRow.holds Try.pinned (OpenSpec.upto runoutDiffersSpec)

/-- 'metrolablaw38.RunoutJudges', WHERE WHAT IT READS IS OF BULK AT MOST 1048576: true; the input reads as it did. -/
def runoutJudgesUptoRow : OpenClaim := { program := "ytkpojbglckmddaa", sum := "4d686067a723d320ab417ebff1ca84a31c66ee87f4b1fcbe03c0fa990880e14f", func := "metrolab/metrolablaw38.RunoutJudges", spec := "runoutJudges", unfollowed := true, recurses := true, apart := false, narrowed := true }
def RunoutJudgesUptoSaid : Prop := runoutJudgesUptoRow.holds Try.pinned (OpenSpec.upto runoutJudgesSpec)

/-- 'metrolablaw38.RunoutBounds', WHERE WHAT IT READS IS OF BULK AT MOST 1048576: true; the input reads as it did. -/
def runoutBoundsUptoRow : OpenClaim := { program := "ytkpojbglckmddaa", sum := "4d686067a723d320ab417ebff1ca84a31c66ee87f4b1fcbe03c0fa990880e14f", func := "metrolab/metrolablaw38.RunoutBounds", spec := "runoutBounds", unfollowed := true, recurses := true, apart := false, narrowed := true }
def RunoutBoundsUptoSaid : Prop := runoutBoundsUptoRow.holds Try.pinned (OpenSpec.upto runoutBoundsSpec)

/-- 'metrolablaw38.RunoutSquares', WHERE WHAT IT READS IS OF BULK AT MOST 1048576: true; the input reads as it did. -/
def runoutSquaresUptoRow : OpenClaim := { program := "ytkpojbglckmddaa", sum := "4d686067a723d320ab417ebff1ca84a31c66ee87f4b1fcbe03c0fa990880e14f", func := "metrolab/metrolablaw38.RunoutSquares", spec := "runoutSquares", unfollowed := true, recurses := true, apart := false, narrowed := true }
def RunoutSquaresUptoSaid : Prop := runoutSquaresUptoRow.holds Try.pinned (OpenSpec.upto runoutSquaresSpec)

/-- 'metrolablaw38.RunoutMoves', WHERE WHAT IT READS IS OF BULK AT MOST 1048576: true; the input reads as it did. -/
def runoutMovesUptoRow : OpenClaim := { program := "ytkpojbglckmddaa", sum := "4d686067a723d320ab417ebff1ca84a31c66ee87f4b1fcbe03c0fa990880e14f", func := "metrolab/metrolablaw38.RunoutMoves", spec := "runoutMoves", unfollowed := true, recurses := true, apart := false, narrowed := true }
def RunoutMovesUptoSaid : Prop := runoutMovesUptoRow.holds Try.pinned (OpenSpec.upto runoutMovesSpec)

/-- 'metrolablaw38.RunoutFaces', WHERE WHAT IT READS IS OF BULK AT MOST 1048576: true; the input reads as it did. -/
def runoutFacesUptoRow : OpenClaim := { program := "ytkpojbglckmddaa", sum := "4d686067a723d320ab417ebff1ca84a31c66ee87f4b1fcbe03c0fa990880e14f", func := "metrolab/metrolablaw38.RunoutFaces", spec := "runoutFaces", unfollowed := true, recurses := true, apart := false, narrowed := true }
def RunoutFacesUptoSaid : Prop := runoutFacesUptoRow.holds Try.pinned (OpenSpec.upto runoutFacesSpec)

end Rows
end Go.Proofs.Ytkpojbglckmddaa
