/- The pure statement of the law RunoutMoves: what is to be proved over numbers and lists alone. -/
import Derived.Test.YtkpojbglckmddaaX22
namespace Go.Proofs.Ytkpojbglckmddaa.Pure
open Go.RowKit
set_option linter.unusedVariables false
namespace RunoutMovesIn
def wf25 (x : X.S25) : Prop := (Lit.int .i64 x.f0).wf = true ∧ (Lit.int .i64 x.f1).wf = true
def wf62 (x : X.S62) : Prop := (Lit.int .i64 x.f0).wf = true ∧ (∀ y ∈ x.f1, wf25 y)
end RunoutMovesIn
open RunoutMovesIn
def SaidRunoutMoves : Prop := ∀ (l0 : List (X.S62)) (a1 : X.S25) (a2 : X.S25), (∀ x ∈ l0, wf62 x) → l0.length * 32 ≤ 140737488351232 → wf25 a1 → wf25 a2 → ∃ k, X.metrolablaw38_RunoutMoves.f k l0 a1.f0 a1.f1 a2.f0 a2.f1 = some true
end Go.Proofs.Ytkpojbglckmddaa.Pure
