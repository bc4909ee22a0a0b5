/- The pure statement of the law RunoutJudges: what is to be proved over numbers and lists alone. -/
import Derived.Test.YtkpojbglckmddaaX18
namespace Go.Proofs.Ytkpojbglckmddaa.Pure
open Go.RowKit
set_option linter.unusedVariables false
namespace RunoutJudgesIn
def wf25 (x : X.S25) : Prop := (Lit.int .i64 x.f0).wf = true ∧ (Lit.int .i64 x.f1).wf = true
def wf62 (x : X.S62) : Prop := (Lit.int .i64 x.f0).wf = true ∧ (∀ y ∈ x.f1, wf25 y)
end RunoutJudgesIn
open RunoutJudgesIn
def SaidRunoutJudges : Prop := ∀ (l0 : List (X.S62)) (a1 : X.S25) (a2 : Int), (∀ x ∈ l0, wf62 x) → l0.length * 32 ≤ 140737488351232 → wf25 a1 → (Lit.int .i64 a2).wf = true → ∃ k, X.metrolablaw38_RunoutJudges.f k l0 a1.f0 a1.f1 a2 = some true
end Go.Proofs.Ytkpojbglckmddaa.Pure
