/- The pure statement of the law RunoutChecks: what is to be proved over numbers and lists alone. -/
import Derived.Test.YtkpojbglckmddaaX14
namespace Go.Proofs.Ytkpojbglckmddaa.Pure
open Go.RowKit
set_option linter.unusedVariables false
namespace RunoutChecksIn
def wf25 (x : X.S25) : Prop := (Lit.int .i64 x.f0).wf = true ∧ (Lit.int .i64 x.f1).wf = true
def wf62 (x : X.S62) : Prop := (Lit.int .i64 x.f0).wf = true ∧ (∀ y ∈ x.f1, wf25 y)
end RunoutChecksIn
open RunoutChecksIn
def SaidRunoutChecks : Prop := ∀ (l0 : List (X.S62)) (l1 : List (X.S25)) (a2 : X.S25), (∀ x ∈ l0, wf62 x) → l0.length * 32 ≤ 140737488351232 → (∀ x ∈ l1, wf25 x) → l1.length * 16 ≤ 140737488351232 → wf25 a2 → ∃ k, X.metrolablaw38_RunoutChecks.f k l0 l1 a2.f0 a2.f1 = some true
end Go.Proofs.Ytkpojbglckmddaa.Pure
