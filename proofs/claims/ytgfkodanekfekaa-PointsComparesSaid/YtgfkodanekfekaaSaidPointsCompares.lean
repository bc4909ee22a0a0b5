/- The pure statement of the law PointsCompares: what is to be proved over numbers and lists alone. -/
import Derived.Test.YtgfkodanekfekaaWalkPointsCompares
namespace Go.Proofs.Ytgfkodanekfekaa.Pure
open Go.RowKit
set_option linter.unusedVariables false
namespace PointsComparesIn
def wf30 (x : X.S30) : Prop := (Lit.int .i64 x.f0).wf = true ∧ (Lit.int .i64 x.f1).wf = true ∧ (Lit.int .i64 x.f2).wf = true
end PointsComparesIn
open PointsComparesIn
def SaidPointsCompares : Prop := ∀ (l0 : List (X.S30)) (l1 : List (X.S30)), (∀ x ∈ l0, wf30 x) → l0.length * 24 ≤ 140737488351232 → (∀ x ∈ l1, wf30 x) → l1.length * 24 ≤ 140737488351232 → X.metrolablaw31_PointsCompares.f l0 l1 = some true
end Go.Proofs.Ytgfkodanekfekaa.Pure
