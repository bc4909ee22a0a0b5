/- The pure statement of the law PointsLifts: what is to be proved over numbers and lists alone. -/
import Derived.Test.YtgfkodanekfekaaWalkPointsLifts
namespace Go.Proofs.Ytgfkodanekfekaa.Pure
open Go.RowKit
set_option linter.unusedVariables false
namespace PointsLiftsIn
def wf46 (x : X.S46) : Prop := (Lit.int .i64 x.f0).wf = true ∧ (Lit.int .i64 x.f1).wf = true
end PointsLiftsIn
open PointsLiftsIn
def SaidPointsLifts : Prop := ∀ (l0 : List (X.S46)) (a1 : Int) (a2 : Int), (∀ x ∈ l0, wf46 x) → l0.length * 16 ≤ 140737488351232 → (Lit.int .i64 a1).wf = true → (Lit.int .i64 a2).wf = true → X.metrolablaw31_PointsLifts.f l0 a1 a2 = some true
end Go.Proofs.Ytgfkodanekfekaa.Pure
