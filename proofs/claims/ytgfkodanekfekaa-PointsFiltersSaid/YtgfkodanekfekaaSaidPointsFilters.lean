/- The pure statement of the law PointsFilters: what is to be proved over numbers and lists alone. -/
import Derived.Test.YtgfkodanekfekaaWalkPointsFilters
namespace Go.Proofs.Ytgfkodanekfekaa.Pure
open Go.RowKit
set_option linter.unusedVariables false
namespace PointsFiltersIn
def wf30 (x : X.S30) : Prop := (Lit.int .i64 x.f0).wf = true ∧ (Lit.int .i64 x.f1).wf = true ∧ (Lit.int .i64 x.f2).wf = true
end PointsFiltersIn
open PointsFiltersIn
def SaidPointsFilters : Prop := ∀ (l0 : List (X.S30)) (a1 : Int), (∀ x ∈ l0, wf30 x) → l0.length * 24 ≤ 140737488351232 → (Lit.int .i64 a1).wf = true → X.metrolablaw31_PointsFilters.f l0 a1 = some true
end Go.Proofs.Ytgfkodanekfekaa.Pure
