/- The pure statement of the law PointsSort: what is to be proved over numbers and lists alone. -/
import Derived.Test.YtgfkodanekfekaaWalkPointsSort
namespace Go.Proofs.Ytgfkodanekfekaa.Pure
open Go.RowKit
set_option linter.unusedVariables false
namespace PointsSortIn
def wf30 (x : X.S30) : Prop := (Lit.int .i64 x.f0).wf = true ∧ (Lit.int .i64 x.f1).wf = true ∧ (Lit.int .i64 x.f2).wf = true
end PointsSortIn
open PointsSortIn
def SaidPointsSort : Prop := ∀ (l0 : List (X.S30)) (a1 : Int) (a2 : Int), (∀ x ∈ l0, wf30 x) → l0.length * 24 ≤ 140737488351232 → (Lit.int .u8 a1).wf = true → (Lit.int .i64 a2).wf = true → X.metrolablaw31_PointsSort.f l0 a1 a2 = some true
end Go.Proofs.Ytgfkodanekfekaa.Pure
