/- The pure statement of the law PointsKeep: what is to be proved over numbers and lists alone. -/
import Derived.Test.YtgfkodanekfekaaWalkPointsKeep
namespace Go.Proofs.Ytgfkodanekfekaa.Pure
open Go.RowKit
set_option linter.unusedVariables false
namespace PointsKeepIn
def wf30 (x : X.S30) : Prop := (Lit.int .i64 x.f0).wf = true ∧ (Lit.int .i64 x.f1).wf = true ∧ (Lit.int .i64 x.f2).wf = true
end PointsKeepIn
open PointsKeepIn
def SaidPointsKeep : Prop := ∀ (l0 : List (X.S30)) (a1 : X.S30) (a2 : Int), (∀ x ∈ l0, wf30 x) → l0.length * 24 ≤ 140737488351232 → wf30 a1 → (Lit.int .u8 a2).wf = true → X.metrolablaw31_PointsKeep.f l0 a1.f0 a1.f1 a1.f2 a2 = some true
end Go.Proofs.Ytgfkodanekfekaa.Pure
