/- The law PointsLifts over lists: nothing is left behind the walk. -/
import Derived.Test.YtgfkodanekfekaaSaidPointsLifts
namespace Go.Proofs.Ytgfkodanekfekaa.Pure
open Go.RowKit Go.Proofs.Ytgfkodanekfekaa.X Go.Proofs.YtgfkodanekfekaaW.PrintWords
open PointsLiftsIn
theorem PointsLifts : SaidPointsLifts := fun _ _ _ _ _ _ _ => rfl
end Go.Proofs.Ytgfkodanekfekaa.Pure
