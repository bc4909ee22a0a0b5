/- The law PointsCompares over lists: nothing is left behind the walk. -/
import Derived.Test.YtgfkodanekfekaaSaidPointsCompares
namespace Go.Proofs.Ytgfkodanekfekaa.Pure
open Go.RowKit Go.Proofs.Ytgfkodanekfekaa.X Go.Proofs.YtgfkodanekfekaaW.PrintWords
open PointsComparesIn
theorem PointsCompares : SaidPointsCompares := fun _ _ _ _ _ _ => rfl
end Go.Proofs.Ytgfkodanekfekaa.Pure
