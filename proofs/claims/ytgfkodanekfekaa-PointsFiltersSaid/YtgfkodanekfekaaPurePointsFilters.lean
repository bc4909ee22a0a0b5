/- The law PointsFilters over lists: nothing is left behind the walk. -/
import Derived.Test.YtgfkodanekfekaaSaidPointsFilters
namespace Go.Proofs.Ytgfkodanekfekaa.Pure
open Go.RowKit Go.Proofs.Ytgfkodanekfekaa.X Go.Proofs.YtgfkodanekfekaaW.PrintWords
open PointsFiltersIn
theorem PointsFilters : SaidPointsFilters := fun _ _ _ _ _ => rfl
end Go.Proofs.Ytgfkodanekfekaa.Pure
