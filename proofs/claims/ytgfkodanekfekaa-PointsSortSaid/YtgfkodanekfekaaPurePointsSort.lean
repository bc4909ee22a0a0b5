/- The law PointsSort over lists and numbers: nothing is left behind the walk but the bounds of the axis. -/
import Derived.Test.YtgfkodanekfekaaSaidPointsSort
namespace Go.Proofs.Ytgfkodanekfekaa.Pure
open Go.RowKit Go.Proofs.Ytgfkodanekfekaa.X Go.Proofs.YtgfkodanekfekaaW.PrintWords
open PointsSortIn
theorem PointsSort : SaidPointsSort := by
  intro l t a _ hlen ht _
  have lt : 0 ≤ t ∧ t ≤ 255 := by simpa [Lit.wf, IntKind.min, IntKind.max, IntKind.signed, IntKind.bits] using ht
  unfold metrolablaw31_PointsSort.f
  rw [if_pos lt]
end Go.Proofs.Ytgfkodanekfekaa.Pure
