/- The law PointsKeep over lists and numbers: nothing is left behind the walk but the bounds of the turns. -/
import Derived.Test.YtgfkodanekfekaaSaidPointsKeep
namespace Go.Proofs.Ytgfkodanekfekaa.Pure
open Go.RowKit Go.Proofs.Ytgfkodanekfekaa.X Go.Proofs.YtgfkodanekfekaaW.PrintWords
open PointsKeepIn
theorem PointsKeep : SaidPointsKeep := by
  intro l v t _ hlen _ ht
  have lt : 0 ≤ t ∧ t ≤ 255 := by simpa [Lit.wf, IntKind.min, IntKind.max, IntKind.signed, IntKind.bits] using ht
  unfold metrolablaw31_PointsKeep.f
  rw [if_pos lt]
end Go.Proofs.Ytgfkodanekfekaa.Pure
