/- The law PointsThin over lists and numbers: nothing is left behind the walk but the bounds of the gap. -/
import Derived.Test.YtgfkodanekfekaaSaidPointsThin
namespace Go.Proofs.Ytgfkodanekfekaa.Pure
open Go.RowKit Go.Proofs.Ytgfkodanekfekaa.X Go.Proofs.YtgfkodanekfekaaW.PrintWords
open PointsThinIn
theorem PointsThin : SaidPointsThin := by
  intro l t _ hlen ht
  have lt : 0 ≤ t ∧ t ≤ 65535 := by simpa [Lit.wf, IntKind.min, IntKind.max, IntKind.signed, IntKind.bits] using ht
  unfold metrolablaw31_PointsThin.f
  rw [if_pos lt]
end Go.Proofs.Ytgfkodanekfekaa.Pure
