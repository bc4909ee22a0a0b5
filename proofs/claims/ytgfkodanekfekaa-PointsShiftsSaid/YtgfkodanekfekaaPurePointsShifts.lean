/- Shift answers as the reference does, for all samples and vectors. -/
import Derived.Test.YtgfkodanekfekaaSaidPointsShifts
import Derived.Test.YtgfkodanekfekaaBaseShift
namespace Go.Proofs.Ytgfkodanekfekaa.Pure
open Go.RowKit Go.Proofs.Ytgfkodanekfekaa.X Go.Proofs.YtgfkodanekfekaaW.PrintWords Go.Proofs.Ytgfkodanekfekaa.Base
open PointsShiftsIn
theorem PointsShifts : SaidPointsShifts := by
  intro l a _ hl _
  have h2 := shiftR_len l a.f0 a.f1 a.f2
  obtain ⟨K, hK⟩ : ∃ K : Nat, K = 2000 := ⟨_, rfl⟩
  refine ⟨K, ?_⟩
  unfold metrolablaw31_PointsShifts.f metrolabref31_Few.f
  rw [Option.bind_some]
  by_cases hf : decide ((l.length : Int) ≤ 128) = true
  · rw [if_pos hf, shift_f, Option.bind_some, rshift_f _ _ _ _ _ (by omega), Option.bind_some, eq30_f _ _ (by omega) _ (by omega), Option.bind_some, decide_eq_true rfl, if_pos rfl, if_pos rfl, awake_k _ (by omega), Option.bind_some]
  · rw [if_neg hf, awake_k _ (by omega), Option.bind_some]
end Go.Proofs.Ytgfkodanekfekaa.Pure
