/- Turn, Mirror and Flatten answer as the reference does, for all samples, axes and numbers. -/
import Derived.Test.YtgfkodanekfekaaSaidPointsTurns
import Derived.Test.YtgfkodanekfekaaBase
namespace Go.Proofs.Ytgfkodanekfekaa.Pure
open Go.RowKit Go.Proofs.Ytgfkodanekfekaa.X Go.Proofs.YtgfkodanekfekaaW.PrintWords Go.Proofs.Ytgfkodanekfekaa.Base
open PointsTurnsIn
theorem mapT_len (g : Int × Int × Int → Int × Int × Int) (l : List S30) : (mapT g l).length = l.length := by unfold mapT; exact List.length_map _
theorem turn_some (l : List S30) (a q : Int) : ∃ r, points_Turn.f l a q = some r ∧ r.1.length ≤ 64 := by
  unfold points_Turn.f
  rw [along_f, Option.bind_some]
  by_cases h : alongV l a = 0
  · rw [if_pos h]; exact ⟨_, rfl, by rw [mapT_len]; exact (along_small h).1⟩
  · rw [if_neg h]; exact ⟨_, rfl, by simp⟩
theorem mirror_some (l : List S30) (a : Int) : ∃ r, points_Mirror.f l a = some r ∧ r.1.length ≤ 64 := by
  unfold points_Mirror.f
  rw [along_f, Option.bind_some]
  by_cases h : alongV l a = 0
  · rw [if_pos h]; exact ⟨_, rfl, by rw [mapT_len]; exact (along_small h).1⟩
  · rw [if_neg h]; exact ⟨_, rfl, by simp⟩
theorem flatten_some (l : List S30) (a : Int) : ∃ r, points_Flatten.f l a = some r ∧ r.1.length ≤ 64 := by
  unfold points_Flatten.f
  rw [along_f, Option.bind_some]
  by_cases h : alongV l a = 0
  · rw [if_pos h]; exact ⟨_, rfl, by simp only [List.length_map]; exact (along_small h).1⟩
  · rw [if_neg h]; exact ⟨_, rfl, by simp⟩
theorem PointsTurns : SaidPointsTurns := by
  intro l a q _ hl _ _
  obtain ⟨r, hr, hr2⟩ := turn_some l a q
  obtain ⟨s, hs, hs2⟩ := mirror_some l a
  obtain ⟨t, ht, ht2⟩ := flatten_some l a
  obtain ⟨K, hK⟩ : ∃ K : Nat, K = 2000 := ⟨_, rfl⟩
  refine ⟨K + 1, ?_⟩
  unfold metrolablaw31_PointsTurns.f metrolabref31_Few.f
  rw [Option.bind_some]
  by_cases hf : decide ((l.length : Int) ≤ 128) = true
  · rw [if_pos hf, hr, Option.bind_some, rturn_f l a q _ (by omega), hr, Option.bind_some, hs, Option.bind_some, rmirror_f l a _ (by omega), hs, Option.bind_some, eq30_f _ _ (by omega) _ (by omega), Option.bind_some, decide_eq_true rfl, if_pos rfl, if_pos rfl, eq30_f _ _ (by omega) _ (by omega), Option.bind_some, decide_eq_true rfl, if_pos rfl]
    rw [show (s.2 != s.2) = false by simp, metrolablaw31_PointsTurns.j0]
    rw [if_neg (show ¬ (false = true) by decide), ht, Option.bind_some, rflat_f l a _ (by omega), ht, Option.bind_some, eq46_f _ _ (by omega) _ (by omega), Option.bind_some, decide_eq_true rfl, if_pos rfl, if_pos rfl, awake_k _ (by omega), Option.bind_some]
  · rw [if_neg hf, awake_k _ (by omega), Option.bind_some]
end Go.Proofs.Ytgfkodanekfekaa.Pure
