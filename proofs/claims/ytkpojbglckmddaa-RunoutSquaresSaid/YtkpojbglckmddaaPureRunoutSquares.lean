/- Differ at the squares of two whole radii answers whether the radii differ by at most the tolerance; for all uint16 numbers. -/
import Derived.Test.YtkpojbglckmddaaX13
import Derived.Test.YtkpojbglckmddaaNear
namespace Go.Proofs.Ytkpojbglckmddaa.Pure
open Go.RowKit Go.Proofs.Ytkpojbglckmddaa.X Go.Proofs.YtkpojbglckmddaaW.PrintWords Go.Proofs.YtkpojbglckmddaaW.PrintLast

/-- YOURS: ∀ (a0 : Int) (a1 : Int) (a2 : Int), (Lit.int .u16 a0).wf = true → (Lit.int .u16 a1).wf = true → (Lit.int .u16 a2).wf = true → ∃ k, metrolablaw38_RunoutSquares.f k a0 a1 a2 = some true
What it reaches (each with k first where it has rounds; `.mono`: more rounds tell the same; `.l0`, ..: its loops, with `.mono_l`): api_Point_71.f, api_Point_58.f, vector_within.f, vector_flat.f, vector_Check.f, runout_right.f, slices_Max_int_int.f, slices_Min_int_int.f, runout_radii.f, runout_Radii.f, runout_tolerance.f, runout_times.f, runout_wide_most.f, runout_near.f, runout_Differ.f, runout_errors.f, runout_Check.f, runout_check.f, runout_Circular.f, runout_ends.f, runout_Total.f, runout_Least.f, metrolablaw38_Turned.f, metrolablaw38_awake.f, metrolablaw38_RunoutSquares.f -/
theorem RunoutSquares : metrolablaw38_RunoutSquares.Pure := by
  intro a b t ha hb ht
  have la : 0 ≤ a ∧ a ≤ 65535 := by simpa [Lit.wf, IntKind.min, IntKind.max, IntKind.signed, IntKind.bits] using ha
  have lb : 0 ≤ b ∧ b ≤ 65535 := by simpa [Lit.wf, IntKind.min, IntKind.max, IntKind.signed, IntKind.bits] using hb
  have lt : 0 ≤ t ∧ t ≤ 65535 := by simpa [Lit.wf, IntKind.min, IntKind.max, IntKind.signed, IntKind.bits] using ht
  refine ⟨2, ?_⟩
  unfold metrolablaw38_RunoutSquares.f
  rw [Near.w64 a (by omega) (by omega), Near.w64 b (by omega) (by omega), Near.w64 t (by omega) (by omega), Int.tmod_eq_emod_of_nonneg la.1, Int.tmod_eq_emod_of_nonneg lb.1, Int.emod_eq_of_lt la.1 (by omega), Int.emod_eq_of_lt lb.1 (by omega)]
  obtain ⟨l, hl⟩ : ∃ l, l = mn a b := ⟨_, rfl⟩
  obtain ⟨h, hh⟩ : ∃ h, h = mx a b := ⟨_, rfl⟩
  rw [← hl, ← hh]
  have bl : 0 ≤ l ∧ l ≤ h ∧ h ≤ 65535 := by rw [hl, hh]; unfold mn mx; split <;> split <;> omega
  have sl := Near.mul_le_of bl.1 (show l ≤ 65535 by omega) bl.1 (show l ≤ 65535 by omega)
  have sh := Near.mul_le_of (show 0 ≤ h by omega) bl.2.2 (show 0 ≤ h by omega) bl.2.2
  have slh : l * l ≤ h * h := Int.mul_le_mul bl.2.1 bl.2.1 bl.1 (by omega)
  have hn := Near.near_squares l h t bl.1 bl.2.1 lt.1
  have hz : Near.nearB (l * l) (l * l) 0 = true := by unfold Near.nearB; rw [decide_eq_true]; left; omega
  generalize l * l = L at *
  generalize h * h = H at *
  rw [Near.w64 L (by omega) (by omega), Near.w64 H (by omega) (by omega), Near.differ_f 0, Near.differ_f 0]
  have e1 : Near.differV L H t = (Near.nearB L H t, 0) := by
    unfold Near.differV Near.tolB
    rw [if_neg (by omega), if_neg (by omega), if_pos (by simp; omega)]
  have e2 : Near.differV L L 0 = (Near.nearB L L 0, 0) := by
    unfold Near.differV Near.tolB
    rw [if_neg (by omega), if_neg (by omega), if_pos (by simp)]
  rw [e1, e2, hn, hz, Near.w64 (h - l) (by omega) (by omega)]
  simp only [Option.bind_some]
  rw [if_pos (by decide +kernel), if_pos trivial, if_pos (by simp)]
  rfl

end Go.Proofs.Ytkpojbglckmddaa.Pure
