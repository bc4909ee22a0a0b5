/- Differ of the program and of the reference answer alike, for all squared radii and tolerances. -/
import Derived.Test.YtkpojbglckmddaaX15
import Derived.Test.YtkpojbglckmddaaBaseDecNear
namespace Go.Proofs.Ytkpojbglckmddaa.Pure
open Go.RowKit Go.Proofs.Ytkpojbglckmddaa.X Go.Proofs.YtkpojbglckmddaaW.PrintWords Go.Proofs.YtkpojbglckmddaaW.PrintLast Go.Proofs.Ytkpojbglckmddaa.Near Go.Proofs.Ytkpojbglckmddaa.Dec
theorem rtol_f (t : Int) : metrolabref38_Tol.f t = some (if tolB t = true then 0 else 2) := by
  unfold metrolabref38_Tol.f tolB
  by_cases h : t < 0
  · rw [if_pos h, decide_eq_false (show ¬ 0 ≤ t by omega)]; rfl
  · rw [if_neg h, decide_eq_true (show 0 ≤ t by omega)]
    by_cases h2 : t > 100000
    · rw [if_pos h2, decide_eq_false (by omega)]; rfl
    · rw [if_neg h2, decide_eq_true (by omega)]; rfl
theorem rdiffer_f (k : Nat) (low high t : Int) : metrolabref38_Differ.f (k + 502) low high t = some (differV low high t) := by
  unfold metrolabref38_Differ.f differV
  have hj : ∀ b, metrolabref38_Differ.j0 (k + 502) low high t b = if b = true then some (false, 2) else if low > high then some (false, 9) else (metrolabref38_Tol.f t).bind fun t306 => if t306 = 0 then (metrolabref38_Near.f (k + 501) low high t).bind fun t307 => some (t307, 0) else some (false, t306) := fun b => by
    rw [show k + 502 = (k + 501) + 1 by omega]
    generalize k + 501 = K
    simp only [metrolabref38_Differ.j0]
  rw [hj, hj]
  by_cases h1 : low < 0
  · rw [if_pos h1, if_pos (Or.inl h1)]; rfl
  · rw [if_neg h1]
    by_cases h2 : low > 80000000000
    · rw [if_pos h2, if_pos (Or.inr (Or.inl h2))]; rfl
    · rw [if_neg h2]
      by_cases h3 : high < 0
      · rw [if_pos h3, if_pos (Or.inr (Or.inr (Or.inl h3)))]; rfl
      · rw [if_neg h3]
        by_cases h4 : high > 80000000000
        · rw [if_pos (decide_eq_true h4), if_pos (Or.inr (Or.inr (Or.inr h4)))]
        · rw [if_neg (by simpa using h4), if_neg (show ¬ (low < 0 ∨ 80000000000 < low ∨ high < 0 ∨ 80000000000 < high) by omega)]
          by_cases h5 : low > high
          · rw [if_pos h5, if_pos h5]
          · rw [if_neg h5, if_neg h5, rtol_f, Option.bind_some]
            cases ht : tolB t
            · rfl
            · unfold tolB at ht
              simp only [Bool.and_eq_true, decide_eq_true_eq] at ht
              rw [if_pos rfl, if_pos rfl, if_pos rfl, rnear_f k low high t (by omega) (by omega) (by omega) (by omega) ht.1 (by omega)]
              rfl
theorem RunoutDiffers : metrolablaw38_RunoutDiffers.Pure := by
  intro a b t _ _ _
  refine ⟨502, ?_⟩
  unfold metrolablaw38_RunoutDiffers.f
  have hr := rdiffer_f 0 a b t
  rw [show 0 + 502 = 502 from rfl] at hr
  have ha : metrolablaw38_awake.f = some true := rfl
  rw [differ_f 500, Option.bind_some, hr, Option.bind_some, ha, Option.bind_some, if_pos rfl]
  simp
end Go.Proofs.Ytkpojbglckmddaa.Pure
