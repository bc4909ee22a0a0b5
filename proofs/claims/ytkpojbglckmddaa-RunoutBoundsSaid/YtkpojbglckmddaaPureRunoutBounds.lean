/- The least tolerance is kept and one less is not; whoever keeps the total run-out keeps the circular one, and both with a greater tolerance; for all sections, axes and tolerances. -/
import Derived.Test.YtkpojbglckmddaaSaidRunoutBounds
import Derived.Test.YtkpojbglckmddaaBaseRight
namespace Go.Proofs.Ytkpojbglckmddaa.Pure
open Go.RowKit Go.Proofs.Ytkpojbglckmddaa.X Go.Proofs.YtkpojbglckmddaaW.PrintWords Go.Proofs.Ytkpojbglckmddaa.Base Go.Proofs.Ytkpojbglckmddaa.Near
open RunoutBoundsIn
theorem RunoutBounds : SaidRunoutBounds := by
  intro l a t _ hl _ ht
  have lt : 0 ≤ t ∧ t ≤ 65535 := by simpa [Lit.wf, IntKind.min, IntKind.max, IntKind.signed, IntKind.bits] using ht
  obtain ⟨K, hK⟩ : ∃ K, K = l.length + 500000 := ⟨_, rfl⟩
  refine ⟨K + 4, ?_⟩
  unfold metrolablaw38_RunoutBounds.f
  rw [right_f l (by omega) a.f0 a.f1 _ (by omega), Option.bind_some]
  by_cases hr : rightV l a.f0 a.f1 = true
  case neg => rw [if_neg hr, awake_t, Option.bind_some]
  rw [if_pos hr]
  unfold rightV at hr
  simp only [Bool.and_eq_true, decide_eq_true_eq] at hr
  obtain ⟨_, he, ha⟩ := hr
  have R := right_of he ha
  obtain ⟨r, h1, h2, h3, h4, h5⟩ := least_f l a.f0 a.f1 he R (K + 4) (by omega)
  have hb := bounds R
  have T : ∀ k, 3000 ≤ k → ∀ q, 0 ≤ q → q ≤ 100000 → runout_Total.f k l a.f0 a.f1 q = some (decide (r ≤ q), 0) := by
    intro k hk q hq hq2
    rw [total_f l a.f0 a.f1 q he R hq hq2 k hk]
    congr 2
    by_cases h : r ≤ q
    · rw [decide_eq_true h]; exact near_mono hb.1 h2 h h4
    · rw [decide_eq_false h]; exact h5 q hq (by omega)
  obtain ⟨c, hc⟩ : ∃ c : Int → Nat, ∀ q, c q = kept l a.f0 a.f1 q := ⟨_, fun _ => rfl⟩
  have C : ∀ k, 3000 ≤ k → ∀ q, 0 ≤ q → q ≤ 100000 → runout_Circular.f k l a.f0 a.f1 q = some (decide (c q = l.length), (c q : Int), 0) := by
    intro k hk q hq hq2
    rw [circular_f l a.f0 a.f1 q he R hq hq2 k hk, hc]
  have TC : ∀ q, 0 ≤ q → r ≤ q → c q = l.length := by
    intro q hq hrq
    rw [hc, kept_all]
    intro s hs
    have hbp := boundsP R hs
    exact near_inner hbp.1 hbp.2.2.1 (near_mono hb.1 h2 hrq h4)
  have CC : ∀ q, 0 ≤ q → c q = l.length → c (q + 1) = l.length := by
    intro q hq hcq
    rw [hc, kept_all] at *
    intro s hs
    have hbp := boundsP R hs
    exact near_mono (by omega) hq (by omega) (hcq s hs)
  have hz : wrap64 (0 + 0) = 0 := by decide +kernel
  rw [h1, Option.bind_some, w64 t (by omega) (by omega), T _ (by omega) t lt.1 (by omega), Option.bind_some, C _ (by omega) t lt.1 (by omega), Option.bind_some]
  have hz2 : wrap64 (wrap64 (0 + 0) + 0) = 0 := by decide +kernel
  rw [if_pos hz2, if_neg (show ¬ r < 0 by omega)]
  rw [if_neg (show ¬ ((decide (r ≤ t) != decide (t ≥ r)) = true) by simp)]
  have J2 : ∀ b, b = false → r ≤ 100000 → metrolablaw38_RunoutBounds.j2 (K + 2) l r b a.f0 a.f1 = some true := by
    rintro b rfl hr
    simp only [metrolablaw38_RunoutBounds.j2]
    rw [if_neg (show ¬ (false = true) by decide)]
    by_cases h0 : r > 0
    · rw [if_pos h0, w64 (r - 1) (by omega) (by omega), T _ (by omega) (r - 1) (by omega) (by omega), Option.bind_some, if_pos rfl, if_neg (by rw [decide_eq_true_eq]; omega), awake_t, Option.bind_some]
    · rw [if_neg h0, awake_t, Option.bind_some]
  have J1 : ∀ b, b = false → metrolablaw38_RunoutBounds.j1 (K + 3) l r b a.f0 a.f1 = some true := by
    rintro b rfl
    simp only [metrolablaw38_RunoutBounds.j1]
    rw [if_neg (show ¬ (false = true) by decide)]
    by_cases h0 : r > 100000
    · rw [if_pos h0, awake_t, Option.bind_some]
    · rw [if_neg h0, T _ (by omega) r h2 (by omega), Option.bind_some, if_pos rfl]
      exact J2 _ (by simp) (by omega)
  have J0 : ∀ b, b = false → metrolablaw38_RunoutBounds.j0 (K + 4) l t r (decide (r ≤ t)) (decide (c t = l.length)) b a.f0 a.f1 = some true := by
    rintro b rfl
    generalize hK3 : K + 3 = K3 at *
    rw [show K + 4 = K3 + 1 by omega]
    simp only [metrolablaw38_RunoutBounds.j0]
    rw [if_neg (show ¬ (false = true) by decide), w64 t (by omega) (by omega), w64 (t + 1) (by omega) (by omega), T _ (by omega) (t + 1) (by omega) (by omega), Option.bind_some, C _ (by omega) (t + 1) (by omega) (by omega), Option.bind_some, if_pos hz]
    have e1 : ∀ h : r ≤ t, decide (r ≤ t + 1) = true := fun h => decide_eq_true (by omega)
    by_cases hrt : r ≤ t
    · rw [if_pos (decide_eq_true hrt), if_pos (e1 hrt), if_pos (decide_eq_true (TC t lt.1 hrt))]
      exact J1 _ (by simp [CC t lt.1 (TC t lt.1 hrt)])
    · rw [if_neg (by rw [decide_eq_true_eq]; exact hrt)]
      by_cases hct : c t = l.length
      · rw [if_pos (decide_eq_true hct)]
        exact J1 _ (by simp [CC t lt.1 hct])
      · rw [if_neg (by rw [decide_eq_true_eq]; exact hct)]
        exact J1 _ rfl
  have hne : (decide (c t = l.length) != (((c t : Nat) : Int) == (l.length : Int))) = false := by
    by_cases h : c t = l.length
    · simp [h]
    · have : ¬ ((c t : Nat) : Int) = (l.length : Int) := by omega
      simp [h, this]
  by_cases hrt : r ≤ t
  · rw [if_pos (decide_eq_true hrt), if_pos (decide_eq_true (TC t lt.1 hrt))]
    exact J0 _ hne
  · rw [if_neg (by rw [decide_eq_true_eq]; exact hrt)]
    exact J0 _ hne
end Go.Proofs.Ytkpojbglckmddaa.Pure
