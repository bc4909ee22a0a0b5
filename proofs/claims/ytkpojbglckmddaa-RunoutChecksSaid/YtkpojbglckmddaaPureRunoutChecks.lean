/- Check and Radii of the program and of the reference answer alike, for all sections, points and axes. -/
import Derived.Test.YtkpojbglckmddaaSaidRunoutChecks
import Derived.Test.YtkpojbglckmddaaBaseRadii
namespace Go.Proofs.Ytkpojbglckmddaa.Pure
open Go.RowKit Go.Proofs.Ytkpojbglckmddaa.X Go.Proofs.YtkpojbglckmddaaW.PrintWords Go.Proofs.Ytkpojbglckmddaa.Base
open RunoutChecksIn
theorem awake_f : metrolablaw38_awake.f = some true := rfl
theorem RunoutChecks : SaidRunoutChecks := by
  intro l0 l1 a2 _ hl0 _ hl1 _
  have hlen : l0.length ≤ 4398046511103 := by omega
  refine ⟨l0.length + 5000, ?_⟩
  unfold metrolablaw38_RunoutChecks.f
  have h1 := own_f l0 hlen 4999
  rw [show 4999 + l0.length + 1 = l0.length + 5000 by omega] at h1
  have h2 := fewS_f l0 hlen 4998
  rw [show 4998 + l0.length + 2 = l0.length + 5000 by omega] at h2
  have h3 := Radii_f l1 a2.f0 a2.f1 (l0.length + 2886)
  rw [show l0.length + 2886 + 2113 = l0.length + 4999 by omega] at h3
  have h4 := rRadii_f l1 a2.f0 a2.f1 (l0.length + 4869)
  rw [show l0.length + 4869 + 130 = l0.length + 4999 by omega] at h4
  have h5 := own_f l0 hlen 4998
  rw [show 4998 + l0.length + 1 = l0.length + 4999 by omega] at h5
  have h6 := rcheck38_f l0 (l0.length + 4835)
  rw [show l0.length + 4835 + 164 = l0.length + 4999 by omega] at h6
  have hj : ∀ b, metrolablaw38_RunoutChecks.j0 (l0.length + 5000) l0 l1 b a2.f0 a2.f1 = some true := by
    intro b
    generalize hK : l0.length + 4999 = K at *
    rw [show l0.length + 5000 = K + 1 by omega]
    simp only [metrolablaw38_RunoutChecks.j0]
    cases b
    · rw [if_neg (show ¬ (false = true) by decide), h3, Option.bind_some, h4, Option.bind_some, awake_f, Option.bind_some, if_pos rfl]
      show ((some (errsOf l0)).bind _) = _
      rw [Option.bind_some, h5, Option.bind_some, h6, Option.bind_some, if_pos rfl, if_pos rfl, if_pos rfl]
      simp
    · rw [if_pos rfl, awake_f, Option.bind_some]
  rw [h1, Option.bind_some, h2, Option.bind_some]
  by_cases hf : fewS l0 = true
  · rw [if_pos hf, few_f, Option.bind_some, hj]
  · rw [if_neg hf, hj]
end Go.Proofs.Ytkpojbglckmddaa.Pure
