/- The reference's Radii. -/
import Derived.Test.YtkpojbglckmddaaBaseRef
import Derived.Test.YtkpojbglckmddaaX14
namespace Go.Proofs.Ytkpojbglckmddaa.Base
open Go.RowKit Go.Proofs.Ytkpojbglckmddaa.X Go.Proofs.YtkpojbglckmddaaW.PrintWords Go.Proofs.Ytkpojbglckmddaa.Near
theorem rRadii_f (l : List S25) (x y : Int) (k : Nat) : metrolabref38_Radii.f (k + 130) l x y = some (radiiV l x y) := by
  unfold metrolabref38_Radii.f
  rw [show k + 130 = (k + 65) + 65 by omega, rcheck_f, Option.bind_some]
  by_cases h0 : chk l = 0
  · rw [if_pos h0]
    obtain ⟨h1, h2⟩ := chk_zero h0
    by_cases h3 : l.length = 0
    · rw [if_pos (by omega), radiiV_empty h0 h3]
    · rw [if_neg (by omega), right_eq, Option.bind_some]
      by_cases ha : okPoint ⟨x, y⟩ = true
      · rw [if_pos ha, show k + 65 + 65 = (k + 130 - l.length) + l.length by omega, rends_f x y ha l (by omega) (fun h => h3 (by rw [h]; rfl)) h2, Option.bind_some, radiiV_ok h0 h3 ha]
      · rw [if_neg ha, radiiV_axis h0 h3 ha]
  · rw [if_neg h0, radiiV_bad h0]

end Go.Proofs.Ytkpojbglckmddaa.Base
