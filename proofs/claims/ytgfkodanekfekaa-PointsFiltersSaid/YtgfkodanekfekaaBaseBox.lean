/- Plain laws on samples: boxes. -/
import Derived.Test.YtgfkodanekfekaaBaseLite
import Derived.Test.YtgfkodanekfekaaX27
import Derived.Test.YtgfkodanekfekaaX5
namespace Go.Proofs.Ytgfkodanekfekaa.Base
open Go.RowKit Go.Proofs.Ytgfkodanekfekaa.X Go.Proofs.YtgfkodanekfekaaW.PrintWords Go.Proofs.YtgfkodanekfekaaW.PrintLast
set_option linter.unusedVariables false
/-! boxes -/
theorem rbox_l0 (l : List S30) (hl : l.length ≤ 1000) : ∀ (d i : Nat) (a b : Int × Int × Int), i + d = l.length → ∀ k, metrolabref31_Box.l0 (k + d + 1) l (i : Int) a.1 a.2.1 a.2.2 b.1 b.2.1 b.2.2 = some ((lowF a (l.drop i)).1, (lowF a (l.drop i)).2.1, (lowF a (l.drop i)).2.2, (highF b (l.drop i)).1, (highF b (l.drop i)).2.1, (highF b (l.drop i)).2.2, 0) := by
  intro d
  induction d with
  | zero =>
    intro i a b hi k
    simp only [metrolabref31_Box.l0]
    rw [if_neg (by omega), List.drop_of_length_le (by omega)]
    rfl
  | succ d ih =>
    intro i a b hi k
    rw [show k + (d + 1) + 1 = (k + d + 1) + 1 by omega]
    have ih' := ih (i + 1) (lowT a (t3 (l.getD i z30))) (highT b (t3 (l.getD i z30))) (by omega) k
    generalize hK : k + d + 1 = K at *
    simp only [metrolabref31_Box.l0]
    rw [if_pos (by omega), if_pos (by omega), rd30, next_ i (by omega), drop_cons_ l z30 i (by omega)]
    exact ih'
theorem rbox_f (l : List S30) (k : Nat) (hk : 1000 ≤ k) : metrolabref31_Box.f k l = points_Box.f l := by
  unfold metrolabref31_Box.f points_Box.f
  rw [rcheck_f l k (by omega), vcheck_f, Option.bind_some, Option.bind_some]
  by_cases h : chk l = 0
  · obtain ⟨h64, _⟩ := chk_zero h
    rw [if_pos h, if_pos h]
    by_cases h0 : l.length = 0
    · rw [if_pos (by omega), if_pos h0]
    · rw [if_neg (by omega), if_neg h0, if_pos (by omega)]
      have := rbox_l0 l (by omega) l.length 0 (t3 (rd_T30 l 0)) (t3 (rd_T30 l 0)) (by omega) (k - l.length - 1)
      rw [show k - l.length - 1 + l.length + 1 = k by omega] at this
      exact this
  · rw [if_neg h, if_neg h]
end Go.Proofs.Ytgfkodanekfekaa.Base
