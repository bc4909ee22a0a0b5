/- Plain law on 'right': sections are few and right, with an axis. -/
import Derived.Test.YtkpojbglckmddaaBaseTotal
import Derived.Test.YtkpojbglckmddaaX13
namespace Go.Proofs.Ytkpojbglckmddaa.Base
open Go.RowKit Go.Proofs.Ytkpojbglckmddaa.X Go.Proofs.YtkpojbglckmddaaW.PrintWords Go.Proofs.Ytkpojbglckmddaa.Near
def rightV (l : List S62) (x y : Int) : Bool := fewS l && (decide (errsOf l = 0) && okPoint ⟨x, y⟩)
theorem right_f (l : List S62) (hl : l.length ≤ 4398046511103) (x y : Int) (k : Nat) (hk : l.length + 200 ≤ k) : metrolablaw38_right.f k l x y = some (rightV l x y) := by
  unfold metrolablaw38_right.f rightV
  have h1 := own_f l hl (k - l.length - 1)
  rw [show k - l.length - 1 + l.length + 1 = k by omega] at h1
  have h2 := fewS_f l hl (k - l.length - 2)
  rw [show k - l.length - 2 + l.length + 2 = k by omega] at h2
  have h3 := given_f l x y (k - 164)
  rw [show k - 164 + 164 = k by omega] at h3
  rw [h1, Option.bind_some, h2, Option.bind_some]
  by_cases hf : fewS l = true
  · rw [if_pos hf, Option.bind_some, h3, Option.bind_some, hf, Bool.true_and]
    congr 1
    by_cases hg : errsOf l = 0 ∧ okPoint ⟨x, y⟩ = true
    · rw [given_zero.2 hg, hg.2, decide_eq_true hg.1]; rfl
    · rw [beq_eq_false_iff_ne.mpr (fun e => hg (given_zero.1 e))]
      by_cases ha : errsOf l = 0
      · have : ¬ okPoint ⟨x, y⟩ = true := fun e => hg ⟨ha, e⟩
        rw [Bool.not_eq_true] at this
        rw [this, Bool.and_false]
      · rw [decide_eq_false ha, Bool.false_and]
  · rw [if_neg hf]
    rw [Bool.not_eq_true] at hf
    rw [hf, Bool.false_and]
end Go.Proofs.Ytkpojbglckmddaa.Base
