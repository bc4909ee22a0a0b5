-- Made by wip/xprint.py for this claim: the kit's printer over the translation, with hand-proved functions in their places. Lean checks it.
import Derived.Test.YtgfkodanekfekaaX0
namespace Go.Proofs.Ytgfkodanekfekaa.X
open Go.RowKit Go.Proofs.YtgfkodanekfekaaW.PrintWords Go.Proofs.YtgfkodanekfekaaW.PrintLast Go.Proofs.YtgfkodanekfekaaW.PrintMore
attribute [local go_sem] max2_int min2_int max_two min_two max_three min_three max_four min_four   -- for this text's walks alone
set_option linter.unusedVariables false
set_option linter.unusedSimpArgs false

theorem eqA46 (d : Nat) (w : World) (x0 y0 : Int) (x1 y1 : Int) :
    (Op.equalIn (d + 2) 46 (.agg #[.int .i64 x0, .int .i64 x1]) (.agg #[.int .i64 y0, .int .i64 y1])).run Try.prog w = .ok (x0 == y0 && (x1 == y1)) w := by
  refine eqA_of Try.underlying46 (by kernel_rfl) ?_
  refine eqf_cons (by rfl) (by go_simp; rfl) (by go_simp; rfl) (by go_simp) ?_
  exact eqf_last (by rfl) (by go_simp; rfl) (by go_simp; rfl) (by go_simp)
end Go.Proofs.Ytgfkodanekfekaa.X
