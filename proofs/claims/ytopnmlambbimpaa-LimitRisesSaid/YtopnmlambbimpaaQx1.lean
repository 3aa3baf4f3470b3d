/- The calls of these Go functions answer what the Lean functions beside them answer; written by a program (wip/pr2.py, out of the print of the loaded program); under no condition but those that stand in the theorems. -/
import Derived.Test.YtopnmlambbimpaaQx0
namespace Go.Proofs.Ytopnmlambbimpaa.Q
open Go.RowKit Go.Proofs.YtopnmlambbimpaaW.PrintWords Go.Proofs.YtopnmlambbimpaaW.PrintLast Go.Proofs.YtopnmlambbimpaaW.PrintMore
attribute [local go_sem] max2_int min2_int max_two min_two max_three min_three max_four min_four   -- for this text's walks alone
set_option linter.unusedVariables false
set_option linter.unusedSimpArgs false

theorem eqA25 (d : Nat) (w : World) (x0 y0 : Int) (x1 y1 : Bool) :
    (Op.equalIn (d + 2) 25 (.agg #[.int .i64 x0, .bool x1]) (.agg #[.int .i64 y0, .bool y1])).run Try.prog w = .ok (x0 == y0 && (x1 == y1)) w := by
  refine eqA_of Try.underlying25 (by kernel_rfl) ?_
  refine eqf_cons (by rfl) (by go_simp; rfl) (by go_simp; rfl) (by go_simp) ?_
  exact eqf_last (by rfl) (by go_simp; rfl) (by go_simp; rfl) (by go_simp)
end Go.Proofs.Ytopnmlambbimpaa.Q
