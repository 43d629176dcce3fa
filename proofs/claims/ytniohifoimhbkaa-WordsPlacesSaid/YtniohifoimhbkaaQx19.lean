-- printed by myprint.py: a program of this repo over the kit's print
import Derived.Test.YtniohifoimhbkaaQx0
namespace Go.Proofs.Ytniohifoimhbkaa.Q
open Go.RowKit Go.Proofs.YtniohifoimhbkaaW.PrintWords Go.Proofs.YtniohifoimhbkaaW.PrintLast Go.Proofs.YtniohifoimhbkaaW.PrintMore
attribute [local go_sem] max2_int min2_int max_two min_two max_three min_three max_four min_four   -- for this text's walks alone
set_option linter.unusedVariables false
set_option linter.unusedSimpArgs false

theorem eqA28 (d : Nat) (w : World) (x0 y0 : ByteArray) (x1 y1 : Int) :
    (Op.equalIn (d + 2) 28 (.agg #[.string x0, .int .i64 x1]) (.agg #[.string y0, .int .i64 y1])).run Try.prog w = .ok (x0.toList == y0.toList && (x1 == y1)) w := by
  refine eqA_of Try.underlying28 (by kernel_rfl) ?_
  refine eqf_cons (by rfl) (by go_simp; rfl) (by go_simp; rfl) (by go_simp) ?_
  exact eqf_last (by rfl) (by go_simp; rfl) (by go_simp; rfl) (by go_simp)
end Go.Proofs.Ytniohifoimhbkaa.Q
