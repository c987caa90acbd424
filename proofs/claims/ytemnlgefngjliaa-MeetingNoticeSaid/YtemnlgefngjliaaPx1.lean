/- Contracts of Go functions, printed. Conditions: as each theorem states. -/
import Derived.Test.YtemnlgefngjliaaPx0
namespace Go.Proofs.Ytemnlgefngjliaa.Px
open Go.Proofs.Ytemnlgefngjliaa.Given
open Go.RowKit Go.Proofs.YtemnlgefngjliaaW.PrintWords Go.Proofs.YtemnlgefngjliaaW.PrintLast Go.Proofs.YtemnlgefngjliaaW.PrintMore
attribute [local go_sem] a2k a2l a2x a2y a2b a2c a2m a2n
set_option linter.unusedVariables false
set_option linter.unusedSimpArgs false
theorem b5v (d : Nat) (w : World) (x0 y0 : Int) (x1 y1 : Int) :
  (Op.equalIn (d + 2) 23 (.agg #[.int .i64 x0, .int .i64 x1]) (.agg #[.int .i64 y0, .int .i64 y1])).run Try.prog w = .ok (x0 == y0 && (x1 == y1)) w := by
 refine b5a Try.underlying23 (by kernel_rfl) ?_
 refine b3l (by rfl) (by go_simp; rfl) (by go_simp; rfl) (by go_simp) ?_
 exact b3k (by rfl) (by go_simp; rfl) (by go_simp; rfl) (by go_simp)
end Go.Proofs.Ytemnlgefngjliaa.Px
