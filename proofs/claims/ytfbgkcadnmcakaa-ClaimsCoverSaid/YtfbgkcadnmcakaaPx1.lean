/- Contracts of Go functions, printed. Conditions: as each theorem states. -/
import Derived.Test.YtfbgkcadnmcakaaPx0
namespace Go.Proofs.Ytfbgkcadnmcakaa.Px
open Go.Proofs.Ytfbgkcadnmcakaa.Given
open Go.RowKit Go.Proofs.YtfbgkcadnmcakaaW.PrintWords Go.Proofs.YtfbgkcadnmcakaaW.PrintLast Go.Proofs.YtfbgkcadnmcakaaW.PrintMore
attribute [local go_sem] a2w a2u a3d a3c a2q a2r a2x a2y
set_option linter.unusedVariables false
set_option linter.unusedSimpArgs false
theorem b5m (d : Nat) (w : World) (x0 y0 : Int) (x1 y1 : Int) :
  (Op.equalIn (d + 2) 28 (.agg #[.int .i64 x0, .int .i64 x1]) (.agg #[.int .i64 y0, .int .i64 y1])).run Try.prog w = .ok (x0 == y0 && (x1 == y1)) w := by
 refine b2n Try.underlying28 (by kernel_rfl) ?_
 refine a6i (by rfl) (by go_simp; rfl) (by go_simp; rfl) (by go_simp) ?_
 exact b0d (by rfl) (by go_simp; rfl) (by go_simp; rfl) (by go_simp)
theorem b3u (d : Nat) (w : World) (x0 y0 : Int) (x1 y1 : Int) (x2 y2 : Int) (x3 y3 : Int) (x4 y4 : Int) (x5 y5 : Int) :
  (Op.equalIn (d + 3) 30 (.agg #[.int .i64 x0, .int .i64 x1, .int .i64 x2, .int .i64 x3, .int .i64 x4, .int .i64 x5]) (.agg #[.int .i64 y0, .int .i64 y1, .int .i64 y2, .int .i64 y3, .int .i64 y4, .int .i64 y5])).run Try.prog w = .ok (x0 == y0 && (x1 == y1 && (x2 == y2 && (x3 == y3 && ((x4 == y4 && (x5 == y5))))))) w := by
 refine b2n Try.underlying30 (by kernel_rfl) ?_
 refine a6i (by rfl) (by go_simp; rfl) (by go_simp; rfl) (by go_simp) ?_
 refine a6i (by rfl) (by go_simp; rfl) (by go_simp; rfl) (by go_simp) ?_
 refine a6i (by rfl) (by go_simp; rfl) (by go_simp; rfl) (by go_simp) ?_
 refine a6i (by rfl) (by go_simp; rfl) (by go_simp; rfl) (by go_simp) ?_
 exact b0d (by rfl) (by go_simp) (by go_simp) (b5m (d + 0) w _ _ _ _)
end Go.Proofs.Ytfbgkcadnmcakaa.Px
