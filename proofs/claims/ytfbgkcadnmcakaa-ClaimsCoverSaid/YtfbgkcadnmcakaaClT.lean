/- The stable sort of assignments by their days, second part: two pieces in order are merged. Conditions: as each theorem states. -/
import Derived.Test.YtfbgkcadnmcakaaClS
import Derived.Test.YtfbgkcadnmcakaaPx8
import Derived.Test.YtfbgkcadnmcakaaPx9
namespace Go.Proofs.Ytfbgkcadnmcakaa.Cl
open Go.RowKit Go.Proofs.YtfbgkcadnmcakaaW.PrintWords Go.Proofs.Ytfbgkcadnmcakaa.Given Go.Proofs.Ytfbgkcadnmcakaa.Px
set_option linter.unusedVariables false
set_option linter.unusedSimpArgs false
theorem Rot.refl {l : List S26} {lo mid hi : Int} (h : lo = mid ∧ mid ≤ hi ∨ lo ≤ mid ∧ mid = hi) : Rot l l lo mid hi := by
  refine ⟨rfl, fun p p0 p1 => ?_⟩
  by_cases c : lo ≤ p ∧ p < lo + (hi - mid)
  · rw [if_pos c]
    congr 1
    omega
  · rw [if_neg c]
    by_cases d : lo + (hi - mid) ≤ p ∧ p < hi
    · rw [if_pos d]
      congr 1
      omega
    · rw [if_neg d]
end Go.Proofs.Ytfbgkcadnmcakaa.Cl
/- The stable sort of assignments by their days, third part: blocks of twenty in order, merged until there is one. Conditions: as each theorem states. -/
namespace Go.Proofs.Ytfbgkcadnmcakaa.Cl
open Go.RowKit Go.Proofs.YtfbgkcadnmcakaaW.PrintWords Go.Proofs.Ytfbgkcadnmcakaa.Given Go.Proofs.Ytfbgkcadnmcakaa.Px
set_option linter.unusedVariables false
set_option linter.unusedSimpArgs false
end Go.Proofs.Ytfbgkcadnmcakaa.Cl
