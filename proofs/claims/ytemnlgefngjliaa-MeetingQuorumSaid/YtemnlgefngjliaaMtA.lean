/- Plain facts for the meeting's laws: steps without end, and the examples at the head of the laws. Conditions: as each theorem states. -/
import Derived.Test.YtemnlgefngjliaaWWords
import Derived.Test.YtemnlgefngjliaaWMore
import Derived.Test.YtemnlgefngjliaaPx15
namespace Go.Proofs.Ytemnlgefngjliaa.Meet
open Go.RowKit Go.Proofs.YtemnlgefngjliaaW.PrintWords Go.Proofs.Ytemnlgefngjliaa.Given Go.Proofs.Ytemnlgefngjliaa.Px
set_option linter.unusedVariables false
set_option linter.unusedSimpArgs false
theorem w64 {x : Int} (h : -9223372036854775808 ≤ x) (h2 : x ≤ 9223372036854775807) : wrap64 x = x := by unfold wrap64; omega
theorem evUp {α : Type} {g : Nat → Option α} {r : α} (K : Nat) (h : ∀ k, K ≤ k → g (k + 1) = some r) : Ev g r :=
  ⟨K + 1, fun k hk => by
    obtain ⟨j, rfl⟩ : ∃ j, k = j + 1 := ⟨k - 1, by omega⟩
    exact h j (by omega)⟩
set_option maxRecDepth 100000 in
theorem b6t : Ev (fun k => a0h.f k) true := Ev.of (fun k => a0h.mono k) (k := 60) (by decide +kernel)
theorem a4x (n a b : Int) : a0s.f n a b = some (decide (a ≤ n ∧ n ≤ b)) := by
  unfold a0s.f
  by_cases h : a ≤ n
  · rw [if_pos h]; simp [h]
  · rw [if_neg h]; simp [h]
end Go.Proofs.Ytemnlgefngjliaa.Meet
