/- Plain facts for the meeting's laws: steps without end, and the examples at the head of the laws. Conditions: as each theorem states. -/
import Derived.Test.YtemnlgefngjliaaWWords
import Derived.Test.YtemnlgefngjliaaWMore
import Derived.Test.YtemnlgefngjliaaPx15
namespace Go.Proofs.Ytemnlgefngjliaa.Meet
open Go.RowKit Go.Proofs.YtemnlgefngjliaaW.PrintWords Go.Proofs.Ytemnlgefngjliaa.Given Go.Proofs.Ytemnlgefngjliaa.Px
set_option linter.unusedVariables false
set_option linter.unusedSimpArgs false
theorem w64 {x : Int} (h : -9223372036854775808 ≤ x) (h2 : x ≤ 9223372036854775807) : wrap64 x = x := by unfold wrap64; omega
theorem evUp {α : Type} {g : Nat → Option α} {r : α} (K : Nat) (h : ∀ k, K ≤ k → g (k + 1) = some r) : Ev g r :=
  ⟨K + 1, fun k hk => by
    obtain ⟨j, rfl⟩ : ∃ j, k = j + 1 := ⟨k - 1, by omega⟩
    exact h j (by omega)⟩
set_option maxRecDepth 100000 in
theorem head_ev : Ev (fun k => Lwhead.f k) true := Ev.of (fun k => Lwhead.mono k) (k := 60) (by decide +kernel)
theorem u64_bd (x : Int) : 0 ≤ IntKind.u64.wrap x ∧ IntKind.u64.wrap x ≤ 18446744073709551615 := by
  simp only [IntKind.wrap]
  first
    | omega
    | (simp [IntKind.bits, IntKind.signed]; omega)
theorem size_tot (p : Int) : ∃ b, Rtsize.f p = some b ∧ 0 ≤ b ∧ b ≤ 18446744073709551615 := by
  unfold Rtsize.f
  split
  · exact ⟨_, rfl, u64_bd _⟩
  · exact ⟨_, rfl, u64_bd _⟩
theorem part_tot (p q : Int) : ∃ b, MgisPart.f p q = some b ∧ (b = true → 1 ≤ q ∧ q ≤ 1000000000 ∧ 0 ≤ p ∧ p ≤ q) := by
  unfold MgisPart.f RtValid.f
  by_cases h1 : q ≥ 1
  · by_cases h2 : q ≤ 1000000000
    · by_cases h3 : p ≥ -1000000000
      · by_cases h4 : p ≤ 1000000000
        · obtain ⟨x, hx, x0, x1⟩ := size_tot p
          obtain ⟨y, hy, y0, y1⟩ := size_tot q
          rw [if_pos h1, if_pos h2, if_pos h3, if_pos h4, hx, Option.bind_some, hy, Option.bind_some]
          unfold Rtcommon.f
          rw [if_pos ⟨x0, x1, y0, y1⟩, Option.bind_some, Option.bind_some]
          split
          · unfold Mgwithin.f
            split
            · rename_i h5
              refine ⟨_, rfl, fun h6 => ?_⟩
              exact ⟨h1, h2, h5, of_decide_eq_true h6⟩
            · exact ⟨false, rfl, by simp⟩
          · exact ⟨false, rfl, by simp⟩
        · exact ⟨false, by rw [if_pos h1, if_pos h2, if_pos h3, if_neg h4]; rfl, by simp⟩
      · exact ⟨false, by rw [if_pos h1, if_pos h2, if_neg h3]; rfl, by simp⟩
    · exact ⟨false, by rw [if_pos h1, if_neg h2]; rfl, by simp⟩
  · exact ⟨false, by rw [if_neg h1]; rfl, by simp⟩
def partB (p q : Int) : Bool := (MgisPart.f p q).getD false
theorem part_eq (p q : Int) : MgisPart.f p q = some (partB p q) := by
  obtain ⟨b, hb, _⟩ := part_tot p q
  unfold partB
  rw [hb]
  rfl
theorem part_true {p q : Int} (h : partB p q = true) : 1 ≤ q ∧ q ≤ 1000000000 ∧ 0 ≤ p ∧ p ≤ q := by
  obtain ⟨b, hb, h1⟩ := part_tot p q
  unfold partB at h
  rw [hb] at h
  exact h1 h
theorem within_eq (n a b : Int) : Mgwithin.f n a b = some (decide (a ≤ n ∧ n ≤ b)) := by
  unfold Mgwithin.f
  by_cases h : a ≤ n
  · rw [if_pos h]; simp [h]
  · rw [if_neg h]; simp [h]
def passB (y n p q : Int) : Bool × Int := if (0 ≤ y ∧ y ≤ 1000000) ∧ (0 ≤ n ∧ n ≤ 1000000) ∧ partB p q = true then (decide (y * q > (y + n) * p), 0) else (false, 1)
theorem passed_eq (k : Nat) (y n p q : Int) : MgPassed.f (k + 1) y n p q = some (passB y n p q) := by
  unfold MgPassed.f passB
  rw [within_eq, Option.bind_some, within_eq, part_eq]
  by_cases h1 : 0 ≤ y ∧ y ≤ 1000000
  · rw [if_pos (decide_eq_true h1), Option.bind_some]
    by_cases h2 : 0 ≤ n ∧ n ≤ 1000000
    · rw [if_pos (decide_eq_true h2), Option.bind_some]
      cases h3 : partB p q with
      | false => rw [if_neg (by simp)]; simp [MgPassed.j0]
      | true =>
        obtain ⟨q1, q2, p1, p2⟩ := part_true h3
        rw [if_pos ⟨h1, h2, rfl⟩]
        have e1 : y * q ≤ 1000000 * 1000000000 := Int.mul_le_mul h1.2 q2 (by omega) (by omega)
        have e2 : 0 ≤ y * q := Int.mul_nonneg h1.1 (by omega)
        have e3 : (y + n) * p ≤ 2000000 * 1000000000 := Int.mul_le_mul (by omega) (by omega) (by omega) (by omega)
        have e4 : 0 ≤ (y + n) * p := Int.mul_nonneg (by omega) p1
        simp only [MgPassed.j0, Bool.not_true, Bool.false_eq_true, if_false]
        rw [w64 (x := y + n) (by omega) (by omega), w64 (x := y * q) (by omega) (by omega), w64 (x := (y + n) * p) (by omega) (by omega)]
    · rw [if_neg (by simpa using h2), if_neg (by simp [h2])]
      simp [MgPassed.j0]
  · rw [if_neg (by simpa using h1), if_neg (by simp [h1])]
    simp [MgPassed.j0]
end Go.Proofs.Ytemnlgefngjliaa.Meet
