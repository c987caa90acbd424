/- What the calendar's functions and the reference's, as far as the meeting's laws come to them, say of holidays, working days and deadlines. Conditions: as each theorem states. -/
import Derived.Test.YtemnlgefngjliaaWWords
import Derived.Test.YtemnlgefngjliaaWMore
import Derived.Test.YtemnlgefngjliaaPx3
import Derived.Test.YtemnlgefngjliaaPx13
import Derived.Test.YtemnlgefngjliaaPx17
import Derived.Test.YtemnlgefngjliaaPx24
import Derived.Test.YtemnlgefngjliaaPx25
namespace Go.Proofs.Ytemnlgefngjliaa.Cal
open Go.RowKit Go.Proofs.YtemnlgefngjliaaW.PrintWords Go.Proofs.Ytemnlgefngjliaa.Given Go.Proofs.Ytemnlgefngjliaa.Px
set_option linter.unusedVariables false
set_option linter.unusedSimpArgs false
theorem w64 {x : Int} (h : -9223372036854775808 ≤ x) (h2 : x ≤ 9223372036854775807) : wrap64 x = x := by unfold wrap64; omega
theorem u64w {x : Int} (h : 0 ≤ x) (h2 : x ≤ 9223372036854775807) : IntKind.u64.wrap x = x := by
  simp only [IntKind.wrap]
  first
    | omega
    | (simp [IntKind.bits, IntKind.signed]; omega)
def a8v (l : List Int) (n : Int) : Prop := (∀ j : Int, 0 ≤ j → j < n → 0 ≤ rd l j ∧ rd l j ≤ 36524) ∧ ∀ j : Int, 0 < j → j < n → rd l (j - 1) < rd l j
def b4r (l : List Int) : Prop := l.length ≤ 100 ∧ a8v l l.length
theorem b6h {l : List Int} {i : Int} (h : 0 ≤ i) (h1 : i < l.length) : rd l i ∈ l := by
  unfold rd
  rw [List.getD_eq_getElem?_getD, List.getElem?_eq_getElem (by omega), Option.getD_some]
  exact List.getElem_mem _
theorem a8w {l : List Int} {x : Int} (h : x ∈ l) : ∃ i : Int, 0 ≤ i ∧ i < l.length ∧ rd l i = x := by
  obtain ⟨n, hn, rfl⟩ := List.getElem_of_mem h
  refine ⟨n, by omega, by omega, ?_⟩
  unfold rd
  rw [List.getD_eq_getElem?_getD, Int.toNat_natCast, List.getElem?_eq_getElem hn, Option.getD_some]
theorem a8v.mono {l : List Int} {n : Int} (h : a8v l n) : ∀ (k : Nat) (i j : Int), 0 ≤ i → i + k = j → j < n → rd l i + k ≤ rd l j
  | 0, i, j, _, e, _ => by obtain rfl : i = j := by omega
                           omega
  | k + 1, i, j, h0, e, h1 => by
    have := a8v.mono h k i (j - 1) h0 (by omega) (by omega)
    have := h.2 j (by omega) h1
    omega
open Classical in
open Classical in
theorem b4r.range {l : List Int} (h : b4r l) {x : Int} (hx : x ∈ l) : 0 ≤ x ∧ x ≤ 36524 := by
  obtain ⟨i, h0, h1, rfl⟩ := a8w hx
  exact h.2.1 i h0 h1
open Classical in
open Classical in
open Classical in
open Classical in
open Classical in
theorem b1r (a b : Int) : cmp_Less_int.f a b = some (decide (a < b)) := by
  unfold cmp_Less_int.f cmp_isNaN_int.f
  simp
end Go.Proofs.Ytemnlgefngjliaa.Cal
