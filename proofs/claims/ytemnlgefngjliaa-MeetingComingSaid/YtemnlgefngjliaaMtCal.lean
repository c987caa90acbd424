/- Contracts of Go functions, printed. Conditions: as each theorem states. -/
import Derived.Test.YtemnlgefngjliaaPx0
import Derived.Test.YtemnlgefngjliaaPx17
import Derived.Test.YtemnlgefngjliaaPx24
import Derived.Test.YtemnlgefngjliaaWWords
import Derived.Test.YtemnlgefngjliaaWMore
import Derived.Test.YtemnlgefngjliaaPx3
import Derived.Test.YtemnlgefngjliaaPx13
namespace Go.Proofs.Ytemnlgefngjliaa.Px
open Go.Proofs.Ytemnlgefngjliaa.Given
open Go.RowKit Go.Proofs.YtemnlgefngjliaaW.PrintWords Go.Proofs.YtemnlgefngjliaaW.PrintLast Go.Proofs.YtemnlgefngjliaaW.PrintMore
attribute [local go_sem] a2l a2m a2w a2x a2e a2f a2n a2o
set_option linter.unusedVariables false
set_option linter.unusedSimpArgs false
mutual
def a1u.j0 : Nat → Int → Int → Int → List Int → Bool → Option (Int × Int)
 | 0, _, _, _, _, _ => none
 | k + 1, x0, x1, x2, x3, x32 => if x32 = true then (some (0, 1)) else (if x2 = 2 then (a1u.j1 k x3 (wrap64 ((wrap64 (x0 + x1)) + 3))) else (a1u.j1 k x3 (wrap64 (x0 + x1))))
def a1u.j1 : Nat → List Int → Int → Option (Int × Int)
 | 0, _, _ => none
 | k + 1, x3, x10 => a1u.l0 k x3 x10
def a1u.j3 : Nat → Int → Option (Int × Int)
 | 0, _ => none
 | k + 1, x10 => if x10 > 36524 then (some (0, 3)) else (some (x10, 0))
def a1u.l0 : Nat → List Int → Int → Option (Int × Int)
 | 0, _, _ => none
 | k + 1, x3, x10 => if x10 ≤ 36524 then ((a3y.f k x10 x3).bind fun t420 => (if t420 = true then (a1u.j3 k x10) else (a1u.l0 k x3 (wrap64 (x10 + 1))))) else (a1u.j3 k x10)
end
def a1u.f (k : Nat) (a0 a1 a2 : Int) (l3 : List Int) : Option (Int × Int) := (RcIn.f a0).bind fun t417 => (if t417 = true then (if a1 < 0 then (a1u.j0 k a0 a1 a2 l3 true) else (if a1 > 1000 then (a1u.j0 k a0 a1 a2 l3 true) else (if a2 = 1 then ((a1w.f k l3).bind fun t418 => (a1u.j0 k a0 a1 a2 l3 (!t418))) else (if a2 = 2 then ((a1w.f k l3).bind fun t419 => (a1u.j0 k a0 a1 a2 l3 (!t419))) else (a1u.j0 k a0 a1 a2 l3 true))))) else (some (0, 3)))
theorem a1u.a0x : ∀ k, (∀ y0 y1 y2 y3 y4, LeO (a1u.j0 k y0 y1 y2 y3 y4) (a1u.j0 (k + 1) y0 y1 y2 y3 y4)) ∧ (∀ y0 y1, LeO (a1u.j1 k y0 y1) (a1u.j1 (k + 1) y0 y1)) ∧ (∀ y0, LeO (a1u.j3 k y0) (a1u.j3 (k + 1) y0)) ∧ (∀ y0 y1, LeO (a1u.l0 k y0 y1) (a1u.l0 (k + 1) y0 y1))
 | 0 => ⟨fun _ _ _ _ _ r h => by simp [a1u.j0] at h, fun _ _ r h => by simp [a1u.j1] at h, fun _ r h => by simp [a1u.j3] at h, fun _ _ r h => by simp [a1u.l0] at h⟩
 | k + 1 => by
  obtain ⟨ih0, ih1, ih2, ih3⟩ := a1u.a0x k
  refine ⟨?_, ?_, ?_, ?_⟩
  ·intro y0 y1 y2 y3 y4
   unfold a1u.j0
   with_reducible (repeat' first | apply ih0 | apply ih1 | apply ih2 | apply ih3 | apply a1w.mono | apply a3y.mono | apply LeO.refl | apply LeO.none | apply LeO.ite | refine LeO.bind ?_ (fun _ => ?_))
  ·intro y0 y1
   unfold a1u.j1
   with_reducible (repeat' first | apply ih0 | apply ih1 | apply ih2 | apply ih3 | apply a1w.mono | apply a3y.mono | apply LeO.refl | apply LeO.none | apply LeO.ite | refine LeO.bind ?_ (fun _ => ?_))
  ·intro y0
   unfold a1u.j3
   with_reducible (repeat' first | apply ih0 | apply ih1 | apply ih2 | apply ih3 | apply a1w.mono | apply a3y.mono | apply LeO.refl | apply LeO.none | apply LeO.ite | refine LeO.bind ?_ (fun _ => ?_))
  ·intro y0 y1
   unfold a1u.l0
   with_reducible (repeat' first | apply ih0 | apply ih1 | apply ih2 | apply ih3 | apply a1w.mono | apply a3y.mono | apply LeO.refl | apply LeO.none | apply LeO.ite | refine LeO.bind ?_ (fun _ => ?_))
theorem a1u.mono : ∀ a0 a1 a2 a3 k, LeO (a1u.f k a0 a1 a2 a3) (a1u.f (k + 1) a0 a1 a2 a3) := by
 intro a0 a1 a2 a3 k
 obtain ⟨ih0, ih1, ih2, ih3⟩ := a1u.a0x k
 unfold a1u.f
 with_reducible (repeat' first | apply ih0 | apply ih1 | apply ih2 | apply ih3 | apply a1w.mono | apply a3y.mono | apply LeO.refl | apply LeO.none | apply LeO.ite | refine LeO.bind ?_ (fun _ => ?_))
def a5w.f (k : Nat) (a0_0 a0_1 a0_2 a0_3 : Int) (a0_4 : Bool) (a1_0 a1_1 a1_2 : Int) (l1_3 : List ByteArray) (l1_4 : List (S43)) (l1_5 l2 : List Int) : Option (Bool) := (a1u.f k a1_0 a0_0 a1_1 l2).bind fun bt423 => (if bt423.2 = 0 then (some (decide (a1_2 < bt423.1))) else (some true))
theorem a5w.mono : ∀ a0 a1 a2 a3 a4 a5 a6 a7 a8 a9 a10 a11 k, LeO (a5w.f k a0 a1 a2 a3 a4 a5 a6 a7 a8 a9 a10 a11) (a5w.f (k + 1) a0 a1 a2 a3 a4 a5 a6 a7 a8 a9 a10 a11) := by
 intro a0 a1 a2 a3 a4 a5 a6 a7 a8 a9 a10 a11 k
 unfold a5w.f
 with_reducible (repeat' first | apply a1u.mono | apply LeO.refl | apply LeO.none | apply LeO.ite | refine LeO.bind ?_ (fun _ => ?_))
end Go.Proofs.Ytemnlgefngjliaa.Px
/- What the calendar's functions and the reference's, as far as the meeting's laws come to them, say of holidays, working days and deadlines. Conditions: as each theorem states. -/
namespace Go.Proofs.Ytemnlgefngjliaa.Cal
open Go.RowKit Go.Proofs.YtemnlgefngjliaaW.PrintWords Go.Proofs.Ytemnlgefngjliaa.Given Go.Proofs.Ytemnlgefngjliaa.Px
set_option linter.unusedVariables false
set_option linter.unusedSimpArgs false
theorem w64 {x : Int} (h : -9223372036854775808 ≤ x) (h2 : x ≤ 9223372036854775807) : wrap64 x = x := by unfold wrap64; omega
theorem u64w {x : Int} (h : 0 ≤ x) (h2 : x ≤ 9223372036854775807) : IntKind.u64.wrap x = x := by
  simp only [IntKind.wrap]
  first
    | omega
    | (simp [IntKind.bits, IntKind.signed]; omega)
theorem evUp {α : Type} {g : Nat → Option α} {r : α} (K : Nat) (h : ∀ k, K ≤ k → g (k + 1) = some r) : Ev g r :=
  ⟨K + 1, fun k hk => by
    obtain ⟨j, rfl⟩ : ∃ j, k = j + 1 := ⟨k - 1, by omega⟩
    exact h j (by omega)⟩
def a9k (l : List Int) (n : Int) : Prop := (∀ j : Int, 0 ≤ j → j < n → 0 ≤ rd l j ∧ rd l j ≤ 36524) ∧ ∀ j : Int, 0 < j → j < n → rd l (j - 1) < rd l j
def b5k (l : List Int) : Prop := l.length ≤ 100 ∧ a9k l l.length
theorem b1l {l : List Int} {i : Int} (h : 0 ≤ i) (h1 : i < l.length) : rd l i ∈ l := by
  unfold rd
  rw [List.getD_eq_getElem?_getD, List.getElem?_eq_getElem (by omega), Option.getD_some]
  exact List.getElem_mem _
theorem a9l {l : List Int} {x : Int} (h : x ∈ l) : ∃ i : Int, 0 ≤ i ∧ i < l.length ∧ rd l i = x := by
  obtain ⟨n, hn, rfl⟩ := List.getElem_of_mem h
  refine ⟨n, by omega, by omega, ?_⟩
  unfold rd
  rw [List.getD_eq_getElem?_getD, Int.toNat_natCast, List.getElem?_eq_getElem hn, Option.getD_some]
theorem a9k.mono {l : List Int} {n : Int} (h : a9k l n) : ∀ (k : Nat) (i j : Int), 0 ≤ i → i + k = j → j < n → rd l i + k ≤ rd l j
  | 0, i, j, _, e, _ => by obtain rfl : i = j := by omega
                           omega
  | k + 1, i, j, h0, e, h1 => by
    have := a9k.mono h k i (j - 1) h0 (by omega) (by omega)
    have := h.2 j (by omega) h1
    omega
open Classical in
open Classical in
theorem b5k.range {l : List Int} (h : b5k l) {x : Int} (hx : x ∈ l) : 0 ≤ x ∧ x ≤ 36524 := by
  obtain ⟨i, h0, h1, rfl⟩ := a9l hx
  exact h.2.1 i h0 h1
open Classical in
open Classical in
open Classical in
open Classical in
open Classical in
theorem b2k (a b : Int) : cmp_Less_int.f a b = some (decide (a < b)) := by
  unfold cmp_Less_int.f cmp_isNaN_int.f
  simp
end Go.Proofs.Ytemnlgefngjliaa.Cal
