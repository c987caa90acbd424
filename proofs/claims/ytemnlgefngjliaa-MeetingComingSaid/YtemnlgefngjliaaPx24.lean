/- Contracts of Go functions, printed. Conditions: as each theorem states. -/
import Derived.Test.YtemnlgefngjliaaPx0
import Derived.Test.YtemnlgefngjliaaPx17
namespace Go.Proofs.Ytemnlgefngjliaa.Px
open Go.Proofs.Ytemnlgefngjliaa.Given
open Go.RowKit Go.Proofs.YtemnlgefngjliaaW.PrintWords Go.Proofs.YtemnlgefngjliaaW.PrintLast Go.Proofs.YtemnlgefngjliaaW.PrintMore
attribute [local go_sem] a2l a2m a2w a2x a2e a2f a2n a2o
set_option linter.unusedVariables false
set_option linter.unusedSimpArgs false
mutual
def a1w.l0 : Nat → List Int → Int → Option (Bool)
 | 0, _, _ => none
 | k + 1, x0, x3 => if x3 < (x0.length : Int) then (if 0 ≤ x3 then ((RcIn.f (rd x0 x3)).bind fun t413 => (if t413 = true then (if x3 > 0 then (if 0 ≤ (wrap64 (x3 - 1)) then (if (wrap64 (x3 - 1)) < (x0.length : Int) then (a1w.j1 k x0 x3 (decide ((rd x0 x3) ≤ (rd x0 (wrap64 (x3 - 1)))))) else (none)) else (none)) else (a1w.j1 k x0 x3 false)) else (a1w.j1 k x0 x3 true))) else (none)) else (some true)
def a1w.j1 : Nat → List Int → Int → Bool → Option (Bool)
 | 0, _, _, _ => none
 | k + 1, x0, x3, x34 => if x34 = true then (some false) else (a1w.l0 k x0 (wrap64 (x3 + 1)))
end
def a1w.f (k : Nat) (l0 : List Int) : Option (Bool) := if (l0.length : Int) > 100 then (some false) else (a1w.l0 k l0 0)
theorem a1w.a0x : ∀ k, (∀ y0 y1, LeO (a1w.l0 k y0 y1) (a1w.l0 (k + 1) y0 y1)) ∧ (∀ y0 y1 y2, LeO (a1w.j1 k y0 y1 y2) (a1w.j1 (k + 1) y0 y1 y2))
 | 0 => ⟨fun _ _ r h => by simp [a1w.l0] at h, fun _ _ _ r h => by simp [a1w.j1] at h⟩
 | k + 1 => by
  obtain ⟨ih0, ih1⟩ := a1w.a0x k
  refine ⟨?_, ?_⟩
  ·intro y0 y1
   unfold a1w.l0
   with_reducible (repeat' first | apply ih0 | apply ih1 | apply LeO.refl | apply LeO.none | apply LeO.ite | refine LeO.bind ?_ (fun _ => ?_))
  ·intro y0 y1 y2
   unfold a1w.j1
   with_reducible (repeat' first | apply ih0 | apply ih1 | apply LeO.refl | apply LeO.none | apply LeO.ite | refine LeO.bind ?_ (fun _ => ?_))
theorem a1w.mono : ∀ a0 k, LeO (a1w.f k a0) (a1w.f (k + 1) a0) := by
 intro a0 k
 obtain ⟨ih0, ih1⟩ := a1w.a0x k
 unfold a1w.f
 with_reducible (repeat' first | apply ih0 | apply ih1 | apply LeO.refl | apply LeO.none | apply LeO.ite | refine LeO.bind ?_ (fun _ => ?_))
def a3y.l0 : Nat → Int → List Int → Int → Option (Bool)
 | 0, _, _, _ => none
 | k + 1, x0, x1, x5 => if x5 < (x1.length : Int) then (if 0 ≤ x5 then (if (rd x1 x5) = x0 then (some false) else (a3y.l0 k x0 x1 (wrap64 (x5 + 1)))) else (none)) else (some (decide ((Int.tmod (wrap64 (x0 + 5)) 7) < 5)))
def a3y.f (k : Nat) (a0 : Int) (l1 : List Int) : Option (Bool) := a3y.l0 k a0 l1 0
theorem a3y.a0x : ∀ k, (∀ y0 y1 y2, LeO (a3y.l0 k y0 y1 y2) (a3y.l0 (k + 1) y0 y1 y2))
 | 0 => fun _ _ _ r h => by simp [a3y.l0] at h
 | k + 1 => by
  have ih0 := a3y.a0x k
  ·intro y0 y1 y2
   unfold a3y.l0
   with_reducible (repeat' first | apply ih0 | apply LeO.refl | apply LeO.none | apply LeO.ite | refine LeO.bind ?_ (fun _ => ?_))
theorem a3y.mono : ∀ a0 a1 k, LeO (a3y.f k a0 a1) (a3y.f (k + 1) a0 a1) := by
 intro a0 a1 k
 have ih0 := a3y.a0x k
 unfold a3y.f
 with_reducible (repeat' first | apply ih0 | apply LeO.refl | apply LeO.none | apply LeO.ite | refine LeO.bind ?_ (fun _ => ?_))
end Go.Proofs.Ytemnlgefngjliaa.Px
