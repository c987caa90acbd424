/- Contracts of Go functions, printed. Conditions: as each theorem states. -/
import Derived.Test.YtfbgkcadnmcakaaPx0
namespace Go.Proofs.Ytfbgkcadnmcakaa.Px
open Go.Proofs.Ytfbgkcadnmcakaa.Given
open Go.RowKit Go.Proofs.YtfbgkcadnmcakaaW.PrintWords Go.Proofs.YtfbgkcadnmcakaaW.PrintLast Go.Proofs.YtfbgkcadnmcakaaW.PrintMore
attribute [local go_sem] a2w a2u a3d a3c a2q a2r a2x a2y
set_option linter.unusedVariables false
set_option linter.unusedSimpArgs false
mutual
def a0w.l0 : Nat → List (S26) → Int → Int → Int → Int → Int → Option (Int)
 | 0, _, _, _, _, _, _ => none
 | k + 1, x0, x1, x2, x3, x9, x10 => if x10 < (x0.length : Int) then (if 0 ≤ x10 then (if ((a0c x0 x10).f3) > x2 then (a0w.j1 k x0 x1 x2 x3 x9 x10 true) else (if ((a0c x0 x10).f3) = x2 then (a0w.j1 k x0 x1 x2 x3 x9 x10 (decide (x10 > x3))) else (a0w.j1 k x0 x1 x2 x3 x9 x10 false))) else (none)) else (some x9)
def a0w.j1 : Nat → List (S26) → Int → Int → Int → Int → Int → Bool → Option (Int)
 | 0, _, _, _, _, _, _, _ => none
 | k + 1, x0, x1, x2, x3, x9, x10, x11 => if 0 ≤ x10 then (if x10 < (x0.length : Int) then (if ((a0c x0 x10).f0) = x1 then (a0w.j2 k x0 x1 x2 x3 x9 x10 (!x11)) else (a0w.j2 k x0 x1 x2 x3 x9 x10 true)) else (none)) else (none)
def a0w.j2 : Nat → List (S26) → Int → Int → Int → Int → Int → Bool → Option (Int)
 | 0, _, _, _, _, _, _, _ => none
 | k + 1, x0, x1, x2, x3, x9, x10, x49 => if x49 = true then (a0w.l0 k x0 x1 x2 x3 x9 (wrap64 (x10 + 1))) else (if x9 < 0 then (a0w.l0 k x0 x1 x2 x3 x10 (wrap64 (x10 + 1))) else (if 0 ≤ x10 then (if x10 < (x0.length : Int) then (if 0 ≤ x9 then (if x9 < (x0.length : Int) then (if ((a0c x0 x10).f3) < ((a0c x0 x9).f3) then (a0w.l0 k x0 x1 x2 x3 x10 (wrap64 (x10 + 1))) else (a0w.l0 k x0 x1 x2 x3 x9 (wrap64 (x10 + 1)))) else (none)) else (none)) else (none)) else (none)))
end
def a0w.f (k : Nat) (l0 : List (S26)) (a1 a2 a3 : Int) : Option (Int) := a0w.l0 k l0 a1 a2 a3 (-1) 0
theorem a0w.a1k : ∀ k, (∀ y0 y1 y2 y3 y4 y5, LeO (a0w.l0 k y0 y1 y2 y3 y4 y5) (a0w.l0 (k + 1) y0 y1 y2 y3 y4 y5)) ∧ (∀ y0 y1 y2 y3 y4 y5 y6, LeO (a0w.j1 k y0 y1 y2 y3 y4 y5 y6) (a0w.j1 (k + 1) y0 y1 y2 y3 y4 y5 y6)) ∧ (∀ y0 y1 y2 y3 y4 y5 y6, LeO (a0w.j2 k y0 y1 y2 y3 y4 y5 y6) (a0w.j2 (k + 1) y0 y1 y2 y3 y4 y5 y6))
 | 0 => ⟨fun _ _ _ _ _ _ r h => by simp [a0w.l0] at h, fun _ _ _ _ _ _ _ r h => by simp [a0w.j1] at h, fun _ _ _ _ _ _ _ r h => by simp [a0w.j2] at h⟩
 | k + 1 => by
  obtain ⟨ih0, ih1, ih2⟩ := a0w.a1k k
  refine ⟨?_, ?_, ?_⟩
  ·intro y0 y1 y2 y3 y4 y5
   unfold a0w.l0
   with_reducible (repeat' first | apply ih0 | apply ih1 | apply ih2 | apply LeO.refl | apply LeO.none | apply LeO.ite | refine LeO.bind ?_ (fun _ => ?_))
  ·intro y0 y1 y2 y3 y4 y5 y6
   unfold a0w.j1
   with_reducible (repeat' first | apply ih0 | apply ih1 | apply ih2 | apply LeO.refl | apply LeO.none | apply LeO.ite | refine LeO.bind ?_ (fun _ => ?_))
  ·intro y0 y1 y2 y3 y4 y5 y6
   unfold a0w.j2
   with_reducible (repeat' first | apply ih0 | apply ih1 | apply ih2 | apply LeO.refl | apply LeO.none | apply LeO.ite | refine LeO.bind ?_ (fun _ => ?_))
theorem a0w.mono : ∀ a0 a1 a2 a3 k, LeO (a0w.f k a0 a1 a2 a3) (a0w.f (k + 1) a0 a1 a2 a3) := by
 intro a0 a1 a2 a3 k
 obtain ⟨ih0, ih1, ih2⟩ := a0w.a1k k
 unfold a0w.f
 with_reducible (repeat' first | apply ih0 | apply ih1 | apply ih2 | apply LeO.refl | apply LeO.none | apply LeO.ite | refine LeO.bind ?_ (fun _ => ?_))
end Go.Proofs.Ytfbgkcadnmcakaa.Px
