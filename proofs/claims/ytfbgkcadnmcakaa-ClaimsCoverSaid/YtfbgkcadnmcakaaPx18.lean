/- Contracts of Go functions, printed. Conditions: as each theorem states. -/
import Derived.Test.YtfbgkcadnmcakaaPx0
namespace Go.Proofs.Ytfbgkcadnmcakaa.Px
open Go.Proofs.Ytfbgkcadnmcakaa.Given
open Go.RowKit Go.Proofs.YtfbgkcadnmcakaaW.PrintWords Go.Proofs.YtfbgkcadnmcakaaW.PrintLast Go.Proofs.YtfbgkcadnmcakaaW.PrintMore
attribute [local go_sem] a2w a2u a3d a3c a2q a2r a2x a2y
set_option linter.unusedVariables false
set_option linter.unusedSimpArgs false
def a2s.f (a0 a1 a2 : Int) : Option (Bool) := if a0 ≥ a1 then (some (decide (a0 ≤ a2))) else (some false)
def a6r.f (a0_0 a0_1 : Int) : Option (Bool) := if a0_0 ≥ 0 then (if a0_0 < a0_1 then (some (decide (a0_1 ≤ 36525))) else (some false)) else (some false)
def a1p.j0 : Nat → Bool → Int → Int → Int → Int → Int → Int → Option (Bool)
 | 0, _, _, _, _, _, _, _ => none
 | k + 1, x24, v0, v1, v2, v3, v4, v5 => if x24 = true then (some false) else ((a6r.f v4 v5).bind fun t333 => (some t333))
def a1p.f (k : Nat) (a0_0 a0_1 a0_2 a0_3 a0_4 a0_5 : Int) : Option (Bool) := (a2s.f a0_0 1 1000000).bind fun t329 => (if t329 = true then ((a2s.f a0_1 1 1000000).bind fun t330 => (if t330 = true then ((a2s.f a0_2 1 1000000).bind fun t331 => (if t331 = true then ((a2s.f a0_3 1 1000000000).bind fun t332 => (a1p.j0 k (!t332) a0_0 a0_1 a0_2 a0_3 a0_4 a0_5)) else (a1p.j0 k true a0_0 a0_1 a0_2 a0_3 a0_4 a0_5))) else (a1p.j0 k true a0_0 a0_1 a0_2 a0_3 a0_4 a0_5))) else (a1p.j0 k true a0_0 a0_1 a0_2 a0_3 a0_4 a0_5))
theorem a1p.a1k : ∀ k, (∀ y0 y1 y2 y3 y4 y5 y6, LeO (a1p.j0 k y0 y1 y2 y3 y4 y5 y6) (a1p.j0 (k + 1) y0 y1 y2 y3 y4 y5 y6))
 | 0 => fun _ _ _ _ _ _ _ r h => by simp [a1p.j0] at h
 | k + 1 => by
  have ih0 := a1p.a1k k
  ·intro y0 y1 y2 y3 y4 y5 y6
   unfold a1p.j0
   with_reducible (repeat' first | apply ih0 | apply LeO.refl | apply LeO.none | apply LeO.ite | refine LeO.bind ?_ (fun _ => ?_))
theorem a1p.mono : ∀ a0 a1 a2 a3 a4 a5 k, LeO (a1p.f k a0 a1 a2 a3 a4 a5) (a1p.f (k + 1) a0 a1 a2 a3 a4 a5) := by
 intro a0 a1 a2 a3 a4 a5 k
 have ih0 := a1p.a1k k
 unfold a1p.f
 with_reducible (repeat' first | apply ih0 | apply LeO.refl | apply LeO.none | apply LeO.ite | refine LeO.bind ?_ (fun _ => ?_))
mutual
def a0y.l0 : Nat → List (S26) → Int → Option (Bool)
 | 0, _, _ => none
 | k + 1, x0, x3 => if x3 < (x0.length : Int) then (if 0 ≤ x3 then ((a2s.f ((a0c x0 x3).f0) 1 1000000).bind fun t336 => (if t336 = true then ((a2s.f ((a0c x0 x3).f1) 1 1000000).bind fun t337 => (if t337 = true then ((a2s.f ((a0c x0 x3).f2) 1 1000000).bind fun t338 => (if t338 = true then ((a2s.f ((a0c x0 x3).f3) 0 36524).bind fun t339 => (a0y.j1 k x0 x3 (!t339))) else (a0y.j1 k x0 x3 true))) else (a0y.j1 k x0 x3 true))) else (a0y.j1 k x0 x3 true))) else (none)) else (some (decide ((x0.length : Int) ≤ 1000)))
def a0y.j1 : Nat → List (S26) → Int → Bool → Option (Bool)
 | 0, _, _, _ => none
 | k + 1, x0, x3, x36 => if x36 = true then (some false) else (a0y.l0 k x0 (wrap64 (x3 + 1)))
end
def a0y.f (k : Nat) (l0 : List (S26)) : Option (Bool) := a0y.l0 k l0 0
theorem a0y.a1k : ∀ k, (∀ y0 y1, LeO (a0y.l0 k y0 y1) (a0y.l0 (k + 1) y0 y1)) ∧ (∀ y0 y1 y2, LeO (a0y.j1 k y0 y1 y2) (a0y.j1 (k + 1) y0 y1 y2))
 | 0 => ⟨fun _ _ r h => by simp [a0y.l0] at h, fun _ _ _ r h => by simp [a0y.j1] at h⟩
 | k + 1 => by
  obtain ⟨ih0, ih1⟩ := a0y.a1k k
  refine ⟨?_, ?_⟩
  ·intro y0 y1
   unfold a0y.l0
   with_reducible (repeat' first | apply ih0 | apply ih1 | apply LeO.refl | apply LeO.none | apply LeO.ite | refine LeO.bind ?_ (fun _ => ?_))
  ·intro y0 y1 y2
   unfold a0y.j1
   with_reducible (repeat' first | apply ih0 | apply ih1 | apply LeO.refl | apply LeO.none | apply LeO.ite | refine LeO.bind ?_ (fun _ => ?_))
theorem a0y.mono : ∀ a0 k, LeO (a0y.f k a0) (a0y.f (k + 1) a0) := by
 intro a0 k
 obtain ⟨ih0, ih1⟩ := a0y.a1k k
 unfold a0y.f
 with_reducible (repeat' first | apply ih0 | apply ih1 | apply LeO.refl | apply LeO.none | apply LeO.ite | refine LeO.bind ?_ (fun _ => ?_))
end Go.Proofs.Ytfbgkcadnmcakaa.Px
