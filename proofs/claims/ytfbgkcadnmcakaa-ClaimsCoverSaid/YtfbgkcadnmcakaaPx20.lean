/- Contracts of Go functions, printed. Conditions: as each theorem states. -/
import Derived.Test.YtfbgkcadnmcakaaPx0
import Derived.Test.YtfbgkcadnmcakaaPx18
import Derived.Test.YtfbgkcadnmcakaaPx19
namespace Go.Proofs.Ytfbgkcadnmcakaa.Px
open Go.Proofs.Ytfbgkcadnmcakaa.Given
open Go.RowKit Go.Proofs.YtfbgkcadnmcakaaW.PrintWords Go.Proofs.YtfbgkcadnmcakaaW.PrintLast Go.Proofs.YtfbgkcadnmcakaaW.PrintMore
attribute [local go_sem] a2w a2u a3d a3c a2q a2r a2x a2y
set_option linter.unusedVariables false
set_option linter.unusedSimpArgs false
mutual
def a1d.l0 : Nat → List (S26) → Int → Int → Int → Int → Int → Int → Int → Int → Int → Option (Int)
 | 0, _, _, _, _, _, _, _, _, _, _ => none
 | k + 1, x1, x2, x7, x8, v0, v1, v2, v3, v4, v5 => if x8 ≥ 0 then (if 0 ≤ x8 then (if x8 < (x1.length : Int) then (a1d.j1 k x1 x2 x7 x8 (decide (((a0c x1 x8).f3) ≤ x2)) v0 v1 v2 v3 v4 v5) else (none)) else (none)) else (a1d.j1 k x1 x2 x7 x8 false v0 v1 v2 v3 v4 v5)
def a1d.j1 : Nat → List (S26) → Int → Int → Int → Bool → Int → Int → Int → Int → Int → Int → Option (Int)
 | 0, _, _, _, _, _, _, _, _, _, _, _ => none
 | k + 1, x1, x2, x7, x8, x25, v0, v1, v2, v3, v4, v5 => if x25 = true then (if 0 ≤ x8 then (if x8 < (x1.length : Int) then (if ((a0c x1 x8).f1) = x7 then ((a0w.f k x1 v0 ((a0c x1 x8).f3) x8).bind fun t351 => (a1d.l0 k x1 x2 ((a0c x1 x8).f2) t351 v0 v1 v2 v3 v4 v5)) else ((a0w.f k x1 v0 ((a0c x1 x8).f3) x8).bind fun t353 => (a1d.l0 k x1 x2 x7 t353 v0 v1 v2 v3 v4 v5))) else (none)) else (none)) else (some x7)
end
def a1d.f (k : Nat) (a0_0 a0_1 a0_2 a0_3 a0_4 a0_5 : Int) (l1 : List (S26)) (a2 : Int) : Option (Int) := (a0w.f k l1 a0_0 (-1) (-1)).bind fun t346 => (a1d.l0 k l1 a2 a0_2 t346 a0_0 a0_1 a0_2 a0_3 a0_4 a0_5)
theorem a1d.a1k : ∀ k, (∀ y0 y1 y2 y3 y4 y5 y6 y7 y8 y9, LeO (a1d.l0 k y0 y1 y2 y3 y4 y5 y6 y7 y8 y9) (a1d.l0 (k + 1) y0 y1 y2 y3 y4 y5 y6 y7 y8 y9)) ∧ (∀ y0 y1 y2 y3 y4 y5 y6 y7 y8 y9 y10, LeO (a1d.j1 k y0 y1 y2 y3 y4 y5 y6 y7 y8 y9 y10) (a1d.j1 (k + 1) y0 y1 y2 y3 y4 y5 y6 y7 y8 y9 y10))
 | 0 => ⟨fun _ _ _ _ _ _ _ _ _ _ r h => by simp [a1d.l0] at h, fun _ _ _ _ _ _ _ _ _ _ _ r h => by simp [a1d.j1] at h⟩
 | k + 1 => by
  obtain ⟨ih0, ih1⟩ := a1d.a1k k
  refine ⟨?_, ?_⟩
  ·intro y0 y1 y2 y3 y4 y5 y6 y7 y8 y9
   unfold a1d.l0
   with_reducible (repeat' first | apply ih0 | apply ih1 | apply a0w.mono | apply LeO.refl | apply LeO.none | apply LeO.ite | refine LeO.bind ?_ (fun _ => ?_))
  ·intro y0 y1 y2 y3 y4 y5 y6 y7 y8 y9 y10
   unfold a1d.j1
   with_reducible (repeat' first | apply ih0 | apply ih1 | apply a0w.mono | apply LeO.refl | apply LeO.none | apply LeO.ite | refine LeO.bind ?_ (fun _ => ?_))
theorem a1d.mono : ∀ a0 a1 a2 a3 a4 a5 a6 a7 k, LeO (a1d.f k a0 a1 a2 a3 a4 a5 a6 a7) (a1d.f (k + 1) a0 a1 a2 a3 a4 a5 a6 a7) := by
 intro a0 a1 a2 a3 a4 a5 a6 a7 k
 obtain ⟨ih0, ih1⟩ := a1d.a1k k
 unfold a1d.f
 with_reducible (repeat' first | apply ih0 | apply ih1 | apply a0w.mono | apply LeO.refl | apply LeO.none | apply LeO.ite | refine LeO.bind ?_ (fun _ => ?_))
def a2b.j0 : Nat → List (S26) → Int → Bool → Int → Int → Int → Int → Int → Int → Option (Int × Int)
 | 0, _, _, _, _, _, _, _, _, _ => none
 | k + 1, x1, x2, x24, v6, v7, v8, v9, v10, v11 => if x24 = true then (some (0, 1)) else ((a1d.f k v6 v7 v8 v9 v10 v11 x1 x2).bind fun t358 => (some (t358, 0)))
def a2b.f (k : Nat) (a0_0 a0_1 a0_2 a0_3 a0_4 a0_5 : Int) (l1 : List (S26)) (a2 : Int) : Option (Int × Int) := (a1p.f k a0_0 a0_1 a0_2 a0_3 a0_4 a0_5).bind fun t355 => ((a0y.f k l1).bind fun t356 => (if t355 = true then (if t356 = true then ((a2s.f a2 0 36524).bind fun t357 => (a2b.j0 k l1 a2 (!t357) a0_0 a0_1 a0_2 a0_3 a0_4 a0_5)) else (a2b.j0 k l1 a2 true a0_0 a0_1 a0_2 a0_3 a0_4 a0_5)) else (a2b.j0 k l1 a2 true a0_0 a0_1 a0_2 a0_3 a0_4 a0_5)))
theorem a2b.a1k : ∀ k, (∀ y0 y1 y2 y3 y4 y5 y6 y7 y8, LeO (a2b.j0 k y0 y1 y2 y3 y4 y5 y6 y7 y8) (a2b.j0 (k + 1) y0 y1 y2 y3 y4 y5 y6 y7 y8))
 | 0 => fun _ _ _ _ _ _ _ _ _ r h => by simp [a2b.j0] at h
 | k + 1 => by
  have ih0 := a2b.a1k k
  ·intro y0 y1 y2 y3 y4 y5 y6 y7 y8
   unfold a2b.j0
   with_reducible (repeat' first | apply ih0 | apply a0y.mono | apply a1p.mono | apply a1d.mono | apply LeO.refl | apply LeO.none | apply LeO.ite | refine LeO.bind ?_ (fun _ => ?_))
theorem a2b.mono : ∀ a0 a1 a2 a3 a4 a5 a6 a7 k, LeO (a2b.f k a0 a1 a2 a3 a4 a5 a6 a7) (a2b.f (k + 1) a0 a1 a2 a3 a4 a5 a6 a7) := by
 intro a0 a1 a2 a3 a4 a5 a6 a7 k
 have ih0 := a2b.a1k k
 unfold a2b.f
 with_reducible (repeat' first | apply ih0 | apply a0y.mono | apply a1p.mono | apply a1d.mono | apply LeO.refl | apply LeO.none | apply LeO.ite | refine LeO.bind ?_ (fun _ => ?_))
def a1m.l0 : Nat → List (S30) → Int → Int → Option (Int)
 | 0, _, _, _ => none
 | k + 1, x0, x1, x5 => if x5 < (x0.length : Int) then (if 0 ≤ x5 then (if ((a0a x0 x5).f0) = x1 then (some x5) else (a1m.l0 k x0 x1 (wrap64 (x5 + 1)))) else (none)) else (some (-1))
def a1m.f (k : Nat) (l0 : List (S30)) (a1 : Int) : Option (Int) := a1m.l0 k l0 a1 0
theorem a1m.a1k : ∀ k, (∀ y0 y1 y2, LeO (a1m.l0 k y0 y1 y2) (a1m.l0 (k + 1) y0 y1 y2))
 | 0 => fun _ _ _ r h => by simp [a1m.l0] at h
 | k + 1 => by
  have ih0 := a1m.a1k k
  ·intro y0 y1 y2
   unfold a1m.l0
   with_reducible (repeat' first | apply ih0 | apply LeO.refl | apply LeO.none | apply LeO.ite | refine LeO.bind ?_ (fun _ => ?_))
theorem a1m.mono : ∀ a0 a1 k, LeO (a1m.f k a0 a1) (a1m.f (k + 1) a0 a1) := by
 intro a0 a1 k
 have ih0 := a1m.a1k k
 unfold a1m.f
 with_reducible (repeat' first | apply ih0 | apply LeO.refl | apply LeO.none | apply LeO.ite | refine LeO.bind ?_ (fun _ => ?_))
end Go.Proofs.Ytfbgkcadnmcakaa.Px
