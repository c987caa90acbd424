/- Contracts of Go functions, printed. Conditions: as each theorem states. -/
import Derived.Test.YtemnlgefngjliaaPx0
import Derived.Test.YtemnlgefngjliaaPx17
import Derived.Test.YtemnlgefngjliaaPx21
import Derived.Test.YtemnlgefngjliaaPx25
import Derived.Test.YtemnlgefngjliaaPx27
namespace Go.Proofs.Ytemnlgefngjliaa.Px
open Go.Proofs.Ytemnlgefngjliaa.Given
open Go.RowKit Go.Proofs.YtemnlgefngjliaaW.PrintWords Go.Proofs.YtemnlgefngjliaaW.PrintLast Go.Proofs.YtemnlgefngjliaaW.PrintMore
attribute [local go_sem] a2f a2g a2r a2s a1x a1y a2h a2i
set_option linter.unusedVariables false
set_option linter.unusedSimpArgs false
mutual
def a1z.j0 : Nat → ByteArray → List Int → Bool → Int → Int → Int → Int → Bool → Int → Int → Int → List ByteArray → List (S43) → List Int → Option (List Int × Int)
 | 0, _, _, _, _, _, _, _, _, _, _, _, _, _, _ => none
 | k + 1, x2, x3, x30, v0, v1, v2, v3, v4, v5, v6, v7, v8, v9, v10 => if x30 = true then (some (([] : List Int), 1)) else ((a5v.f k v0 v1 v2 v3 v4 v5 v6 v7 v8 v9 v10 x3).bind fun t441 => (if t441 = true then (if ([] : List Int).length < 17592186044416 then (a1z.j1 k x2 (([] : List Int) ++ [1]) v0 v1 v2 v3 v4 v5 v6 v7 v8 v9 v10) else (none)) else (a1z.j1 k x2 ([] : List Int) v0 v1 v2 v3 v4 v5 v6 v7 v8 v9 v10)))
def a1z.j1 : Nat → ByteArray → List Int → Int → Int → Int → Int → Bool → Int → Int → Int → List ByteArray → List (S43) → List Int → Option (List Int × Int)
 | 0, _, _, _, _, _, _, _, _, _, _, _, _, _ => none
 | k + 1, x2, x10, v0, v1, v2, v3, v4, v5, v6, v7, v8, v9, v10 => (a3f.f k v8 x2).bind fun t445 => (if t445 = true then (a1z.j2 k x10 v0 v1 v2 v3 v4 v5 v6 v7 v8 v9 v10) else (if x10.length < 17592186044416 then (a1z.j2 k (x10 ++ [2]) v0 v1 v2 v3 v4 v5 v6 v7 v8 v9 v10) else (none)))
def a1z.j2 : Nat → List Int → Int → Int → Int → Int → Bool → Int → Int → Int → List ByteArray → List (S43) → List Int → Option (List Int × Int)
 | 0, _, _, _, _, _, _, _, _, _, _, _, _ => none
 | k + 1, x10, v0, v1, v2, v3, v4, v5, v6, v7, v8, v9, v10 => (a3l.f k v0 v1 v2 v3 v4 v5 v6 v7 v8 v9 v10).bind fun t449 => (if t449 = true then (a1z.j3 k x10 v0 v1 v2 v3 v4 v5 v6 v7 v8 v9 v10) else (if x10.length < 17592186044416 then (a1z.j3 k (x10 ++ [3]) v0 v1 v2 v3 v4 v5 v6 v7 v8 v9 v10) else (none)))
def a1z.j3 : Nat → List Int → Int → Int → Int → Int → Bool → Int → Int → Int → List ByteArray → List (S43) → List Int → Option (List Int × Int)
 | 0, _, _, _, _, _, _, _, _, _, _, _, _ => none
 | k + 1, x10, v0, v1, v2, v3, v4, v5, v6, v7, v8, v9, v10 => a1z.l0 k x10 0 0 v0 v1 v2 v3 v4 v5 v6 v7 v8 v9 v10
def a1z.l0 : Nat → List Int → Int → Int → Int → Int → Int → Int → Bool → Int → Int → Int → List ByteArray → List (S43) → List Int → Option (List Int × Int)
 | 0, _, _, _, _, _, _, _, _, _, _, _, _, _, _ => none
 | k + 1, x10, x11, x12, v0, v1, v2, v3, v4, v5, v6, v7, v8, v9, v10 => if x12 < (v10.length : Int) then (if 0 ≤ x12 then ((a3g.f k v5 v6 v7 v8 v9 v10 (rd v10 x12)).bind fun t454 => (a1z.l0 k x10 (mx x11 t454) (wrap64 (x12 + 1)) v0 v1 v2 v3 v4 v5 v6 v7 v8 v9 v10)) else (none)) else (if x11 > v3 then (if x10.length < 17592186044416 then (some ((x10 ++ [4]), 0)) else (none)) else (some (x10, 0)))
end
def a1z.f (k : Nat) (a0_0 a0_1 a0_2 a0_3 : Int) (a0_4 : Bool) (a1_0 a1_1 a1_2 : Int) (l1_3 : List ByteArray) (l1_4 : List (S43)) (l1_5 : List Int) (a2 : ByteArray) (l3 : List Int) : Option (List Int × Int) := (a3e.f k a0_0 a0_1 a0_2 a0_3 a0_4).bind fun t437 => (if t437 = true then ((a0g.f k a1_0 a1_1 a1_2 l1_3 l1_4 l1_5).bind fun t438 => (if t438 = true then ((a1d.f k a2).bind fun t439 => (if t439 = true then ((a1s.f k l3).bind fun t440 => (a1z.j0 k a2 l3 (!t440) a0_0 a0_1 a0_2 a0_3 a0_4 a1_0 a1_1 a1_2 l1_3 l1_4 l1_5)) else (a1z.j0 k a2 l3 true a0_0 a0_1 a0_2 a0_3 a0_4 a1_0 a1_1 a1_2 l1_3 l1_4 l1_5))) else (a1z.j0 k a2 l3 true a0_0 a0_1 a0_2 a0_3 a0_4 a1_0 a1_1 a1_2 l1_3 l1_4 l1_5))) else (a1z.j0 k a2 l3 true a0_0 a0_1 a0_2 a0_3 a0_4 a1_0 a1_1 a1_2 l1_3 l1_4 l1_5))
theorem a1z.a0t : ∀ k, (∀ y0 y1 y2 y3 y4 y5 y6 y7 y8 y9 y10 y11 y12 y13, LeO (a1z.j0 k y0 y1 y2 y3 y4 y5 y6 y7 y8 y9 y10 y11 y12 y13) (a1z.j0 (k + 1) y0 y1 y2 y3 y4 y5 y6 y7 y8 y9 y10 y11 y12 y13)) ∧ (∀ y0 y1 y2 y3 y4 y5 y6 y7 y8 y9 y10 y11 y12, LeO (a1z.j1 k y0 y1 y2 y3 y4 y5 y6 y7 y8 y9 y10 y11 y12) (a1z.j1 (k + 1) y0 y1 y2 y3 y4 y5 y6 y7 y8 y9 y10 y11 y12)) ∧ (∀ y0 y1 y2 y3 y4 y5 y6 y7 y8 y9 y10 y11, LeO (a1z.j2 k y0 y1 y2 y3 y4 y5 y6 y7 y8 y9 y10 y11) (a1z.j2 (k + 1) y0 y1 y2 y3 y4 y5 y6 y7 y8 y9 y10 y11)) ∧ (∀ y0 y1 y2 y3 y4 y5 y6 y7 y8 y9 y10 y11, LeO (a1z.j3 k y0 y1 y2 y3 y4 y5 y6 y7 y8 y9 y10 y11) (a1z.j3 (k + 1) y0 y1 y2 y3 y4 y5 y6 y7 y8 y9 y10 y11)) ∧ (∀ y0 y1 y2 y3 y4 y5 y6 y7 y8 y9 y10 y11 y12 y13, LeO (a1z.l0 k y0 y1 y2 y3 y4 y5 y6 y7 y8 y9 y10 y11 y12 y13) (a1z.l0 (k + 1) y0 y1 y2 y3 y4 y5 y6 y7 y8 y9 y10 y11 y12 y13))
 | 0 => ⟨fun _ _ _ _ _ _ _ _ _ _ _ _ _ _ r h => by simp [a1z.j0] at h, fun _ _ _ _ _ _ _ _ _ _ _ _ _ r h => by simp [a1z.j1] at h, fun _ _ _ _ _ _ _ _ _ _ _ _ r h => by simp [a1z.j2] at h, fun _ _ _ _ _ _ _ _ _ _ _ _ r h => by simp [a1z.j3] at h, fun _ _ _ _ _ _ _ _ _ _ _ _ _ _ r h => by simp [a1z.l0] at h⟩
 | k + 1 => by
  obtain ⟨ih0, ih1, ih2, ih3, ih4⟩ := a1z.a0t k
  refine ⟨?_, ?_, ?_, ?_, ?_⟩
  ·intro y0 y1 y2 y3 y4 y5 y6 y7 y8 y9 y10 y11 y12 y13
   unfold a1z.j0
   with_reducible (repeat' first | apply ih0 | apply ih1 | apply ih2 | apply ih3 | apply ih4 | apply a1s.mono | apply a3f.mono | apply a1d.mono | apply a3g.mono | apply a3e.mono | apply a0g.mono | apply a5v.mono | apply a3l.mono | apply LeO.refl | apply LeO.none | apply LeO.ite | refine LeO.bind ?_ (fun _ => ?_))
  ·intro y0 y1 y2 y3 y4 y5 y6 y7 y8 y9 y10 y11 y12
   unfold a1z.j1
   with_reducible (repeat' first | apply ih0 | apply ih1 | apply ih2 | apply ih3 | apply ih4 | apply a1s.mono | apply a3f.mono | apply a1d.mono | apply a3g.mono | apply a3e.mono | apply a0g.mono | apply a5v.mono | apply a3l.mono | apply LeO.refl | apply LeO.none | apply LeO.ite | refine LeO.bind ?_ (fun _ => ?_))
  ·intro y0 y1 y2 y3 y4 y5 y6 y7 y8 y9 y10 y11
   unfold a1z.j2
   with_reducible (repeat' first | apply ih0 | apply ih1 | apply ih2 | apply ih3 | apply ih4 | apply a1s.mono | apply a3f.mono | apply a1d.mono | apply a3g.mono | apply a3e.mono | apply a0g.mono | apply a5v.mono | apply a3l.mono | apply LeO.refl | apply LeO.none | apply LeO.ite | refine LeO.bind ?_ (fun _ => ?_))
  ·intro y0 y1 y2 y3 y4 y5 y6 y7 y8 y9 y10 y11
   unfold a1z.j3
   with_reducible (repeat' first | apply ih0 | apply ih1 | apply ih2 | apply ih3 | apply ih4 | apply a1s.mono | apply a3f.mono | apply a1d.mono | apply a3g.mono | apply a3e.mono | apply a0g.mono | apply a5v.mono | apply a3l.mono | apply LeO.refl | apply LeO.none | apply LeO.ite | refine LeO.bind ?_ (fun _ => ?_))
  ·intro y0 y1 y2 y3 y4 y5 y6 y7 y8 y9 y10 y11 y12 y13
   unfold a1z.l0
   with_reducible (repeat' first | apply ih0 | apply ih1 | apply ih2 | apply ih3 | apply ih4 | apply a1s.mono | apply a3f.mono | apply a1d.mono | apply a3g.mono | apply a3e.mono | apply a0g.mono | apply a5v.mono | apply a3l.mono | apply LeO.refl | apply LeO.none | apply LeO.ite | refine LeO.bind ?_ (fun _ => ?_))
theorem a1z.mono : ∀ a0 a1 a2 a3 a4 a5 a6 a7 a8 a9 a10 a11 a12 k, LeO (a1z.f k a0 a1 a2 a3 a4 a5 a6 a7 a8 a9 a10 a11 a12) (a1z.f (k + 1) a0 a1 a2 a3 a4 a5 a6 a7 a8 a9 a10 a11 a12) := by
 intro a0 a1 a2 a3 a4 a5 a6 a7 a8 a9 a10 a11 a12 k
 obtain ⟨ih0, ih1, ih2, ih3, ih4⟩ := a1z.a0t k
 unfold a1z.f
 with_reducible (repeat' first | apply ih0 | apply ih1 | apply ih2 | apply ih3 | apply ih4 | apply a1s.mono | apply a3f.mono | apply a1d.mono | apply a3g.mono | apply a3e.mono | apply a0g.mono | apply a5v.mono | apply a3l.mono | apply LeO.refl | apply LeO.none | apply LeO.ite | refine LeO.bind ?_ (fun _ => ?_))
end Go.Proofs.Ytemnlgefngjliaa.Px
