/- Contracts of Go functions, printed. Conditions: as each theorem states. -/
import Derived.Test.YtemnlgefngjliaaPx0
import Derived.Test.YtemnlgefngjliaaPx17
namespace Go.Proofs.Ytemnlgefngjliaa.Px
open Go.Proofs.Ytemnlgefngjliaa.Given
open Go.RowKit Go.Proofs.YtemnlgefngjliaaW.PrintWords Go.Proofs.YtemnlgefngjliaaW.PrintLast Go.Proofs.YtemnlgefngjliaaW.PrintMore
attribute [local go_sem] a2f a2g a2r a2s a1x a1y a2h a2i
set_option linter.unusedVariables false
set_option linter.unusedSimpArgs false
mutual
def a1s.l0 : Nat → List Int → Int → Option (Bool)
 | 0, _, _ => none
 | k + 1, x0, x3 => if x3 < (x0.length : Int) then (if 0 ≤ x3 then ((RcIn.f (rd x0 x3)).bind fun t413 => (if t413 = true then (if x3 > 0 then (if 0 ≤ (wrap64 (x3 - 1)) then (if (wrap64 (x3 - 1)) < (x0.length : Int) then (a1s.j1 k x0 x3 (decide ((rd x0 x3) ≤ (rd x0 (wrap64 (x3 - 1)))))) else (none)) else (none)) else (a1s.j1 k x0 x3 false)) else (a1s.j1 k x0 x3 true))) else (none)) else (some true)
def a1s.j1 : Nat → List Int → Int → Bool → Option (Bool)
 | 0, _, _, _ => none
 | k + 1, x0, x3, x34 => if x34 = true then (some false) else (a1s.l0 k x0 (wrap64 (x3 + 1)))
end
def a1s.f (k : Nat) (l0 : List Int) : Option (Bool) := if (l0.length : Int) > 100 then (some false) else (a1s.l0 k l0 0)
theorem a1s.a0t : ∀ k, (∀ y0 y1, LeO (a1s.l0 k y0 y1) (a1s.l0 (k + 1) y0 y1)) ∧ (∀ y0 y1 y2, LeO (a1s.j1 k y0 y1 y2) (a1s.j1 (k + 1) y0 y1 y2))
 | 0 => ⟨fun _ _ r h => by simp [a1s.l0] at h, fun _ _ _ r h => by simp [a1s.j1] at h⟩
 | k + 1 => by
  obtain ⟨ih0, ih1⟩ := a1s.a0t k
  refine ⟨?_, ?_⟩
  ·intro y0 y1
   unfold a1s.l0
   with_reducible (repeat' first | apply ih0 | apply ih1 | apply LeO.refl | apply LeO.none | apply LeO.ite | refine LeO.bind ?_ (fun _ => ?_))
  ·intro y0 y1 y2
   unfold a1s.j1
   with_reducible (repeat' first | apply ih0 | apply ih1 | apply LeO.refl | apply LeO.none | apply LeO.ite | refine LeO.bind ?_ (fun _ => ?_))
theorem a1s.mono : ∀ a0 k, LeO (a1s.f k a0) (a1s.f (k + 1) a0) := by
 intro a0 k
 obtain ⟨ih0, ih1⟩ := a1s.a0t k
 unfold a1s.f
 with_reducible (repeat' first | apply ih0 | apply ih1 | apply LeO.refl | apply LeO.none | apply LeO.ite | refine LeO.bind ?_ (fun _ => ?_))
def a3x.l0 : Nat → Int → List Int → Int → Option (Bool)
 | 0, _, _, _ => none
 | k + 1, x0, x1, x5 => if x5 < (x1.length : Int) then (if 0 ≤ x5 then (if (rd x1 x5) = x0 then (some false) else (a3x.l0 k x0 x1 (wrap64 (x5 + 1)))) else (none)) else (some (decide ((Int.tmod (wrap64 (x0 + 5)) 7) < 5)))
def a3x.f (k : Nat) (a0 : Int) (l1 : List Int) : Option (Bool) := a3x.l0 k a0 l1 0
theorem a3x.a0t : ∀ k, (∀ y0 y1 y2, LeO (a3x.l0 k y0 y1 y2) (a3x.l0 (k + 1) y0 y1 y2))
 | 0 => fun _ _ _ r h => by simp [a3x.l0] at h
 | k + 1 => by
  have ih0 := a3x.a0t k
  ·intro y0 y1 y2
   unfold a3x.l0
   with_reducible (repeat' first | apply ih0 | apply LeO.refl | apply LeO.none | apply LeO.ite | refine LeO.bind ?_ (fun _ => ?_))
theorem a3x.mono : ∀ a0 a1 k, LeO (a3x.f k a0 a1) (a3x.f (k + 1) a0 a1) := by
 intro a0 a1 k
 have ih0 := a3x.a0t k
 unfold a3x.f
 with_reducible (repeat' first | apply ih0 | apply LeO.refl | apply LeO.none | apply LeO.ite | refine LeO.bind ?_ (fun _ => ?_))
end Go.Proofs.Ytemnlgefngjliaa.Px
/- Contracts of Go functions, written by a program of this session's own (wip/tools/myprint.py) out of the translation: each Go function does what the Lean function of its name says. Conditions: as each theorem states. -/
namespace Go.Proofs.Ytemnlgefngjliaa.Px
open Go.Proofs.Ytemnlgefngjliaa.Given
open Go.RowKit Go.Proofs.YtemnlgefngjliaaW.PrintWords Go.Proofs.YtemnlgefngjliaaW.PrintLast Go.Proofs.YtemnlgefngjliaaW.PrintMore
attribute [local go_sem] a2f a2g a2r a2s a1x a1y a2h a2i
set_option linter.unusedVariables false
set_option linter.unusedSimpArgs false
mutual
def a1m.j0 : Nat → Int → Int → Int → List Int → Bool → Option (Int × Int)
 | 0, _, _, _, _, _ => none
 | k + 1, x0, x1, x2, x3, x32 => if x32 = true then (some (0, 1)) else (if x2 = 2 then (a1m.j1 k x3 (wrap64 ((wrap64 (x0 + x1)) + 3))) else (a1m.j1 k x3 (wrap64 (x0 + x1))))
def a1m.j1 : Nat → List Int → Int → Option (Int × Int)
 | 0, _, _ => none
 | k + 1, x3, x10 => a1m.l0 k x3 x10
def a1m.j3 : Nat → Int → Option (Int × Int)
 | 0, _ => none
 | k + 1, x10 => if x10 > 36524 then (some (0, 3)) else (some (x10, 0))
def a1m.l0 : Nat → List Int → Int → Option (Int × Int)
 | 0, _, _ => none
 | k + 1, x3, x10 => if x10 ≤ 36524 then ((a3x.f k x10 x3).bind fun t420 => (if t420 = true then (a1m.j3 k x10) else (a1m.l0 k x3 (wrap64 (x10 + 1))))) else (a1m.j3 k x10)
end
def a1m.f (k : Nat) (a0 a1 a2 : Int) (l3 : List Int) : Option (Int × Int) := (RcIn.f a0).bind fun t417 => (if t417 = true then (if a1 < 0 then (a1m.j0 k a0 a1 a2 l3 true) else (if a1 > 1000 then (a1m.j0 k a0 a1 a2 l3 true) else (if a2 = 1 then ((a1s.f k l3).bind fun t418 => (a1m.j0 k a0 a1 a2 l3 (!t418))) else (if a2 = 2 then ((a1s.f k l3).bind fun t419 => (a1m.j0 k a0 a1 a2 l3 (!t419))) else (a1m.j0 k a0 a1 a2 l3 true))))) else (some (0, 3)))
theorem a1m.a0t : ∀ k, (∀ y0 y1 y2 y3 y4, LeO (a1m.j0 k y0 y1 y2 y3 y4) (a1m.j0 (k + 1) y0 y1 y2 y3 y4)) ∧ (∀ y0 y1, LeO (a1m.j1 k y0 y1) (a1m.j1 (k + 1) y0 y1)) ∧ (∀ y0, LeO (a1m.j3 k y0) (a1m.j3 (k + 1) y0)) ∧ (∀ y0 y1, LeO (a1m.l0 k y0 y1) (a1m.l0 (k + 1) y0 y1))
 | 0 => ⟨fun _ _ _ _ _ r h => by simp [a1m.j0] at h, fun _ _ r h => by simp [a1m.j1] at h, fun _ r h => by simp [a1m.j3] at h, fun _ _ r h => by simp [a1m.l0] at h⟩
 | k + 1 => by
  obtain ⟨ih0, ih1, ih2, ih3⟩ := a1m.a0t k
  refine ⟨?_, ?_, ?_, ?_⟩
  ·intro y0 y1 y2 y3 y4
   unfold a1m.j0
   with_reducible (repeat' first | apply ih0 | apply ih1 | apply ih2 | apply ih3 | apply a1s.mono | apply a3x.mono | apply LeO.refl | apply LeO.none | apply LeO.ite | refine LeO.bind ?_ (fun _ => ?_))
  ·intro y0 y1
   unfold a1m.j1
   with_reducible (repeat' first | apply ih0 | apply ih1 | apply ih2 | apply ih3 | apply a1s.mono | apply a3x.mono | apply LeO.refl | apply LeO.none | apply LeO.ite | refine LeO.bind ?_ (fun _ => ?_))
  ·intro y0
   unfold a1m.j3
   with_reducible (repeat' first | apply ih0 | apply ih1 | apply ih2 | apply ih3 | apply a1s.mono | apply a3x.mono | apply LeO.refl | apply LeO.none | apply LeO.ite | refine LeO.bind ?_ (fun _ => ?_))
  ·intro y0 y1
   unfold a1m.l0
   with_reducible (repeat' first | apply ih0 | apply ih1 | apply ih2 | apply ih3 | apply a1s.mono | apply a3x.mono | apply LeO.refl | apply LeO.none | apply LeO.ite | refine LeO.bind ?_ (fun _ => ?_))
theorem a1m.mono : ∀ a0 a1 a2 a3 k, LeO (a1m.f k a0 a1 a2 a3) (a1m.f (k + 1) a0 a1 a2 a3) := by
 intro a0 a1 a2 a3 k
 obtain ⟨ih0, ih1, ih2, ih3⟩ := a1m.a0t k
 unfold a1m.f
 with_reducible (repeat' first | apply ih0 | apply ih1 | apply ih2 | apply ih3 | apply a1s.mono | apply a3x.mono | apply LeO.refl | apply LeO.none | apply LeO.ite | refine LeO.bind ?_ (fun _ => ?_))
def a5v.f (k : Nat) (a0_0 a0_1 a0_2 a0_3 : Int) (a0_4 : Bool) (a1_0 a1_1 a1_2 : Int) (l1_3 : List ByteArray) (l1_4 : List (S43)) (l1_5 l2 : List Int) : Option (Bool) := (a1m.f k a1_0 a0_0 a1_1 l2).bind fun bt423 => (if bt423.2 = 0 then (some (decide (a1_2 < bt423.1))) else (some true))
theorem a5v.mono : ∀ a0 a1 a2 a3 a4 a5 a6 a7 a8 a9 a10 a11 k, LeO (a5v.f k a0 a1 a2 a3 a4 a5 a6 a7 a8 a9 a10 a11) (a5v.f (k + 1) a0 a1 a2 a3 a4 a5 a6 a7 a8 a9 a10 a11) := by
 intro a0 a1 a2 a3 a4 a5 a6 a7 a8 a9 a10 a11 k
 unfold a5v.f
 with_reducible (repeat' first | apply a1m.mono | apply LeO.refl | apply LeO.none | apply LeO.ite | refine LeO.bind ?_ (fun _ => ?_))
end Go.Proofs.Ytemnlgefngjliaa.Px
