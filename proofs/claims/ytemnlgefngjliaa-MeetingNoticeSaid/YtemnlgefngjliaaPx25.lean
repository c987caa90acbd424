/- Contracts of Go functions, printed. Conditions: as each theorem states. -/
import Derived.Test.YtemnlgefngjliaaPx0
import Derived.Test.YtemnlgefngjliaaPx17
import Derived.Test.YtemnlgefngjliaaPx24
namespace Go.Proofs.Ytemnlgefngjliaa.Px
open Go.Proofs.Ytemnlgefngjliaa.Given
open Go.RowKit Go.Proofs.YtemnlgefngjliaaW.PrintWords Go.Proofs.YtemnlgefngjliaaW.PrintLast Go.Proofs.YtemnlgefngjliaaW.PrintMore
attribute [local go_sem] a2k a2l a2x a2y a2b a2c a2m a2n
set_option linter.unusedVariables false
set_option linter.unusedSimpArgs false
mutual
def a1h.j0 : Nat → Int → Int → Int → List Int → Bool → Option (Int × Int)
 | 0, _, _, _, _, _ => none
 | k + 1, x0, x1, x2, x3, x32 => if x32 = true then (some (0, 1)) else (if x2 = 2 then (a1h.j1 k x3 (wrap64 ((wrap64 (x0 + x1)) + 3))) else (a1h.j1 k x3 (wrap64 (x0 + x1))))
def a1h.j1 : Nat → List Int → Int → Option (Int × Int)
 | 0, _, _ => none
 | k + 1, x3, x10 => a1h.l0 k x3 x10
def a1h.j3 : Nat → Int → Option (Int × Int)
 | 0, _ => none
 | k + 1, x10 => if x10 > 36524 then (some (0, 3)) else (some (x10, 0))
def a1h.l0 : Nat → List Int → Int → Option (Int × Int)
 | 0, _, _ => none
 | k + 1, x3, x10 => if x10 ≤ 36524 then ((a3r.f k x10 x3).bind fun t420 => (if t420 = true then (a1h.j3 k x10) else (a1h.l0 k x3 (wrap64 (x10 + 1))))) else (a1h.j3 k x10)
end
def a1h.f (k : Nat) (a0 a1 a2 : Int) (l3 : List Int) : Option (Int × Int) := (RcIn.f a0).bind fun t417 => (if t417 = true then (if a1 < 0 then (a1h.j0 k a0 a1 a2 l3 true) else (if a1 > 1000 then (a1h.j0 k a0 a1 a2 l3 true) else (if a2 = 1 then ((a0p.f k l3).bind fun t418 => (a1h.j0 k a0 a1 a2 l3 (!t418))) else (if a2 = 2 then ((a0p.f k l3).bind fun t419 => (a1h.j0 k a0 a1 a2 l3 (!t419))) else (a1h.j0 k a0 a1 a2 l3 true))))) else (some (0, 3)))
theorem a1h.a0z : ∀ k, (∀ y0 y1 y2 y3 y4, LeO (a1h.j0 k y0 y1 y2 y3 y4) (a1h.j0 (k + 1) y0 y1 y2 y3 y4)) ∧ (∀ y0 y1, LeO (a1h.j1 k y0 y1) (a1h.j1 (k + 1) y0 y1)) ∧ (∀ y0, LeO (a1h.j3 k y0) (a1h.j3 (k + 1) y0)) ∧ (∀ y0 y1, LeO (a1h.l0 k y0 y1) (a1h.l0 (k + 1) y0 y1))
 | 0 => ⟨fun _ _ _ _ _ r h => by simp [a1h.j0] at h, fun _ _ r h => by simp [a1h.j1] at h, fun _ r h => by simp [a1h.j3] at h, fun _ _ r h => by simp [a1h.l0] at h⟩
 | k + 1 => by
  obtain ⟨ih0, ih1, ih2, ih3⟩ := a1h.a0z k
  refine ⟨?_, ?_, ?_, ?_⟩
  ·intro y0 y1 y2 y3 y4
   unfold a1h.j0
   with_reducible (repeat' first | apply ih0 | apply ih1 | apply ih2 | apply ih3 | apply a0p.mono | apply a3r.mono | apply LeO.refl | apply LeO.none | apply LeO.ite | refine LeO.bind ?_ (fun _ => ?_))
  ·intro y0 y1
   unfold a1h.j1
   with_reducible (repeat' first | apply ih0 | apply ih1 | apply ih2 | apply ih3 | apply a0p.mono | apply a3r.mono | apply LeO.refl | apply LeO.none | apply LeO.ite | refine LeO.bind ?_ (fun _ => ?_))
  ·intro y0
   unfold a1h.j3
   with_reducible (repeat' first | apply ih0 | apply ih1 | apply ih2 | apply ih3 | apply a0p.mono | apply a3r.mono | apply LeO.refl | apply LeO.none | apply LeO.ite | refine LeO.bind ?_ (fun _ => ?_))
  ·intro y0 y1
   unfold a1h.l0
   with_reducible (repeat' first | apply ih0 | apply ih1 | apply ih2 | apply ih3 | apply a0p.mono | apply a3r.mono | apply LeO.refl | apply LeO.none | apply LeO.ite | refine LeO.bind ?_ (fun _ => ?_))
theorem a1h.mono : ∀ a0 a1 a2 a3 k, LeO (a1h.f k a0 a1 a2 a3) (a1h.f (k + 1) a0 a1 a2 a3) := by
 intro a0 a1 a2 a3 k
 obtain ⟨ih0, ih1, ih2, ih3⟩ := a1h.a0z k
 unfold a1h.f
 with_reducible (repeat' first | apply ih0 | apply ih1 | apply ih2 | apply ih3 | apply a0p.mono | apply a3r.mono | apply LeO.refl | apply LeO.none | apply LeO.ite | refine LeO.bind ?_ (fun _ => ?_))
def a8n.f (k : Nat) (a0_0 a0_1 a0_2 a0_3 : Int) (a0_4 : Bool) (a1_0 a1_1 a1_2 : Int) (l1_3 : List ByteArray) (l1_4 : List (S43)) (l1_5 l2 : List Int) : Option (Bool) := (a1h.f k a1_0 a0_0 a1_1 l2).bind fun bt423 => (if bt423.2 = 0 then (some (decide (a1_2 < bt423.1))) else (some true))
theorem a8n.mono : ∀ a0 a1 a2 a3 a4 a5 a6 a7 a8 a9 a10 a11 k, LeO (a8n.f k a0 a1 a2 a3 a4 a5 a6 a7 a8 a9 a10 a11) (a8n.f (k + 1) a0 a1 a2 a3 a4 a5 a6 a7 a8 a9 a10 a11) := by
 intro a0 a1 a2 a3 a4 a5 a6 a7 a8 a9 a10 a11 k
 unfold a8n.f
 with_reducible (repeat' first | apply a1h.mono | apply LeO.refl | apply LeO.none | apply LeO.ite | refine LeO.bind ?_ (fun _ => ?_))
end Go.Proofs.Ytemnlgefngjliaa.Px
