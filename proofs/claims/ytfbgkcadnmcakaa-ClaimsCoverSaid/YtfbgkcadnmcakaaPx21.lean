/- Contracts of Go functions, printed. Conditions: as each theorem states. -/
import Derived.Test.YtfbgkcadnmcakaaPx0
import Derived.Test.YtfbgkcadnmcakaaPx18
import Derived.Test.YtfbgkcadnmcakaaPx20
namespace Go.Proofs.Ytfbgkcadnmcakaa.Px
open Go.Proofs.Ytfbgkcadnmcakaa.Given
open Go.RowKit Go.Proofs.YtfbgkcadnmcakaaW.PrintWords Go.Proofs.YtfbgkcadnmcakaaW.PrintLast Go.Proofs.YtfbgkcadnmcakaaW.PrintMore
attribute [local go_sem] a2w a2u a3d a3c a2q a2r a2x a2y
set_option linter.unusedVariables false
set_option linter.unusedSimpArgs false
def a1j.l0 : Nat → List (S30) → Int → Option (Bool)
 | 0, _, _ => none
 | k + 1, x0, x3 => if x3 < (x0.length : Int) then (if 0 ≤ x3 then ((a1p.f k ((a0a x0 x3).f0) ((a0a x0 x3).f1) ((a0a x0 x3).f2) ((a0a x0 x3).f3) ((a0a x0 x3).f4.f0) ((a0a x0 x3).f4.f1)).bind fun t361 => (if t361 = true then (if x3 ≤ (x0.length : Int) then ((a1m.f k (x0.take (x3 : Int).toNat) ((a0a x0 x3).f0)).bind fun t367 => (if t367 ≥ 0 then (some false) else (a1j.l0 k x0 (wrap64 (x3 + 1))))) else (none)) else (some false))) else (none)) else (some true)
def a1j.f (k : Nat) (l0 : List (S30)) : Option (Bool) := if (l0.length : Int) > 100 then (some false) else (a1j.l0 k l0 0)
theorem a1j.a1k : ∀ k, (∀ y0 y1, LeO (a1j.l0 k y0 y1) (a1j.l0 (k + 1) y0 y1))
 | 0 => fun _ _ r h => by simp [a1j.l0] at h
 | k + 1 => by
  have ih0 := a1j.a1k k
  ·intro y0 y1
   unfold a1j.l0
   with_reducible (repeat' first | apply ih0 | apply a1p.mono | apply a1m.mono | apply LeO.refl | apply LeO.none | apply LeO.ite | refine LeO.bind ?_ (fun _ => ?_))
theorem a1j.mono : ∀ a0 k, LeO (a1j.f k a0) (a1j.f (k + 1) a0) := by
 intro a0 k
 have ih0 := a1j.a1k k
 unfold a1j.f
 with_reducible (repeat' first | apply ih0 | apply a1p.mono | apply a1m.mono | apply LeO.refl | apply LeO.none | apply LeO.ite | refine LeO.bind ?_ (fun _ => ?_))
def a1n.l0 : Nat → List Int → Int → Int → Option (Bool)
 | 0, _, _, _ => none
 | k + 1, x0, x1, x5 => if x5 < (x0.length : Int) then (if 0 ≤ x5 then (if (rd x0 x5) = x1 then (some true) else (a1n.l0 k x0 x1 (wrap64 (x5 + 1)))) else (none)) else (some false)
def a1n.f (k : Nat) (l0 : List Int) (a1 : Int) : Option (Bool) := a1n.l0 k l0 a1 0
theorem a1n.a1k : ∀ k, (∀ y0 y1 y2, LeO (a1n.l0 k y0 y1 y2) (a1n.l0 (k + 1) y0 y1 y2))
 | 0 => fun _ _ _ r h => by simp [a1n.l0] at h
 | k + 1 => by
  have ih0 := a1n.a1k k
  ·intro y0 y1 y2
   unfold a1n.l0
   with_reducible (repeat' first | apply ih0 | apply LeO.refl | apply LeO.none | apply LeO.ite | refine LeO.bind ?_ (fun _ => ?_))
theorem a1n.mono : ∀ a0 a1 k, LeO (a1n.f k a0 a1) (a1n.f (k + 1) a0 a1) := by
 intro a0 a1 k
 have ih0 := a1n.a1k k
 unfold a1n.f
 with_reducible (repeat' first | apply ih0 | apply LeO.refl | apply LeO.none | apply LeO.ite | refine LeO.bind ?_ (fun _ => ?_))
end Go.Proofs.Ytfbgkcadnmcakaa.Px
