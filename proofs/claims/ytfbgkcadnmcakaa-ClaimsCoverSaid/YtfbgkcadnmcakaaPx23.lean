/- Contracts of Go functions, printed. Conditions: as each theorem states. -/
import Derived.Test.YtfbgkcadnmcakaaPx0
import Derived.Test.YtfbgkcadnmcakaaPx16
import Derived.Test.YtfbgkcadnmcakaaPx18
import Derived.Test.YtfbgkcadnmcakaaPx20
import Derived.Test.YtfbgkcadnmcakaaPx21
namespace Go.Proofs.Ytfbgkcadnmcakaa.Px
open Go.Proofs.Ytfbgkcadnmcakaa.Given
open Go.RowKit Go.Proofs.YtfbgkcadnmcakaaW.PrintWords Go.Proofs.YtfbgkcadnmcakaaW.PrintLast Go.Proofs.YtfbgkcadnmcakaaW.PrintMore
attribute [local go_sem] a2w a2u a3d a3c a2q a2r a2x a2y
set_option linter.unusedVariables false
set_option linter.unusedSimpArgs false
section
variable {P : Program} {ops : Array Oper} {rest : List Oper} {o : Oper} {a : Act} {Q : Exit → Act → World → Prop}
end
mutual
def a0r.j0 : Nat → List (S30) → List Int → Int → Bool → Option ((List (S30)) × Int × Int)
 | 0, _, _, _, _ => none
 | k + 1, x0, x1, x2, x26 => if x26 = true then (some (([] : List (S30)), 0, 1)) else (a0r.l0 k x0 x1 x2 ([] : List (S30)) 0)
def a0r.l0 : Nat → List (S30) → List Int → Int → List (S30) → Int → Option ((List (S30)) × Int × Int)
 | 0, _, _, _, _, _ => none
 | k + 1, x0, x1, x2, x10, x11 => if x11 < (x1.length : Int) then (if 0 ≤ x11 then ((a1m.f k x0 (rd x1 x11)).bind fun t383 => (if t383 < 0 then (some (([] : List (S30)), 0, 4)) else (if x11 ≤ (x1.length : Int) then ((a1n.f k (x1.take (x11 : Int).toNat) (rd x1 x11)).bind fun t386 => (if t386 = true then (some (([] : List (S30)), 0, 5)) else (if 0 ≤ t383 then (if t383 < (x0.length : Int) then (if x10.length < 2932031007402 then (a0r.l0 k x0 x1 x2 (x10 ++ [(⟨(a0a x0 t383).f0, (a0a x0 t383).f1, (a0a x0 t383).f2, (a0a x0 t383).f3, (⟨(a0a x0 t383).f4.f0, (a0a x0 t383).f4.f1⟩ : S28)⟩ : S30)]) (wrap64 (x11 + 1))) else (none)) else (none)) else (none)))) else (none)))) else (none)) else (a0r.l1 k x2 x10 ([] : List (S30)))
def a0r.l1 : Nat → Int → List (S30) → List (S30) → Option ((List (S30)) × Int × Int)
 | 0, _, _, _ => none
 | k + 1, x2, x10, x13 => if (x10.length : Int) > 0 then (a0r.j3 k x2 x10 x13 (decide (x2 > 0))) else (a0r.j3 k x2 x10 x13 false)
def a0r.j3 : Nat → Int → List (S30) → List (S30) → Bool → Option ((List (S30)) × Int × Int)
 | 0, _, _, _, _ => none
 | k + 1, x2, x10, x13, x62 => if x62 = true then (a0r.l2 k x2 x10 x13 0 1) else (some (x13, x2, 0))
def a0r.l2 : Nat → Int → List (S30) → List (S30) → Int → Int → Option ((List (S30)) × Int × Int)
 | 0, _, _, _, _, _ => none
 | k + 1, x2, x10, x13, x14, x15 => if x15 < (x10.length : Int) then (if 0 ≤ x15 then (if 0 ≤ x14 then (if x14 < (x10.length : Int) then ((a2e.f ((a0a x10 x15).f0) ((a0a x10 x15).f1) ((a0a x10 x15).f2) ((a0a x10 x15).f3) ((a0a x10 x15).f4.f0) ((a0a x10 x15).f4.f1) ((a0a x10 x14).f0) ((a0a x10 x14).f1) ((a0a x10 x14).f2) ((a0a x10 x14).f3) ((a0a x10 x14).f4.f0) ((a0a x10 x14).f4.f1)).bind fun t415 => (if t415 = true then (a0r.l2 k x2 x10 x13 x15 (wrap64 (x15 + 1))) else (a0r.l2 k x2 x10 x13 x14 (wrap64 (x15 + 1))))) else (none)) else (none)) else (none)) else (if 0 ≤ x14 then (if x14 < (x10.length : Int) then (if x13.length < 2932031007402 then ((some (([] : List (S30)) : List (S30))).bind fun y396 => (if x14 ≤ (x10.length : Int) then ((some (x10.take (x14 : Int).toNat : List (S30))).bind fun y399 => (if y396.length + y399.length < 2932031007402 then ((some (y396 ++ y399 : List (S30))).bind fun y403 => (if 0 ≤ (wrap64 (x14 + 1)) then (if (wrap64 (x14 + 1)) ≤ (x10.length : Int) then ((some (x10.drop ((wrap64 (x14 + 1)) : Int).toNat : List (S30))).bind fun y406 => (if y403.length + y406.length < 2932031007402 then (a0r.l1 k (wrap64 (x2 - (mn ((a0a x10 x14).f3) x2))) (y403 ++ y406) (x13 ++ [(⟨(a0a x10 x14).f0, (a0a x10 x14).f1, (a0a x10 x14).f2, mn ((a0a x10 x14).f3) x2, (⟨(a0a x10 x14).f4.f0, (a0a x10 x14).f4.f1⟩ : S28)⟩ : S30)])) else (none))) else (none)) else (none))) else (none))) else (none))) else (none)) else (none)) else (none))
end
def a0r.f (k : Nat) (l0 : List (S30)) (l1 : List Int) (a2 : Int) : Option ((List (S30)) × Int × Int) := (a1j.f k l0).bind fun t380 => (if t380 = true then ((a2s.f a2 0 1000000000).bind fun t381 => (a0r.j0 k l0 l1 a2 (!t381))) else (a0r.j0 k l0 l1 a2 true))
theorem a0r.a1k : ∀ k, (∀ y0 y1 y2 y3, LeO (a0r.j0 k y0 y1 y2 y3) (a0r.j0 (k + 1) y0 y1 y2 y3)) ∧ (∀ y0 y1 y2 y3 y4, LeO (a0r.l0 k y0 y1 y2 y3 y4) (a0r.l0 (k + 1) y0 y1 y2 y3 y4)) ∧ (∀ y0 y1 y2, LeO (a0r.l1 k y0 y1 y2) (a0r.l1 (k + 1) y0 y1 y2)) ∧ (∀ y0 y1 y2 y3, LeO (a0r.j3 k y0 y1 y2 y3) (a0r.j3 (k + 1) y0 y1 y2 y3)) ∧ (∀ y0 y1 y2 y3 y4, LeO (a0r.l2 k y0 y1 y2 y3 y4) (a0r.l2 (k + 1) y0 y1 y2 y3 y4))
 | 0 => ⟨fun _ _ _ _ r h => by simp [a0r.j0] at h, fun _ _ _ _ _ r h => by simp [a0r.l0] at h, fun _ _ _ r h => by simp [a0r.l1] at h, fun _ _ _ _ r h => by simp [a0r.j3] at h, fun _ _ _ _ _ r h => by simp [a0r.l2] at h⟩
 | k + 1 => by
  obtain ⟨ih0, ih1, ih2, ih3, ih4⟩ := a0r.a1k k
  refine ⟨?_, ?_, ?_, ?_, ?_⟩
  ·intro y0 y1 y2 y3
   unfold a0r.j0
   with_reducible (repeat' first | apply ih0 | apply ih1 | apply ih2 | apply ih3 | apply ih4 | apply a1n.mono | apply a1j.mono | apply a1m.mono | apply LeO.refl | apply LeO.none | apply LeO.ite | refine LeO.bind ?_ (fun _ => ?_))
  ·intro y0 y1 y2 y3 y4
   unfold a0r.l0
   with_reducible (repeat' first | apply ih0 | apply ih1 | apply ih2 | apply ih3 | apply ih4 | apply a1n.mono | apply a1j.mono | apply a1m.mono | apply LeO.refl | apply LeO.none | apply LeO.ite | refine LeO.bind ?_ (fun _ => ?_))
  ·intro y0 y1 y2
   unfold a0r.l1
   with_reducible (repeat' first | apply ih0 | apply ih1 | apply ih2 | apply ih3 | apply ih4 | apply a1n.mono | apply a1j.mono | apply a1m.mono | apply LeO.refl | apply LeO.none | apply LeO.ite | refine LeO.bind ?_ (fun _ => ?_))
  ·intro y0 y1 y2 y3
   unfold a0r.j3
   with_reducible (repeat' first | apply ih0 | apply ih1 | apply ih2 | apply ih3 | apply ih4 | apply a1n.mono | apply a1j.mono | apply a1m.mono | apply LeO.refl | apply LeO.none | apply LeO.ite | refine LeO.bind ?_ (fun _ => ?_))
  ·intro y0 y1 y2 y3 y4
   unfold a0r.l2
   with_reducible (repeat' first | apply ih0 | apply ih1 | apply ih2 | apply ih3 | apply ih4 | apply a1n.mono | apply a1j.mono | apply a1m.mono | apply LeO.refl | apply LeO.none | apply LeO.ite | refine LeO.bind ?_ (fun _ => ?_))
theorem a0r.mono : ∀ a0 a1 a2 k, LeO (a0r.f k a0 a1 a2) (a0r.f (k + 1) a0 a1 a2) := by
 intro a0 a1 a2 k
 obtain ⟨ih0, ih1, ih2, ih3, ih4⟩ := a0r.a1k k
 unfold a0r.f
 with_reducible (repeat' first | apply ih0 | apply ih1 | apply ih2 | apply ih3 | apply ih4 | apply a1n.mono | apply a1j.mono | apply a1m.mono | apply LeO.refl | apply LeO.none | apply LeO.ite | refine LeO.bind ?_ (fun _ => ?_))
end Go.Proofs.Ytfbgkcadnmcakaa.Px
