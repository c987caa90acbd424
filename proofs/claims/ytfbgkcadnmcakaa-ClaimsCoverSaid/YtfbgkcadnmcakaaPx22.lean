/- Contracts of Go functions, printed. Conditions: as each theorem states. -/
import Derived.Test.YtfbgkcadnmcakaaPx0
import Derived.Test.YtfbgkcadnmcakaaPx18
import Derived.Test.YtfbgkcadnmcakaaPx20
import Derived.Test.YtfbgkcadnmcakaaPx21
namespace Go.Proofs.Ytfbgkcadnmcakaa.Px
open Go.Proofs.Ytfbgkcadnmcakaa.Given
open Go.RowKit Go.Proofs.YtfbgkcadnmcakaaW.PrintWords Go.Proofs.YtfbgkcadnmcakaaW.PrintLast Go.Proofs.YtfbgkcadnmcakaaW.PrintMore
attribute [local go_sem] a2w a2u a3d a3c a2q a2r a2x a2y
set_option linter.unusedVariables false
set_option linter.unusedSimpArgs false
mutual
def a1a.j0 : Nat → List (S30) → List (S26) → Int → List Int → Int → Bool → Option (List Int × Int)
 | 0, _, _, _, _, _, _ => none
 | k + 1, x0, x1, x2, x3, x4, x36 => if x36 = true then (some (([] : List Int), 1)) else (a1a.l0 k x0 x1 x2 x3 x4 ([] : List Int) 0)
def a1a.l0 : Nat → List (S30) → List (S26) → Int → List Int → Int → List Int → Int → Option (List Int × Int)
 | 0, _, _, _, _, _, _, _ => none
 | k + 1, x0, x1, x2, x3, x4, x14, x15 => if x15 < (x0.length : Int) then (if 0 ≤ x15 then (if ((a0a x0 x15).f4.f0) ≤ x4 then (if x4 < ((a0a x0 x15).f4.f1) then ((a1n.f k x3 ((a0a x0 x15).f1)).bind fun t375 => (if t375 = true then ((a1d.f k ((a0a x0 x15).f0) ((a0a x0 x15).f1) ((a0a x0 x15).f2) ((a0a x0 x15).f3) ((a0a x0 x15).f4.f0) ((a0a x0 x15).f4.f1) x1 x4).bind fun t376 => (a1a.j2 k x0 x1 x2 x3 x4 x14 x15 (t376 == x2) ((a0a x0 x15).f0) ((a0a x0 x15).f1) ((a0a x0 x15).f2) ((a0a x0 x15).f3) ((a0a x0 x15).f4.f0) ((a0a x0 x15).f4.f1))) else (a1a.j2 k x0 x1 x2 x3 x4 x14 x15 false ((a0a x0 x15).f0) ((a0a x0 x15).f1) ((a0a x0 x15).f2) ((a0a x0 x15).f3) ((a0a x0 x15).f4.f0) ((a0a x0 x15).f4.f1)))) else (a1a.j2 k x0 x1 x2 x3 x4 x14 x15 false ((a0a x0 x15).f0) ((a0a x0 x15).f1) ((a0a x0 x15).f2) ((a0a x0 x15).f3) ((a0a x0 x15).f4.f0) ((a0a x0 x15).f4.f1))) else (a1a.j2 k x0 x1 x2 x3 x4 x14 x15 false ((a0a x0 x15).f0) ((a0a x0 x15).f1) ((a0a x0 x15).f2) ((a0a x0 x15).f3) ((a0a x0 x15).f4.f0) ((a0a x0 x15).f4.f1))) else (none)) else (some (x14, 0))
def a1a.j2 : Nat → List (S30) → List (S26) → Int → List Int → Int → List Int → Int → Bool → Int → Int → Int → Int → Int → Int → Option (List Int × Int)
 | 0, _, _, _, _, _, _, _, _, _, _, _, _, _, _ => none
 | k + 1, x0, x1, x2, x3, x4, x14, x15, x72, v0, v1, v2, v3, v4, v5 => if x72 = true then (if x14.length < 17592186044416 then (a1a.l0 k x0 x1 x2 x3 x4 (x14 ++ [v0]) (wrap64 (x15 + 1))) else (none)) else (a1a.l0 k x0 x1 x2 x3 x4 x14 (wrap64 (x15 + 1)))
end
def a1a.f (k : Nat) (l0 : List (S30)) (l1 : List (S26)) (a2 : Int) (l3 : List Int) (a4 : Int) : Option (List Int × Int) := (a1j.f k l0).bind fun t369 => ((a0y.f k l1).bind fun t370 => (if t369 = true then (if t370 = true then ((a2s.f a2 1 1000000).bind fun t371 => (if t371 = true then ((a2s.f a4 0 36524).bind fun t372 => (a1a.j0 k l0 l1 a2 l3 a4 (!t372))) else (a1a.j0 k l0 l1 a2 l3 a4 true))) else (a1a.j0 k l0 l1 a2 l3 a4 true)) else (a1a.j0 k l0 l1 a2 l3 a4 true)))
theorem a1a.a1k : ∀ k, (∀ y0 y1 y2 y3 y4 y5, LeO (a1a.j0 k y0 y1 y2 y3 y4 y5) (a1a.j0 (k + 1) y0 y1 y2 y3 y4 y5)) ∧ (∀ y0 y1 y2 y3 y4 y5 y6, LeO (a1a.l0 k y0 y1 y2 y3 y4 y5 y6) (a1a.l0 (k + 1) y0 y1 y2 y3 y4 y5 y6)) ∧ (∀ y0 y1 y2 y3 y4 y5 y6 y7 y8 y9 y10 y11 y12 y13, LeO (a1a.j2 k y0 y1 y2 y3 y4 y5 y6 y7 y8 y9 y10 y11 y12 y13) (a1a.j2 (k + 1) y0 y1 y2 y3 y4 y5 y6 y7 y8 y9 y10 y11 y12 y13))
 | 0 => ⟨fun _ _ _ _ _ _ r h => by simp [a1a.j0] at h, fun _ _ _ _ _ _ _ r h => by simp [a1a.l0] at h, fun _ _ _ _ _ _ _ _ _ _ _ _ _ _ r h => by simp [a1a.j2] at h⟩
 | k + 1 => by
  obtain ⟨ih0, ih1, ih2⟩ := a1a.a1k k
  refine ⟨?_, ?_, ?_⟩
  ·intro y0 y1 y2 y3 y4 y5
   unfold a1a.j0
   with_reducible (repeat' first | apply ih0 | apply ih1 | apply ih2 | apply a0y.mono | apply a1n.mono | apply a1j.mono | apply a1d.mono | apply LeO.refl | apply LeO.none | apply LeO.ite | refine LeO.bind ?_ (fun _ => ?_))
  ·intro y0 y1 y2 y3 y4 y5 y6
   unfold a1a.l0
   with_reducible (repeat' first | apply ih0 | apply ih1 | apply ih2 | apply a0y.mono | apply a1n.mono | apply a1j.mono | apply a1d.mono | apply LeO.refl | apply LeO.none | apply LeO.ite | refine LeO.bind ?_ (fun _ => ?_))
  ·intro y0 y1 y2 y3 y4 y5 y6 y7 y8 y9 y10 y11 y12 y13
   unfold a1a.j2
   with_reducible (repeat' first | apply ih0 | apply ih1 | apply ih2 | apply a0y.mono | apply a1n.mono | apply a1j.mono | apply a1d.mono | apply LeO.refl | apply LeO.none | apply LeO.ite | refine LeO.bind ?_ (fun _ => ?_))
theorem a1a.mono : ∀ a0 a1 a2 a3 a4 k, LeO (a1a.f k a0 a1 a2 a3 a4) (a1a.f (k + 1) a0 a1 a2 a3 a4) := by
 intro a0 a1 a2 a3 a4 k
 obtain ⟨ih0, ih1, ih2⟩ := a1a.a1k k
 unfold a1a.f
 with_reducible (repeat' first | apply ih0 | apply ih1 | apply ih2 | apply a0y.mono | apply a1n.mono | apply a1j.mono | apply a1d.mono | apply LeO.refl | apply LeO.none | apply LeO.ite | refine LeO.bind ?_ (fun _ => ?_))
end Go.Proofs.Ytfbgkcadnmcakaa.Px
