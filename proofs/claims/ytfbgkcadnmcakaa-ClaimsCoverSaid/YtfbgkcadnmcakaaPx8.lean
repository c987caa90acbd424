/- Contracts of Go functions, printed. Conditions: as each theorem states. -/
import Derived.Test.YtfbgkcadnmcakaaPx0
import Derived.Test.YtfbgkcadnmcakaaPx5
import Derived.Test.YtfbgkcadnmcakaaPx7
namespace Go.Proofs.Ytfbgkcadnmcakaa.Px
open Go.Proofs.Ytfbgkcadnmcakaa.Given
open Go.RowKit Go.Proofs.YtfbgkcadnmcakaaW.PrintWords Go.Proofs.YtfbgkcadnmcakaaW.PrintLast Go.Proofs.YtfbgkcadnmcakaaW.PrintMore
attribute [local go_sem] a2w a2u a3d a3c a2q a2r a2x a2y
set_option linter.unusedVariables false
set_option linter.unusedSimpArgs false
mutual
def a0b.l0 : Nat → List (S26) → Int → Int → Int → Option ((List (S26)))
 | 0, _, _, _, _ => none
 | k + 1, x0, x1, x10, x11 => if x10 < x11 then (if 0 ≤ (wrap64 ((IntKind.u64.wrap (wrap64 (x10 + x11))) / 2)) then (if (wrap64 ((IntKind.u64.wrap (wrap64 (x10 + x11))) / 2)) < (x0.length : Int) then (if 0 ≤ x1 then (if x1 < (x0.length : Int) then ((a2h.f ((a0c x0 (wrap64 ((IntKind.u64.wrap (wrap64 (x10 + x11))) / 2))).f0) ((a0c x0 (wrap64 ((IntKind.u64.wrap (wrap64 (x10 + x11))) / 2))).f1) ((a0c x0 (wrap64 ((IntKind.u64.wrap (wrap64 (x10 + x11))) / 2))).f2) ((a0c x0 (wrap64 ((IntKind.u64.wrap (wrap64 (x10 + x11))) / 2))).f3) ((a0c x0 x1).f0) ((a0c x0 x1).f1) ((a0c x0 x1).f2) ((a0c x0 x1).f3)).bind fun t153 => (if t153 < 0 then (a0b.l0 k x0 x1 (wrap64 ((wrap64 ((IntKind.u64.wrap (wrap64 (x10 + x11))) / 2)) + 1)) x11) else (a0b.l0 k x0 x1 x10 (wrap64 ((IntKind.u64.wrap (wrap64 (x10 + x11))) / 2))))) else (none)) else (none)) else (none)) else (none)) else (a0b.l1 k x0 x10 x1)
def a0b.l1 : Nat → List (S26) → Int → Int → Option ((List (S26)))
 | 0, _, _, _ => none
 | k + 1, x0, x10, x13 => if x13 < (wrap64 (x10 - 1)) then (if 0 ≤ (wrap64 (x13 + 1)) then (if (wrap64 (x13 + 1)) < (x0.length : Int) then (if 0 ≤ x13 then (if x13 < (x0.length : Int) then (a0b.l1 k ((x0.set (x13 : Int).toNat (⟨(a0c x0 (wrap64 (x13 + 1))).f0, (a0c x0 (wrap64 (x13 + 1))).f1, (a0c x0 (wrap64 (x13 + 1))).f2, (a0c x0 (wrap64 (x13 + 1))).f3⟩ : S26)).set ((wrap64 (x13 + 1)) : Int).toNat (⟨(a0c x0 x13).f0, (a0c x0 x13).f1, (a0c x0 x13).f2, (a0c x0 x13).f3⟩ : S26)) x10 (wrap64 (x13 + 1))) else (none)) else (none)) else (none)) else (none)) else (some x0)
def a0b.l2 : Nat → List (S26) → Int → Int → Int → Option ((List (S26)))
 | 0, _, _, _, _ => none
 | k + 1, x0, x2, x14, x15 => if x14 < x15 then (if 0 ≤ x2 then (if x2 < (x0.length : Int) then (if 0 ≤ (wrap64 ((IntKind.u64.wrap (wrap64 (x14 + x15))) / 2)) then (if (wrap64 ((IntKind.u64.wrap (wrap64 (x14 + x15))) / 2)) < (x0.length : Int) then ((a2h.f ((a0c x0 x2).f0) ((a0c x0 x2).f1) ((a0c x0 x2).f2) ((a0c x0 x2).f3) ((a0c x0 (wrap64 ((IntKind.u64.wrap (wrap64 (x14 + x15))) / 2))).f0) ((a0c x0 (wrap64 ((IntKind.u64.wrap (wrap64 (x14 + x15))) / 2))).f1) ((a0c x0 (wrap64 ((IntKind.u64.wrap (wrap64 (x14 + x15))) / 2))).f2) ((a0c x0 (wrap64 ((IntKind.u64.wrap (wrap64 (x14 + x15))) / 2))).f3)).bind fun t160 => (if t160 < 0 then (a0b.l2 k x0 x2 x14 (wrap64 ((IntKind.u64.wrap (wrap64 (x14 + x15))) / 2))) else (a0b.l2 k x0 x2 (wrap64 ((wrap64 ((IntKind.u64.wrap (wrap64 (x14 + x15))) / 2)) + 1)) x15))) else (none)) else (none)) else (none)) else (none)) else (a0b.l3 k x0 x14 x2)
def a0b.l3 : Nat → List (S26) → Int → Int → Option ((List (S26)))
 | 0, _, _, _ => none
 | k + 1, x0, x14, x17 => if x17 > x14 then (if 0 ≤ (wrap64 (x17 - 1)) then (if (wrap64 (x17 - 1)) < (x0.length : Int) then (if 0 ≤ x17 then (if x17 < (x0.length : Int) then (a0b.l3 k ((x0.set (x17 : Int).toNat (⟨(a0c x0 (wrap64 (x17 - 1))).f0, (a0c x0 (wrap64 (x17 - 1))).f1, (a0c x0 (wrap64 (x17 - 1))).f2, (a0c x0 (wrap64 (x17 - 1))).f3⟩ : S26)).set ((wrap64 (x17 - 1)) : Int).toNat (⟨(a0c x0 x17).f0, (a0c x0 x17).f1, (a0c x0 x17).f2, (a0c x0 x17).f3⟩ : S26)) x14 (wrap64 (x17 - 1))) else (none)) else (none)) else (none)) else (none)) else (some x0)
def a0b.j4 : Nat → List (S26) → Int → Int → Int → Int → Int → Int → Int → Option ((List (S26)))
 | 0, _, _, _, _, _, _, _, _ => none
 | k + 1, x0, x1, x2, x3, x18, x19, x20, x21 => a0b.l4 k x0 x1 x2 x3 x18 x19 x20 x21 (wrap64 (x19 - 1))
def a0b.l4 : Nat → List (S26) → Int → Int → Int → Int → Int → Int → Int → Int → Option ((List (S26)))
 | 0, _, _, _, _, _, _, _, _, _ => none
 | k + 1, x0, x1, x2, x3, x18, x19, x20, x21, x22 => if x20 < x21 then (if 0 ≤ (wrap64 (x22 - (wrap64 ((IntKind.u64.wrap (wrap64 (x20 + x21))) / 2)))) then (if (wrap64 (x22 - (wrap64 ((IntKind.u64.wrap (wrap64 (x20 + x21))) / 2)))) < (x0.length : Int) then (if 0 ≤ (wrap64 ((IntKind.u64.wrap (wrap64 (x20 + x21))) / 2)) then (if (wrap64 ((IntKind.u64.wrap (wrap64 (x20 + x21))) / 2)) < (x0.length : Int) then ((a2h.f ((a0c x0 (wrap64 (x22 - (wrap64 ((IntKind.u64.wrap (wrap64 (x20 + x21))) / 2))))).f0) ((a0c x0 (wrap64 (x22 - (wrap64 ((IntKind.u64.wrap (wrap64 (x20 + x21))) / 2))))).f1) ((a0c x0 (wrap64 (x22 - (wrap64 ((IntKind.u64.wrap (wrap64 (x20 + x21))) / 2))))).f2) ((a0c x0 (wrap64 (x22 - (wrap64 ((IntKind.u64.wrap (wrap64 (x20 + x21))) / 2))))).f3) ((a0c x0 (wrap64 ((IntKind.u64.wrap (wrap64 (x20 + x21))) / 2))).f0) ((a0c x0 (wrap64 ((IntKind.u64.wrap (wrap64 (x20 + x21))) / 2))).f1) ((a0c x0 (wrap64 ((IntKind.u64.wrap (wrap64 (x20 + x21))) / 2))).f2) ((a0c x0 (wrap64 ((IntKind.u64.wrap (wrap64 (x20 + x21))) / 2))).f3)).bind fun t167 => (if t167 < 0 then (a0b.l4 k x0 x1 x2 x3 x18 x19 x20 (wrap64 ((IntKind.u64.wrap (wrap64 (x20 + x21))) / 2)) x22) else (a0b.l4 k x0 x1 x2 x3 x18 x19 (wrap64 ((wrap64 ((IntKind.u64.wrap (wrap64 (x20 + x21))) / 2)) + 1)) x21 x22))) else (none)) else (none)) else (none)) else (none)) else (if x20 < x2 then (a0b.j6 k x0 x1 x2 x3 x18 x20 (wrap64 (x19 - x20)) (decide (x2 < (wrap64 (x19 - x20))))) else (a0b.j6 k x0 x1 x2 x3 x18 x20 (wrap64 (x19 - x20)) false))
def a0b.j6 : Nat → List (S26) → Int → Int → Int → Int → Int → Int → Bool → Option ((List (S26)))
 | 0, _, _, _, _, _, _, _, _ => none
 | k + 1, x0, x1, x2, x3, x18, x20, x24, x185 => if x185 = true then ((a0l.f k x0 x20 x2 x24).bind fun t168 => (a0b.j7 k t168 x1 x3 x18 x20 x24)) else (a0b.j7 k x0 x1 x3 x18 x20 x24)
def a0b.j7 : Nat → List (S26) → Int → Int → Int → Int → Int → Option ((List (S26)))
 | 0, _, _, _, _, _, _ => none
 | k + 1, x0, x1, x3, x18, x20, x24 => if x1 < x20 then (a0b.j8 k x0 x1 x3 x18 x20 x24 (decide (x20 < x18))) else (a0b.j8 k x0 x1 x3 x18 x20 x24 false)
def a0b.j8 : Nat → List (S26) → Int → Int → Int → Int → Int → Bool → Option ((List (S26)))
 | 0, _, _, _, _, _, _, _ => none
 | k + 1, x0, x1, x3, x18, x20, x24, x199 => if x199 = true then ((a0b.f k x0 x1 x20 x18).bind fun t169 => (a0b.j9 k t169 x3 x18 x24)) else (a0b.j9 k x0 x3 x18 x24)
def a0b.j9 : Nat → List (S26) → Int → Int → Int → Option ((List (S26)))
 | 0, _, _, _, _ => none
 | k + 1, x0, x3, x18, x24 => if x18 < x24 then (if x24 < x3 then ((a0b.f k x0 x18 x24 x3).bind fun t170 => (some t170)) else (some x0)) else (some x0)
def a0b.f : Nat → List (S26) → Int → Int → Int → Option ((List (S26)))
 | 0, _, _, _, _ => none
 | k + 1, l0, a1, a2, a3 => if (wrap64 (a2 - a1)) = 1 then (a0b.l0 k l0 a1 a2 a3) else (if (wrap64 (a3 - a2)) = 1 then (a0b.l2 k l0 a2 a1 a2) else (if a2 > (wrap64 ((IntKind.u64.wrap (wrap64 (a1 + a3))) / 2)) then (a0b.j4 k l0 a1 a2 a3 (wrap64 ((IntKind.u64.wrap (wrap64 (a1 + a3))) / 2)) (wrap64 ((wrap64 ((IntKind.u64.wrap (wrap64 (a1 + a3))) / 2)) + a2)) (wrap64 ((wrap64 ((wrap64 ((IntKind.u64.wrap (wrap64 (a1 + a3))) / 2)) + a2)) - a3)) (wrap64 ((IntKind.u64.wrap (wrap64 (a1 + a3))) / 2))) else (a0b.j4 k l0 a1 a2 a3 (wrap64 ((IntKind.u64.wrap (wrap64 (a1 + a3))) / 2)) (wrap64 ((wrap64 ((IntKind.u64.wrap (wrap64 (a1 + a3))) / 2)) + a2)) a1 a2)))
end
theorem a0b.a1k : ∀ k, (∀ y0 y1 y2 y3, LeO (a0b.f k y0 y1 y2 y3) (a0b.f (k + 1) y0 y1 y2 y3)) ∧ (∀ y0 y1 y2 y3, LeO (a0b.l0 k y0 y1 y2 y3) (a0b.l0 (k + 1) y0 y1 y2 y3)) ∧ (∀ y0 y1 y2, LeO (a0b.l1 k y0 y1 y2) (a0b.l1 (k + 1) y0 y1 y2)) ∧ (∀ y0 y1 y2 y3, LeO (a0b.l2 k y0 y1 y2 y3) (a0b.l2 (k + 1) y0 y1 y2 y3)) ∧ (∀ y0 y1 y2, LeO (a0b.l3 k y0 y1 y2) (a0b.l3 (k + 1) y0 y1 y2)) ∧ (∀ y0 y1 y2 y3 y4 y5 y6 y7, LeO (a0b.j4 k y0 y1 y2 y3 y4 y5 y6 y7) (a0b.j4 (k + 1) y0 y1 y2 y3 y4 y5 y6 y7)) ∧ (∀ y0 y1 y2 y3 y4 y5 y6 y7 y8, LeO (a0b.l4 k y0 y1 y2 y3 y4 y5 y6 y7 y8) (a0b.l4 (k + 1) y0 y1 y2 y3 y4 y5 y6 y7 y8)) ∧ (∀ y0 y1 y2 y3 y4 y5 y6 y7, LeO (a0b.j6 k y0 y1 y2 y3 y4 y5 y6 y7) (a0b.j6 (k + 1) y0 y1 y2 y3 y4 y5 y6 y7)) ∧ (∀ y0 y1 y2 y3 y4 y5, LeO (a0b.j7 k y0 y1 y2 y3 y4 y5) (a0b.j7 (k + 1) y0 y1 y2 y3 y4 y5)) ∧ (∀ y0 y1 y2 y3 y4 y5 y6, LeO (a0b.j8 k y0 y1 y2 y3 y4 y5 y6) (a0b.j8 (k + 1) y0 y1 y2 y3 y4 y5 y6)) ∧ (∀ y0 y1 y2 y3, LeO (a0b.j9 k y0 y1 y2 y3) (a0b.j9 (k + 1) y0 y1 y2 y3))
 | 0 => ⟨fun _ _ _ _ r h => by simp [a0b.f] at h, fun _ _ _ _ r h => by simp [a0b.l0] at h, fun _ _ _ r h => by simp [a0b.l1] at h, fun _ _ _ _ r h => by simp [a0b.l2] at h, fun _ _ _ r h => by simp [a0b.l3] at h, fun _ _ _ _ _ _ _ _ r h => by simp [a0b.j4] at h, fun _ _ _ _ _ _ _ _ _ r h => by simp [a0b.l4] at h, fun _ _ _ _ _ _ _ _ r h => by simp [a0b.j6] at h, fun _ _ _ _ _ _ r h => by simp [a0b.j7] at h, fun _ _ _ _ _ _ _ r h => by simp [a0b.j8] at h, fun _ _ _ _ r h => by simp [a0b.j9] at h⟩
 | k + 1 => by
  obtain ⟨ih0, ih1, ih2, ih3, ih4, ih5, ih6, ih7, ih8, ih9, ih10⟩ := a0b.a1k k
  refine ⟨?_, ?_, ?_, ?_, ?_, ?_, ?_, ?_, ?_, ?_, ?_⟩
  ·intro y0 y1 y2 y3
   unfold a0b.f
   with_reducible (repeat' first | apply ih0 | apply ih1 | apply ih2 | apply ih3 | apply ih4 | apply ih5 | apply ih6 | apply ih7 | apply ih8 | apply ih9 | apply ih10 | apply a0l.mono | apply LeO.refl | apply LeO.none | apply LeO.ite | refine LeO.bind ?_ (fun _ => ?_))
  ·intro y0 y1 y2 y3
   unfold a0b.l0
   with_reducible (repeat' first | apply ih0 | apply ih1 | apply ih2 | apply ih3 | apply ih4 | apply ih5 | apply ih6 | apply ih7 | apply ih8 | apply ih9 | apply ih10 | apply a0l.mono | apply LeO.refl | apply LeO.none | apply LeO.ite | refine LeO.bind ?_ (fun _ => ?_))
  ·intro y0 y1 y2
   unfold a0b.l1
   with_reducible (repeat' first | apply ih0 | apply ih1 | apply ih2 | apply ih3 | apply ih4 | apply ih5 | apply ih6 | apply ih7 | apply ih8 | apply ih9 | apply ih10 | apply a0l.mono | apply LeO.refl | apply LeO.none | apply LeO.ite | refine LeO.bind ?_ (fun _ => ?_))
  ·intro y0 y1 y2 y3
   unfold a0b.l2
   with_reducible (repeat' first | apply ih0 | apply ih1 | apply ih2 | apply ih3 | apply ih4 | apply ih5 | apply ih6 | apply ih7 | apply ih8 | apply ih9 | apply ih10 | apply a0l.mono | apply LeO.refl | apply LeO.none | apply LeO.ite | refine LeO.bind ?_ (fun _ => ?_))
  ·intro y0 y1 y2
   unfold a0b.l3
   with_reducible (repeat' first | apply ih0 | apply ih1 | apply ih2 | apply ih3 | apply ih4 | apply ih5 | apply ih6 | apply ih7 | apply ih8 | apply ih9 | apply ih10 | apply a0l.mono | apply LeO.refl | apply LeO.none | apply LeO.ite | refine LeO.bind ?_ (fun _ => ?_))
  ·intro y0 y1 y2 y3 y4 y5 y6 y7
   unfold a0b.j4
   with_reducible (repeat' first | apply ih0 | apply ih1 | apply ih2 | apply ih3 | apply ih4 | apply ih5 | apply ih6 | apply ih7 | apply ih8 | apply ih9 | apply ih10 | apply a0l.mono | apply LeO.refl | apply LeO.none | apply LeO.ite | refine LeO.bind ?_ (fun _ => ?_))
  ·intro y0 y1 y2 y3 y4 y5 y6 y7 y8
   unfold a0b.l4
   with_reducible (repeat' first | apply ih0 | apply ih1 | apply ih2 | apply ih3 | apply ih4 | apply ih5 | apply ih6 | apply ih7 | apply ih8 | apply ih9 | apply ih10 | apply a0l.mono | apply LeO.refl | apply LeO.none | apply LeO.ite | refine LeO.bind ?_ (fun _ => ?_))
  ·intro y0 y1 y2 y3 y4 y5 y6 y7
   unfold a0b.j6
   with_reducible (repeat' first | apply ih0 | apply ih1 | apply ih2 | apply ih3 | apply ih4 | apply ih5 | apply ih6 | apply ih7 | apply ih8 | apply ih9 | apply ih10 | apply a0l.mono | apply LeO.refl | apply LeO.none | apply LeO.ite | refine LeO.bind ?_ (fun _ => ?_))
  ·intro y0 y1 y2 y3 y4 y5
   unfold a0b.j7
   with_reducible (repeat' first | apply ih0 | apply ih1 | apply ih2 | apply ih3 | apply ih4 | apply ih5 | apply ih6 | apply ih7 | apply ih8 | apply ih9 | apply ih10 | apply a0l.mono | apply LeO.refl | apply LeO.none | apply LeO.ite | refine LeO.bind ?_ (fun _ => ?_))
  ·intro y0 y1 y2 y3 y4 y5 y6
   unfold a0b.j8
   with_reducible (repeat' first | apply ih0 | apply ih1 | apply ih2 | apply ih3 | apply ih4 | apply ih5 | apply ih6 | apply ih7 | apply ih8 | apply ih9 | apply ih10 | apply a0l.mono | apply LeO.refl | apply LeO.none | apply LeO.ite | refine LeO.bind ?_ (fun _ => ?_))
  ·intro y0 y1 y2 y3
   unfold a0b.j9
   with_reducible (repeat' first | apply ih0 | apply ih1 | apply ih2 | apply ih3 | apply ih4 | apply ih5 | apply ih6 | apply ih7 | apply ih8 | apply ih9 | apply ih10 | apply a0l.mono | apply LeO.refl | apply LeO.none | apply LeO.ite | refine LeO.bind ?_ (fun _ => ?_))
theorem a0b.mono : ∀ a0 a1 a2 a3 k, LeO (a0b.f k a0 a1 a2 a3) (a0b.f (k + 1) a0 a1 a2 a3) := by
 intro a0 a1 a2 a3 k
 obtain ⟨ih0, ih1, ih2, ih3, ih4, ih5, ih6, ih7, ih8, ih9, ih10⟩ := a0b.a1k k
 exact ih0 a0 a1 a2 a3
def a0b.T5 : Bool × List (List Nat × List Nat) := (true, [([], []), ([], []), ([], []), ([1, 2], [1, 2]), ([3], [3]), ([], []), ([], []), ([5, 6], [5, 6]), ([7], [7]), ([0, 4, 8], [0, 4, 8]), ([9], [9])])
def a0b.B5 : List Nat := [0, 0, 0, 6, 14, 0, 0, 96, 224, 511, 1023]
theorem a0b.tab5 : rtab .any (opsOf Try.f67 5) = a0b.T5 := by kernel_rfl
theorem a0b.b3v : a3w a0b.T5.2 a0b.B5 = true := by kernel_rfl
def a0b.T11 : Bool × List (List Nat × List Nat) := (true, [([], []), ([], []), ([], []), ([], []), ([3], [3]), ([], []), ([], []), ([6], [6]), ([5, 7], [5, 7]), ([8], [8]), ([], []), ([], []), ([10, 11], [10, 11]), ([12], [12]), ([0, 1, 0, 1, 5, 6, 7, 8, 9, 13], [0, 1]), ([14, 9, 0, 1, 5, 6, 7, 8, 9, 13], [9, 14]), ([2, 4, 0, 1, 2, 3, 4, 5, 6, 7, 8, 9, 10, 11, 12, 13, 14, 15], [2, 4]), ([16, 13, 15, 0, 1, 2, 3, 4, 5, 6, 7, 8, 9, 10, 11, 12, 13, 14, 15], [13, 16])])
def a0b.B11 : List Nat := [0, 0, 0, 0, 8, 0, 0, 64, 224, 480, 0, 0, 3072, 7168, 16355, 32739, 65535, 131071]
theorem a0b.b5p : rtab .any (opsOf Try.f67 11) = a0b.T11 := by kernel_rfl
theorem a0b.b4w : a3w a0b.T11.2 a0b.B11 = true := by kernel_rfl
def a0b.T17 : Bool × List (List Nat × List Nat) := (true, [([], []), ([], []), ([], []), ([1, 2], [1, 2]), ([3], [3]), ([], []), ([], []), ([5, 6], [5, 6]), ([7], [7]), ([0, 4, 8], [0, 4, 8]), ([9], [9]), ([10], [10])])
def a0b.B17 : List Nat := [0, 0, 0, 6, 14, 0, 0, 96, 224, 511, 1023, 2047]
theorem a0b.b3w : rtab .any (opsOf Try.f67 17) = a0b.T17 := by kernel_rfl
theorem a0b.b2q : a3w a0b.T17.2 a0b.B17 = true := by kernel_rfl
def a0b.T23 : Bool × List (List Nat × List Nat) := (true, [([], []), ([], []), ([], []), ([], []), ([3], [3]), ([], []), ([], []), ([6], [6]), ([5, 7], [5, 7]), ([8], [8]), ([], []), ([], []), ([10, 11], [10, 11]), ([12], [12]), ([0, 1, 0, 1, 5, 6, 7, 8, 9, 13], [0, 1]), ([14, 9, 0, 1, 5, 6, 7, 8, 9, 13], [9, 14]), ([2, 4, 0, 1, 2, 3, 4, 5, 6, 7, 8, 9, 10, 11, 12, 13, 14, 15], [2, 4]), ([16, 13, 15, 0, 1, 2, 3, 4, 5, 6, 7, 8, 9, 10, 11, 12, 13, 14, 15], [13, 16])])
def a0b.B23 : List Nat := [0, 0, 0, 0, 8, 0, 0, 64, 224, 480, 0, 0, 3072, 7168, 16355, 32739, 65535, 131071]
theorem a0b.b5q : rtab .any (opsOf Try.f67 23) = a0b.T23 := by kernel_rfl
theorem a0b.b4x : a3w a0b.T23.2 a0b.B23 = true := by kernel_rfl
def a0b.T35 : Bool × List (List Nat × List Nat) := (true, [([], []), ([], []), ([], []), ([], []), ([2, 3], [2, 3]), ([1, 4], [1, 4]), ([5], [5]), ([], []), ([], []), ([7, 8], [7, 8]), ([9], [9]), ([0, 6, 10], [0, 6, 10]), ([11], [11]), ([12], [12])])
def a0b.B35 : List Nat := [0, 0, 0, 0, 12, 30, 62, 0, 0, 384, 896, 2047, 4095, 8191]
theorem a0b.b3x : rtab .any (opsOf Try.f67 35) = a0b.T35 := by kernel_rfl
theorem a0b.b2r : a3w a0b.T35.2 a0b.B35 = true := by kernel_rfl
set_option maxHeartbeats 8000000 in
set_option maxRecDepth 100000 in
theorem a0b.calls (k : Nat) : ∀ (P0_ : Nat → Prop) (u9000_ : Value) (l0 : List (S26)) (a1 a2 a3 : Int)  (r : List (S26)) (w0 w : World) (hB : Below w0.heap.size w0 w) (ho0 : Kd.R k26 26 w w0.heap.size P0_ u9000_ l0) (h : a0b.f k l0 a1 a2 a3 = some r),
  Calls Try.prog 67 #[u9000_, .int .i64 a1, .int .i64 a2, .int .i64 a3, .func (.func 44) #[] #[]] w fun e w' => e = .returned (.tuple #[]) ∧ Kd.R k26 26 w' w0.heap.size (fun k_ => (P0_ k_ ∨ w.heap.size ≤ k_)) u9000_ r ∧ Below w0.heap.size w0 w' ∧ Kept w w' (fun k_ => P0_ k_) := by
 induction k using Nat.strongRecOn with
 | _ k ih =>
 intro P0_ u9000_ l0 a1 a2 a3 r w0 w hB ho0 h
 cases k with
 | zero => exact absurd h (by simp [a0b.f])
 | succ k =>
 simp only [a0b.f] at h
 have hu26 := Try.underlying26
 have HO0 := am_ (show Kd.R k26 26 w w0.heap.size (fun k_ => (P0_ k_ ∨ w.heap.size ≤ k_)) u9000_ l0 from Kd.a0z ho0 (fun k_ hk => (.inl hk)))
 have HK := am_ (Kept.refl w (fun k_ => P0_ k_))
 have HW0 := am_ hB.size
 have HB := am_ hB
 clear hB
 have H : (if (wrap64 (a2 - a1)) = 1 then (a0b.l0 k l0 a1 a2 a3) else (if (wrap64 (a3 - a2)) = 1 then (a0b.l2 k l0 a2 a1 a2) else (if a2 > (wrap64 ((IntKind.u64.wrap (wrap64 (a1 + a3))) / 2)) then (a0b.j4 k l0 a1 a2 a3 (wrap64 ((IntKind.u64.wrap (wrap64 (a1 + a3))) / 2)) (wrap64 ((wrap64 ((IntKind.u64.wrap (wrap64 (a1 + a3))) / 2)) + a2)) (wrap64 ((wrap64 ((wrap64 ((IntKind.u64.wrap (wrap64 (a1 + a3))) / 2)) + a2)) - a3)) (wrap64 ((IntKind.u64.wrap (wrap64 (a1 + a3))) / 2))) else (a0b.j4 k l0 a1 a2 a3 (wrap64 ((IntKind.u64.wrap (wrap64 (a1 + a3))) / 2)) (wrap64 ((wrap64 ((IntKind.u64.wrap (wrap64 (a1 + a3))) / 2)) + a2)) a1 a2)))) = some r := h
 clear h
 by_cases c6 : (wrap64 (a2 - a1)) = 1
 ·rw [if_pos c6] at H
  have c6b0 : ((wrap64 (a2 - a1)) == 1) = true := beq_iff_eq.mpr c6
  have c6b1 : ((wrap64 (a2 - a1)) != 1) = false := bne_eq_false_iff_eq.mpr c6
  clear c6
  have H' := am_ H
  clear H
  go_enter Try.func67, Try.ntmps67
  go_wp2
  go_loopg [10, 11] k (fun kq v10 v11 w' => ∃ (x10_1 : Int) (x11_1 : Int), v10 = .int .i64 x10_1 ∧ v11 = .int .i64 x11_1 ∧ Aside0 (a0b.l0 kq l0 a1 x10_1 x11_1 = some r) ∧ Aside0 (kq ≤ k) ∧ Aside0 (Kd.R k26 26 w' w0.heap.size (fun k_ => (P0_ k_ ∨ w.heap.size ≤ k_)) u9000_ l0) ∧ Aside0 (Kept w w' (fun k_ => P0_ k_)) ∧ Aside0 (Below w0.heap.size w0 w'))
  case atStart => exact ⟨(a2), (a3), qs_, qs_, H', ⟨Nat.le_refl _⟩, ⟨by (with_reducible repeat (first | apply Kd.a0n | apply Kd.a0o | apply Kd.a0m)); exact HO0.out⟩, ⟨by repeat (first | (with_reducible first | exact HK.out | apply Kept.alloc | apply Kept.drewN | apply Kept.drew) | exact HK.out)⟩, ⟨qb_⟩⟩
  case round =>
   clear H'
   try clear p2
   try clear c6
   try clear c6b0
   try clear c6b1
   try clear p6
   obtain ⟨x10_1, x11_1, rfl, rfl, HA, HK1, HO_0, HK, HB⟩ := hrel
   cases gk with
   | zero => exact absurd HA.out (by simp [a0b.l0])
   | succ k1 =>
    have H := HA.out
    clear HA
    simp only [a0b.l0] at H
    by_cases c7 : x10_1 < x11_1
    ·rw [if_pos c7] at H
     have c7b0 : decide (x10_1 < x11_1) = true := decide_eq_true c7
     clear c7
     obtain ⟨ji8, hji8⟩ : ∃ j_ : Int, (wrap64 ((IntKind.u64.wrap (wrap64 (x10_1 + x11_1))) / 2)) = j_ := ⟨_, rfl⟩
     replace H : (if 0 ≤ (ji8) then (if (ji8) < (l0.length : Int) then (if 0 ≤ a1 then (if a1 < (l0.length : Int) then ((a2h.f ((a0c l0 (ji8)).f0) ((a0c l0 (ji8)).f1) ((a0c l0 (ji8)).f2) ((a0c l0 (ji8)).f3) ((a0c l0 a1).f0) ((a0c l0 a1).f1) ((a0c l0 a1).f2) ((a0c l0 a1).f3)).bind fun t153 => (if t153 < 0 then (a0b.l0 k1 l0 a1 (wrap64 ((ji8) + 1)) x11_1) else (a0b.l0 k1 l0 a1 x10_1 ji8))) else (none)) else (none)) else (none)) else (none)) = some r := by first | (rw [hji8] at H; exact H) | (simp only [hji8] at H ⊢; exact H)
     have hji8w : (IntKind.i64.wrap ((IntKind.u64.wrap (wrap64 (x10_1 + x11_1))) / 2)) = ji8 := (a3k _).trans hji8
     by_cases c9 : 0 ≤ (ji8)
     ·rw [if_pos c9] at H
      have c9b0 : decide (0 ≤ (ji8)) = true := decide_eq_true c9
      clear c9
      by_cases c10 : (ji8) < (l0.length : Int)
      ·rw [if_pos c10] at H
       have c10b0 : decide ((ji8) < (l0.length : Int)) = true := decide_eq_true c10
       clear c10
       by_cases c11 : 0 ≤ a1
       ·rw [if_pos c11] at H
        have c11b0 : decide (0 ≤ a1) = true := decide_eq_true c11
        clear c11
        by_cases c12 : a1 < (l0.length : Int)
        ·rw [if_pos c12] at H
         have c12b0 : decide (a1 < (l0.length : Int)) = true := decide_eq_true c12
         clear c12
         replace H := bm_ H
         obtain ⟨t153, A130, H⟩ := H
         replace H : (if t153 < 0 then (a0b.l0 k1 l0 a1 (wrap64 ((ji8) + 1)) x11_1) else (a0b.l0 k1 l0 a1 x10_1 ji8)) = some r := H
         have A13 := am_ A130
         clear A130
         by_cases c14 : t153 < 0
         ·rw [if_pos c14] at H
          have c14b0 : decide (t153 < 0) = true := decide_eq_true c14
          clear c14
          have H' := am_ H
          clear H
          try go_wp2
          replace HO_0 := am_ (Kd.a0m HO_0.out)
          replace HK := am_ (Kept.drew HK.out)
          replace HB := am_ (ld_ HB.out)
          obtain ⟨Ao16, co16, eo16⟩ := Kd.a1v HO_0.out
          (first | subst eo16 | (injection eo16 with f1_ f2_ f3_; have f4_ := f1_.symm; have f5_ := f3_.symm; clear f1_ f2_ f3_; subst f4_; subst f5_))
          have p151 : 0 ≤ ((ji8) : Int) := ot_
          have q151 : (ji8) < (l0.length : Int) := ot_
          obtain ⟨ad151, e151, hx151_0, hx151_1, hx151_2, hx151_3⟩ := a3i (Kd.a0p HO_0.out).2.2 (ji8) p151 q151
          cases e151
          replace p151 := eq_true p151
          replace q151 := eq_true q151
          have p152 : 0 ≤ (a1 : Int) := ot_
          have q152 : a1 < (l0.length : Int) := ot_
          obtain ⟨ad152, e152, hx152_0, hx152_1, hx152_2, hx152_3⟩ := a3i (Kd.a0p HO_0.out).2.2 a1 p152 q152
          obtain rfl : ad151 = ad152 := (by injection e152)
          replace p152 := eq_true p152
          replace q152 := eq_true q152
          refine a3g (n := 11) (S := fun w' => w'.cell? (ad151.add (((ji8)).toNat * 4)) = some (.int .i64 ((a0c l0 (ji8)).f0)) ∧ w'.cell? ⟨(ad151.add (((ji8)).toNat * 4)).block, (ad151.add (((ji8)).toNat * 4)).off + 1, none⟩ = some (.int .i64 ((a0c l0 (ji8)).f1)) ∧ w'.cell? ⟨(ad151.add (((ji8)).toNat * 4)).block, (ad151.add (((ji8)).toNat * 4)).off + 2, none⟩ = some (.int .i64 ((a0c l0 (ji8)).f2)) ∧ w'.cell? ⟨(ad151.add (((ji8)).toNat * 4)).block, (ad151.add (((ji8)).toNat * 4)).off + 3, none⟩ = some (.int .i64 ((a0c l0 (ji8)).f3)) ∧ w'.cell? (ad151.add ((a1).toNat * 4)) = some (.int .i64 ((a0c l0 a1).f0)) ∧ w'.cell? ⟨(ad151.add ((a1).toNat * 4)).block, (ad151.add ((a1).toNat * 4)).off + 1, none⟩ = some (.int .i64 ((a0c l0 a1).f1)) ∧ w'.cell? ⟨(ad151.add ((a1).toNat * 4)).block, (ad151.add ((a1).toNat * 4)).off + 2, none⟩ = some (.int .i64 ((a0c l0 a1).f2)) ∧ w'.cell? ⟨(ad151.add ((a1).toNat * 4)).block, (ad151.add ((a1).toNat * 4)).off + 3, none⟩ = some (.int .i64 ((a0c l0 a1).f3))) (ds := []) #[i_,i_,i_,i_,i_,i_,i_,i_,i_,i_,i_] (by kernel_rfl) rfl rfl ⟨hx151_0, hx151_1, hx151_2, hx151_3, hx152_0, hx152_1, hx152_2, hx152_3⟩ (fun hHeld => ?_); refine a2l a0b.tab5 a0b.b3v (fun HT_ HW_ => ?_)
          generalize wr.drew = w15 at HO_0 HK HB hx151_0 hx151_1 hx151_2 hx151_3 hx152_0 hx152_1 hx152_2 hx152_3 hHeld ⊢
          refine qpu_ 0 (some 40) #[o_,i_,i_,i_,i_,i_,i_,i_,i_,i_,i_] ?_
          refine qpu_ 1 (some 41) #[o_,o_,i_,i_,i_,i_,i_,i_,i_,i_,i_] ?_
          refine qpu_ 2 (some 42) #[o_,o_,o_,i_,i_,i_,i_,i_,i_,i_,i_] ?_
          refine qpu_ 3 (some 43) #[o_,o_,o_,o_,i_,i_,i_,i_,i_,i_,i_] ?_
          refine qpu_ 5 (some 45) #[o_,o_,o_,o_,i_,o_,i_,i_,i_,i_,i_] ?_
          refine qpu_ 6 (some 46) #[o_,o_,o_,o_,i_,o_,o_,i_,i_,i_,i_] ?_
          refine qpu_ 7 (some 47) #[o_,o_,o_,o_,i_,o_,o_,o_,i_,i_,i_] ?_
          refine a2g (i := 4) (N := some 44) (v := ?_) (a' := ?_) #[o_,o_,o_,o_,o_,o_,o_,o_,i_,i_,i_] rfl rfl (a1r HT_.out HW_.out (by kernel_rfl)) (fun _ _ _ h => h) (Or.inl ⟨by rfl, ?_⟩) hHeld ?_ ?_
          rotate_left
          ·rintro w' ⟨s0, s1, s2, s3, s4, s5, s6, s7⟩
           go_simp
           with_reducible rfl
          rotate_left
          ·exact qp_
          refine a2g (i := 8) (N := some 48) (v := ?_) (a' := ?_) #[o_,o_,o_,o_,o_,o_,o_,o_,o_,i_,i_] rfl rfl (a1r HT_.out HW_.out (by kernel_rfl)) (fun _ _ _ h => h) (Or.inl ⟨by rfl, ?_⟩) hHeld ?_ ?_
          rotate_left
          ·rintro w' ⟨s0, s1, s2, s3, s4, s5, s6, s7⟩
           go_simp
           with_reducible rfl
          rotate_left
          ·exact qp_
          refine one_ (i := 9) (N := some 49) #[o_,o_,o_,o_,o_,o_,o_,o_,o_,o_,i_] rfl rfl (a3h HT_.out (by kernel_rfl)) (by decide) (fun K hK => ?_)
          refine a5r Try.func44 (by kernel_rfl) rfl #[.agg #[.int .i64 ((a0c l0 (ji8)).f0), .int .i64 ((a0c l0 (ji8)).f1), .int .i64 ((a0c l0 (ji8)).f2), .int .i64 ((a0c l0 (ji8)).f3)], .agg #[.int .i64 ((a0c l0 a1).f0), .int .i64 ((a0c l0 a1).f1), .int .i64 ((a0c l0 a1).f2), .int .i64 ((a0c l0 a1).f3)]] (by rfl) rfl rfl (by rfl) (by (try simp only [List.map_toArray, List.map_cons, List.map_nil]); first | done | (simp only [hji8]; rfl) | rfl | (simp only [List.length_drop, List.length_take]; rfl)) ?_
          with_reducible refine (a2h.calls ((a0c l0 (ji8)).f0) ((a0c l0 (ji8)).f1) ((a0c l0 (ji8)).f2) ((a0c l0 (ji8)).f3) ((a0c l0 a1).f0) ((a0c l0 a1).f1) ((a0c l0 a1).f2) ((a0c l0 a1).f3) t153 _ A13.out).mono ?_
          rintro e w17 ⟨rfl, hb⟩
          have HS0_ := (hb.cell (World.block_lt_of_cell? _ _ (hHeld.1))).trans (hHeld.1)
          have HS1_ := (hb.cell (World.block_lt_of_cell? _ _ (hHeld.2.1))).trans (hHeld.2.1)
          have HS2_ := (hb.cell (World.block_lt_of_cell? _ _ (hHeld.2.2.1))).trans (hHeld.2.2.1)
          have HS3_ := (hb.cell (World.block_lt_of_cell? _ _ (hHeld.2.2.2.1))).trans (hHeld.2.2.2.1)
          have HS4_ := (hb.cell (World.block_lt_of_cell? _ _ (hHeld.2.2.2.2.1))).trans (hHeld.2.2.2.2.1)
          have HS5_ := (hb.cell (World.block_lt_of_cell? _ _ (hHeld.2.2.2.2.2.1))).trans (hHeld.2.2.2.2.2.1)
          have HS6_ := (hb.cell (World.block_lt_of_cell? _ _ (hHeld.2.2.2.2.2.2.1))).trans (hHeld.2.2.2.2.2.2.1)
          have HS7_ := (hb.cell (World.block_lt_of_cell? _ _ (hHeld.2.2.2.2.2.2.2))).trans (hHeld.2.2.2.2.2.2.2)
          refine ⟨_, rfl, ?_⟩
          replace HO_0 := qrb_ HO_0 hb
          replace HK := am_ (Kept.below (S := (fun k_ => P0_ k_)) (by repeat (first | (with_reducible first | exact HK.out | apply Kept.alloc | apply Kept.drewN | apply Kept.drew) | exact HK.out)) hb)
          replace HB := qbs_ hb
          (try clear hb)
          (try clear hb2)
          (try clear hk)
          (try clear hi)
          refine hK.out _ _ ⟨HS0_, HS1_, HS2_, HS3_, HS4_, HS5_, HS6_, HS7_⟩ (fun hHeld => ?_)
          clear hK K
          refine a4b (a' := ?_) ?_ ?_
          rotate_left
          ·show Act.put _ (some 49) _ = _
           exact qp_
          refine qpu_ 10 (some 50) #[o_,o_,o_,o_,o_,o_,o_,o_,o_,o_,o_] ?_
          refine a3o (a3b HT_.out (by kernel_rfl)) ?_
          try go_wp2
          go_roundg k1
          case measure => have := HK1.out; omega
          case rel => exact ⟨(wrap64 ((ji8) + 1)), (x11_1), (by first | rfl | (simp; done) | (simp only [← hji8] <;> (first | rfl | simp)) | (simp [*]; done)), qs_, H', ⟨by have := HK1.out; omega⟩, ⟨by (with_reducible repeat (first | apply Kd.a0n | apply Kd.a0o | apply Kd.a0m)); exact HO_0.out⟩, ⟨by repeat (first | (with_reducible first | exact HK.out | apply Kept.alloc | apply Kept.drewN | apply Kept.drew) | exact HK.out)⟩, ⟨qb_⟩⟩
         ·rw [if_neg c14] at H
          have c14b0 : decide (t153 < 0) = false := decide_eq_false c14
          clear c14
          have H' := am_ H
          clear H
          try go_wp2
          replace HO_0 := am_ (Kd.a0m HO_0.out)
          replace HK := am_ (Kept.drew HK.out)
          replace HB := am_ (ld_ HB.out)
          obtain ⟨Ao19, co19, eo19⟩ := Kd.a1v HO_0.out
          (first | subst eo19 | (injection eo19 with f1_ f2_ f3_; have f4_ := f1_.symm; have f5_ := f3_.symm; clear f1_ f2_ f3_; subst f4_; subst f5_))
          have p151 : 0 ≤ ((ji8) : Int) := ot_
          have q151 : (ji8) < (l0.length : Int) := ot_
          obtain ⟨ad151, e151, hx151_0, hx151_1, hx151_2, hx151_3⟩ := a3i (Kd.a0p HO_0.out).2.2 (ji8) p151 q151
          cases e151
          replace p151 := eq_true p151
          replace q151 := eq_true q151
          have p152 : 0 ≤ (a1 : Int) := ot_
          have q152 : a1 < (l0.length : Int) := ot_
          obtain ⟨ad152, e152, hx152_0, hx152_1, hx152_2, hx152_3⟩ := a3i (Kd.a0p HO_0.out).2.2 a1 p152 q152
          obtain rfl : ad151 = ad152 := (by injection e152)
          replace p152 := eq_true p152
          replace q152 := eq_true q152
          refine a3g (n := 11) (S := fun w' => w'.cell? (ad151.add (((ji8)).toNat * 4)) = some (.int .i64 ((a0c l0 (ji8)).f0)) ∧ w'.cell? ⟨(ad151.add (((ji8)).toNat * 4)).block, (ad151.add (((ji8)).toNat * 4)).off + 1, none⟩ = some (.int .i64 ((a0c l0 (ji8)).f1)) ∧ w'.cell? ⟨(ad151.add (((ji8)).toNat * 4)).block, (ad151.add (((ji8)).toNat * 4)).off + 2, none⟩ = some (.int .i64 ((a0c l0 (ji8)).f2)) ∧ w'.cell? ⟨(ad151.add (((ji8)).toNat * 4)).block, (ad151.add (((ji8)).toNat * 4)).off + 3, none⟩ = some (.int .i64 ((a0c l0 (ji8)).f3)) ∧ w'.cell? (ad151.add ((a1).toNat * 4)) = some (.int .i64 ((a0c l0 a1).f0)) ∧ w'.cell? ⟨(ad151.add ((a1).toNat * 4)).block, (ad151.add ((a1).toNat * 4)).off + 1, none⟩ = some (.int .i64 ((a0c l0 a1).f1)) ∧ w'.cell? ⟨(ad151.add ((a1).toNat * 4)).block, (ad151.add ((a1).toNat * 4)).off + 2, none⟩ = some (.int .i64 ((a0c l0 a1).f2)) ∧ w'.cell? ⟨(ad151.add ((a1).toNat * 4)).block, (ad151.add ((a1).toNat * 4)).off + 3, none⟩ = some (.int .i64 ((a0c l0 a1).f3))) (ds := []) #[i_,i_,i_,i_,i_,i_,i_,i_,i_,i_,i_] (by kernel_rfl) rfl rfl ⟨hx151_0, hx151_1, hx151_2, hx151_3, hx152_0, hx152_1, hx152_2, hx152_3⟩ (fun hHeld => ?_); refine a2l a0b.tab5 a0b.b3v (fun HT_ HW_ => ?_)
          generalize wr.drew = w18 at HO_0 HK HB hx151_0 hx151_1 hx151_2 hx151_3 hx152_0 hx152_1 hx152_2 hx152_3 hHeld ⊢
          refine qpu_ 0 (some 40) #[o_,i_,i_,i_,i_,i_,i_,i_,i_,i_,i_] ?_
          refine qpu_ 1 (some 41) #[o_,o_,i_,i_,i_,i_,i_,i_,i_,i_,i_] ?_
          refine qpu_ 2 (some 42) #[o_,o_,o_,i_,i_,i_,i_,i_,i_,i_,i_] ?_
          refine qpu_ 3 (some 43) #[o_,o_,o_,o_,i_,i_,i_,i_,i_,i_,i_] ?_
          refine qpu_ 5 (some 45) #[o_,o_,o_,o_,i_,o_,i_,i_,i_,i_,i_] ?_
          refine qpu_ 6 (some 46) #[o_,o_,o_,o_,i_,o_,o_,i_,i_,i_,i_] ?_
          refine qpu_ 7 (some 47) #[o_,o_,o_,o_,i_,o_,o_,o_,i_,i_,i_] ?_
          refine a2g (i := 4) (N := some 44) (v := ?_) (a' := ?_) #[o_,o_,o_,o_,o_,o_,o_,o_,i_,i_,i_] rfl rfl (a1r HT_.out HW_.out (by kernel_rfl)) (fun _ _ _ h => h) (Or.inl ⟨by rfl, ?_⟩) hHeld ?_ ?_
          rotate_left
          ·rintro w' ⟨s0, s1, s2, s3, s4, s5, s6, s7⟩
           go_simp
           with_reducible rfl
          rotate_left
          ·exact qp_
          refine a2g (i := 8) (N := some 48) (v := ?_) (a' := ?_) #[o_,o_,o_,o_,o_,o_,o_,o_,o_,i_,i_] rfl rfl (a1r HT_.out HW_.out (by kernel_rfl)) (fun _ _ _ h => h) (Or.inl ⟨by rfl, ?_⟩) hHeld ?_ ?_
          rotate_left
          ·rintro w' ⟨s0, s1, s2, s3, s4, s5, s6, s7⟩
           go_simp
           with_reducible rfl
          rotate_left
          ·exact qp_
          refine one_ (i := 9) (N := some 49) #[o_,o_,o_,o_,o_,o_,o_,o_,o_,o_,i_] rfl rfl (a3h HT_.out (by kernel_rfl)) (by decide) (fun K hK => ?_)
          refine a5r Try.func44 (by kernel_rfl) rfl #[.agg #[.int .i64 ((a0c l0 (ji8)).f0), .int .i64 ((a0c l0 (ji8)).f1), .int .i64 ((a0c l0 (ji8)).f2), .int .i64 ((a0c l0 (ji8)).f3)], .agg #[.int .i64 ((a0c l0 a1).f0), .int .i64 ((a0c l0 a1).f1), .int .i64 ((a0c l0 a1).f2), .int .i64 ((a0c l0 a1).f3)]] (by rfl) rfl rfl (by rfl) (by (try simp only [List.map_toArray, List.map_cons, List.map_nil]); first | done | (simp only [hji8]; rfl) | rfl | (simp only [List.length_drop, List.length_take]; rfl)) ?_
          with_reducible refine (a2h.calls ((a0c l0 (ji8)).f0) ((a0c l0 (ji8)).f1) ((a0c l0 (ji8)).f2) ((a0c l0 (ji8)).f3) ((a0c l0 a1).f0) ((a0c l0 a1).f1) ((a0c l0 a1).f2) ((a0c l0 a1).f3) t153 _ A13.out).mono ?_
          rintro e w20 ⟨rfl, hb⟩
          have HS0_ := (hb.cell (World.block_lt_of_cell? _ _ (hHeld.1))).trans (hHeld.1)
          have HS1_ := (hb.cell (World.block_lt_of_cell? _ _ (hHeld.2.1))).trans (hHeld.2.1)
          have HS2_ := (hb.cell (World.block_lt_of_cell? _ _ (hHeld.2.2.1))).trans (hHeld.2.2.1)
          have HS3_ := (hb.cell (World.block_lt_of_cell? _ _ (hHeld.2.2.2.1))).trans (hHeld.2.2.2.1)
          have HS4_ := (hb.cell (World.block_lt_of_cell? _ _ (hHeld.2.2.2.2.1))).trans (hHeld.2.2.2.2.1)
          have HS5_ := (hb.cell (World.block_lt_of_cell? _ _ (hHeld.2.2.2.2.2.1))).trans (hHeld.2.2.2.2.2.1)
          have HS6_ := (hb.cell (World.block_lt_of_cell? _ _ (hHeld.2.2.2.2.2.2.1))).trans (hHeld.2.2.2.2.2.2.1)
          have HS7_ := (hb.cell (World.block_lt_of_cell? _ _ (hHeld.2.2.2.2.2.2.2))).trans (hHeld.2.2.2.2.2.2.2)
          refine ⟨_, rfl, ?_⟩
          replace HO_0 := qrb_ HO_0 hb
          replace HK := am_ (Kept.below (S := (fun k_ => P0_ k_)) (by repeat (first | (with_reducible first | exact HK.out | apply Kept.alloc | apply Kept.drewN | apply Kept.drew) | exact HK.out)) hb)
          replace HB := qbs_ hb
          (try clear hb)
          (try clear hb2)
          (try clear hk)
          (try clear hi)
          refine hK.out _ _ ⟨HS0_, HS1_, HS2_, HS3_, HS4_, HS5_, HS6_, HS7_⟩ (fun hHeld => ?_)
          clear hK K
          refine a4b (a' := ?_) ?_ ?_
          rotate_left
          ·show Act.put _ (some 49) _ = _
           exact qp_
          refine qpu_ 10 (some 50) #[o_,o_,o_,o_,o_,o_,o_,o_,o_,o_,o_] ?_
          refine a3o (a3b HT_.out (by kernel_rfl)) ?_
          try go_wp2
          go_roundg k1
          case measure => have := HK1.out; omega
          case rel => exact ⟨(x10_1), (ji8), qs_, (by first | rfl | (simp; done) | (simp only [← hji8] <;> (first | rfl | simp)) | (simp [*]; done)), H', ⟨by have := HK1.out; omega⟩, ⟨by (with_reducible repeat (first | apply Kd.a0n | apply Kd.a0o | apply Kd.a0m)); exact HO_0.out⟩, ⟨by repeat (first | (with_reducible first | exact HK.out | apply Kept.alloc | apply Kept.drewN | apply Kept.drew) | exact HK.out)⟩, ⟨qb_⟩⟩
        ·rw [if_neg c12] at H
         exact absurd H (by simp)
       ·rw [if_neg c11] at H
        exact absurd H (by simp)
      ·rw [if_neg c10] at H
       exact absurd H (by simp)
     ·rw [if_neg c9] at H
      exact absurd H (by simp)
    ·rw [if_neg c7] at H
     have c7b0 : decide (x10_1 < x11_1) = false := decide_eq_false c7
     clear c7
     have H' := am_ H
     clear H
     go_wp2
     go_loopg [13] k1 (fun kq v13 w' => ∃ (x0_2 : List (S26)) (x13_2 : Int), v13 = .int .i64 x13_2 ∧ Aside0 (a0b.l1 kq x0_2 x10_1 x13_2 = some r) ∧ Aside0 (kq ≤ k1) ∧ Aside0 (Kd.R k26 26 w' w0.heap.size (fun k_ => (P0_ k_ ∨ w.heap.size ≤ k_)) u9000_ x0_2) ∧ Aside0 (Kept w w' (fun k_ => P0_ k_)) ∧ Aside0 (Below w0.heap.size w0 w'))
     case atStart => exact ⟨(l0), (a1), qs_, H', ⟨Nat.le_refl _⟩, ⟨by (with_reducible repeat (first | apply Kd.a0n | apply Kd.a0o | apply Kd.a0m)); exact HO_0.out⟩, ⟨by repeat (first | (with_reducible first | exact HK.out | apply Kept.alloc | apply Kept.drewN | apply Kept.drew) | exact HK.out)⟩, ⟨qb_⟩⟩
     case round =>
      clear H'
      try clear c1
      try clear p1
      try clear q1
      try clear hx1
      try clear p2
      try clear c4
      try clear c6
      try clear c6b0
      try clear c6b1
      try clear p6
      try clear c7
      try clear c7b0
      try clear c9
      try clear c9b0
      try clear c10
      try clear c10b0
      try clear c11
      try clear c11b0
      try clear c12
      try clear c12b0
      try clear c14
      try clear c14b0
      try clear p15
      try clear q15
      try clear hx15
      try clear hx151_0
      try clear hx151_1
      try clear hx151_2
      try clear hx151_3
      try clear hx152_0
      try clear hx152_1
      try clear hx152_2
      try clear hx152_3
      try clear p151
      try clear p152
      try clear p2
      try clear p6
      try clear q151
      try clear q152
      obtain ⟨x0_2, x13_2, rfl, HA, HK2, HO_0, HK, HB⟩ := hrel
      cases gk with
      | zero => exact absurd HA.out (by simp [a0b.l1])
      | succ k2 =>
       have H := HA.out
       clear HA
       simp only [a0b.l1] at H
       by_cases c21 : x13_2 < (wrap64 (x10_1 - 1))
       ·rw [if_pos c21] at H
        have c21b0 : decide (x13_2 < (wrap64 (x10_1 - 1))) = true := decide_eq_true c21
        clear c21
        obtain ⟨ji22, hji22⟩ : ∃ j_ : Int, (wrap64 (x13_2 + 1)) = j_ := ⟨_, rfl⟩
        replace H : (if 0 ≤ (ji22) then (if (ji22) < (x0_2.length : Int) then (if 0 ≤ x13_2 then (if x13_2 < (x0_2.length : Int) then (a0b.l1 k2 ((x0_2.set (x13_2 : Int).toNat (⟨(a0c x0_2 (ji22)).f0, (a0c x0_2 (ji22)).f1, (a0c x0_2 (ji22)).f2, (a0c x0_2 (ji22)).f3⟩ : S26)).set ((ji22) : Int).toNat (⟨(a0c x0_2 x13_2).f0, (a0c x0_2 x13_2).f1, (a0c x0_2 x13_2).f2, (a0c x0_2 x13_2).f3⟩ : S26)) x10_1 ji22) else (none)) else (none)) else (none)) else (none)) = some r := by first | (rw [hji22] at H; exact H) | (simp only [hji22] at H ⊢; exact H)
        have hji22w : (IntKind.i64.wrap (x13_2 + 1)) = ji22 := (a3k _).trans hji22
        by_cases c23 : 0 ≤ (ji22)
        ·rw [if_pos c23] at H
         have c23b0 : decide (0 ≤ (ji22)) = true := decide_eq_true c23
         clear c23
         by_cases c24 : (ji22) < (x0_2.length : Int)
         ·rw [if_pos c24] at H
          have c24b0 : decide ((ji22) < (x0_2.length : Int)) = true := decide_eq_true c24
          clear c24
          by_cases c25 : 0 ≤ x13_2
          ·rw [if_pos c25] at H
           have c25b0 : decide (0 ≤ x13_2) = true := decide_eq_true c25
           clear c25
           by_cases c26 : x13_2 < (x0_2.length : Int)
           ·rw [if_pos c26] at H
            have c26b0 : decide (x13_2 < (x0_2.length : Int)) = true := decide_eq_true c26
            clear c26
            obtain ⟨y156, hy156⟩ : ∃ y_ : List (S26), y_ = (x0_2.set (x13_2 : Int).toNat (⟨(a0c x0_2 (ji22)).f0, (a0c x0_2 (ji22)).f1, (a0c x0_2 (ji22)).f2, (a0c x0_2 (ji22)).f3⟩ : S26)) := ⟨_, rfl⟩
            replace H : (a0b.l1 k2 (y156.set ((ji22) : Int).toNat (⟨(a0c x0_2 x13_2).f0, (a0c x0_2 x13_2).f1, (a0c x0_2 x13_2).f2, (a0c x0_2 x13_2).f3⟩ : S26)) x10_1 ji22) = some r := by first | (rw [hy156]; with_reducible exact H) | (have H2_ := (Option.bind_some _ _).symm.trans H; rw [hy156]; with_reducible exact H2_) | (have H2_ := (Option.bind_some _ _).symm.trans H; with_reducible exact H2_) | with_reducible exact H | (rw [hy156]; exact H) | exact H
            have Ny156 := am_ hy156
            clear hy156
            obtain ⟨y157, hy157⟩ : ∃ y_ : List (S26), y_ = (y156.set ((ji22) : Int).toNat (⟨(a0c x0_2 x13_2).f0, (a0c x0_2 x13_2).f1, (a0c x0_2 x13_2).f2, (a0c x0_2 x13_2).f3⟩ : S26)) := ⟨_, rfl⟩
            replace H : (a0b.l1 k2 y157 x10_1 ji22) = some r := by first | (rw [hy157]; with_reducible exact H) | (have H2_ := (Option.bind_some _ _).symm.trans H; rw [hy157]; with_reducible exact H2_) | (have H2_ := (Option.bind_some _ _).symm.trans H; with_reducible exact H2_) | with_reducible exact H | (rw [hy157]; exact H) | exact H
            have Ny157 := am_ hy157
            clear hy157
            have H' := am_ H
            clear H
            try go_wp2
            replace HO_0 := am_ (Kd.a0m HO_0.out)
            replace HK := am_ (Kept.drew HK.out)
            replace HB := am_ (ld_ HB.out)
            obtain ⟨Ao30, co30, eo30⟩ := Kd.a1v HO_0.out
            (first | subst eo30 | (injection eo30 with f1_ f2_ f3_; have f4_ := f1_.symm; have f5_ := f3_.symm; clear f1_ f2_ f3_; subst f4_; subst f5_))
            have p154 : 0 ≤ ((ji22) : Int) := ot_
            have q154 : (ji22) < (x0_2.length : Int) := ot_
            obtain ⟨ad154, e154, hx154_0, hx154_1, hx154_2, hx154_3⟩ := a3i (Kd.a0p HO_0.out).2.2 (ji22) p154 q154
            cases e154
            replace p154 := eq_true p154
            replace q154 := eq_true q154
            have p155 : 0 ≤ (x13_2 : Int) := ot_
            have q155 : x13_2 < (x0_2.length : Int) := ot_
            obtain ⟨ad155, e155, hx155_0, hx155_1, hx155_2, hx155_3⟩ := a3i (Kd.a0p HO_0.out).2.2 x13_2 p155 q155
            obtain rfl : ad154 = ad155 := (by injection e155)
            replace p155 := eq_true p155
            replace q155 := eq_true q155
            have p27 : 0 ≤ (x13_2 : Int) := ot_
            have q27 : (x13_2 : Int) < ((x0_2.length : Int) : Int) := ot_
            obtain ⟨go27, co27, eo27, gb27, gl27, cl27, HG27⟩ := Kd.a7j HO_0.out (by omega)
            (first | cases eo27 | (injection eo27 with ea_ en_ ec_; (first | subst ea_ | (injection ea_ with ea_; subst ea_)); subst ec_; clear en_))
            have GB27 := am_ gb27
            have GG27 := am_ HG27
            clear gb27 gl27 HG27
            have HMgo27 := am_ (show (P0_ go27 ∨ w.heap.size ≤ go27) from (HO_0.out.1 _ rfl))
            (first | simp only [add_plain] at hx154_0 | skip)
            (first | simp only [add_plain] at hx154_1 | skip)
            (first | simp only [add_plain] at hx154_2 | skip)
            (first | simp only [add_plain] at hx154_3 | skip)
            (first | simp only [add_plain] at hx155_0 | skip)
            (first | simp only [add_plain] at hx155_1 | skip)
            (first | simp only [add_plain] at hx155_2 | skip)
            (first | simp only [add_plain] at hx155_3 | skip)
            obtain ⟨ce27, hcl27, hM27, hcc27, hfr27⟩ := Kd.a3x HO_0.out z26 (x13_2 : Int) p27 q27
            obtain rfl := a3l hM27
            have hx27_0 : World.cell? _ ⟨go27, (x13_2 : Int).toNat * 4, none⟩ = some (.int .i64 ((a0c x0_2 x13_2).f0)) := hcc27 0 _ rfl
            have hx27_1 : World.cell? _ ⟨go27, (x13_2 : Int).toNat * 4 + 1, none⟩ = some (.int .i64 ((a0c x0_2 x13_2).f1)) := hcc27 1 _ rfl
            have hx27_2 : World.cell? _ ⟨go27, (x13_2 : Int).toNat * 4 + 2, none⟩ = some (.int .i64 ((a0c x0_2 x13_2).f2)) := hcc27 2 _ rfl
            have hx27_3 : World.cell? _ ⟨go27, (x13_2 : Int).toNat * 4 + 3, none⟩ = some (.int .i64 ((a0c x0_2 x13_2).f3)) := hcc27 3 _ rfl
            have hf27_0 : World.frozen? _ ⟨go27, (x13_2 : Int).toNat * 4, none⟩ = false := hfr27 0
            have hf27_1 : World.frozen? _ ⟨go27, (x13_2 : Int).toNat * 4 + 1, none⟩ = false := hfr27 1
            have hf27_2 : World.frozen? _ ⟨go27, (x13_2 : Int).toNat * 4 + 2, none⟩ = false := hfr27 2
            have hf27_3 : World.frozen? _ ⟨go27, (x13_2 : Int).toNat * 4 + 3, none⟩ = false := hfr27 3
            clear hcl27 hcc27 hfr27 hM27
            replace p27 := eq_true p27
            replace q27 := eq_true q27
            obtain ⟨ce31, hcl31, hM31, hcc31, hfr31⟩ := Kd.a3x HO_0.out z26 (x13_2 : Int) (ot_) (by have h_ : (x13_2 : Int) < ((x0_2.length : Int) : Int) := ot_; first | exact h_ | (have e_ := (Kd.a0p HO_0.out).1; omega) | simpa using h_)
            obtain rfl := a3l hM31
            have HP31 := (Kd.a5y HO_0.out (x13_2 : Int) (ot_) (by have h_ : (x13_2 : Int) < ((x0_2.length : Int) : Int) := ot_; first | exact h_ | (have e_ := (Kd.a0p HO_0.out).1; omega) | simpa using h_) (seg := [.int .i64 ((a0c x0_2 (ji22)).f0), .int .i64 ((a0c x0_2 (ji22)).f1), .int .i64 ((a0c x0_2 (ji22)).f2), .int .i64 ((a0c x0_2 (ji22)).f3)]) (j := 0) hcl31 hcc31 (show 4 ≤ 4 from by decide) (x' := (⟨(a0c x0_2 (ji22)).f0, (a0c x0_2 (ji22)).f1, (a0c x0_2 (ji22)).f2, (a0c x0_2 (ji22)).f3⟩ : S26)) (a4w _ _ _ (⟨(a0c x0_2 (ji22)).f0, (a0c x0_2 (ji22)).f1, (a0c x0_2 (ji22)).f2, (a0c x0_2 (ji22)).f3⟩ : S26) ) (fun _ hk => hk)).1
            rw [← Ny156.out] at HP31
            have HQ31 := am_ HP31
            clear hcl31 hcc31 hfr31 hM31 HP31
            have p28 : 0 ≤ ((ji22) : Int) := ot_
            have q28 : ((ji22) : Int) < ((x0_2.length : Int) : Int) := ot_
            obtain ⟨ce28, hcl28, hM28, hcc28, hfr28⟩ := Kd.a3x HQ31.out z26 ((ji22) : Int) p28 q28
            obtain rfl := a3l hM28
            have hx28_0 : World.cell? _ ⟨go27, ((ji22) : Int).toNat * 4, none⟩ = some (.int .i64 ((a0c y156 (ji22)).f0)) := hcc28 0 _ rfl
            have hx28_1 : World.cell? _ ⟨go27, ((ji22) : Int).toNat * 4 + 1, none⟩ = some (.int .i64 ((a0c y156 (ji22)).f1)) := hcc28 1 _ rfl
            have hx28_2 : World.cell? _ ⟨go27, ((ji22) : Int).toNat * 4 + 2, none⟩ = some (.int .i64 ((a0c y156 (ji22)).f2)) := hcc28 2 _ rfl
            have hx28_3 : World.cell? _ ⟨go27, ((ji22) : Int).toNat * 4 + 3, none⟩ = some (.int .i64 ((a0c y156 (ji22)).f3)) := hcc28 3 _ rfl
            have hf28_0 : World.frozen? _ ⟨go27, ((ji22) : Int).toNat * 4, none⟩ = false := hfr28 0
            have hf28_1 : World.frozen? _ ⟨go27, ((ji22) : Int).toNat * 4 + 1, none⟩ = false := hfr28 1
            have hf28_2 : World.frozen? _ ⟨go27, ((ji22) : Int).toNat * 4 + 2, none⟩ = false := hfr28 2
            have hf28_3 : World.frozen? _ ⟨go27, ((ji22) : Int).toNat * 4 + 3, none⟩ = false := hfr28 3
            clear hcl28 hcc28 hfr28 hM28
            replace p28 := eq_true p28
            replace q28 := eq_true q28
            obtain ⟨ce32, hcl32, hM32, hcc32, hfr32⟩ := Kd.a3x HQ31.out z26 ((ji22) : Int) (ot_) (by have h_ : ((ji22) : Int) < ((x0_2.length : Int) : Int) := ot_; first | exact h_ | (have e_ := (Kd.a0p HO_0.out).1; omega) | simpa using h_)
            obtain rfl := a3l hM32
            have HP32 := (Kd.a5y HQ31.out ((ji22) : Int) (ot_) (by have h_ : ((ji22) : Int) < ((x0_2.length : Int) : Int) := ot_; first | exact h_ | (have e_ := (Kd.a0p HO_0.out).1; omega) | simpa using h_) (seg := [.int .i64 ((a0c x0_2 x13_2).f0), .int .i64 ((a0c x0_2 x13_2).f1), .int .i64 ((a0c x0_2 x13_2).f2), .int .i64 ((a0c x0_2 x13_2).f3)]) (j := 0) hcl32 hcc32 (show 4 ≤ 4 from by decide) (x' := (⟨(a0c x0_2 x13_2).f0, (a0c x0_2 x13_2).f1, (a0c x0_2 x13_2).f2, (a0c x0_2 x13_2).f3⟩ : S26)) (a4w _ _ _ (⟨(a0c x0_2 x13_2).f0, (a0c x0_2 x13_2).f1, (a0c x0_2 x13_2).f2, (a0c x0_2 x13_2).f3⟩ : S26) ) (fun _ hk => hk)).1
            rw [← Ny157.out] at HP32
            have HQ32 := am_ HP32
            clear hcl32 hcc32 hfr32 hM32 HP32
            refine a3g (n := 18) (S := fun w' => w'.cell? ⟨go27, (((ji22)).toNat * 4), none⟩ = some (.int .i64 ((a0c x0_2 (ji22)).f0)) ∧ w'.cell? ⟨go27, (((ji22)).toNat * 4) + 1, none⟩ = some (.int .i64 ((a0c x0_2 (ji22)).f1)) ∧ w'.cell? ⟨go27, (((ji22)).toNat * 4) + 2, none⟩ = some (.int .i64 ((a0c x0_2 (ji22)).f2)) ∧ w'.cell? ⟨go27, (((ji22)).toNat * 4) + 3, none⟩ = some (.int .i64 ((a0c x0_2 (ji22)).f3)) ∧ w'.cell? ⟨go27, ((x13_2).toNat * 4), none⟩ = some (.int .i64 ((a0c x0_2 x13_2).f0)) ∧ w'.cell? ⟨go27, ((x13_2).toNat * 4) + 1, none⟩ = some (.int .i64 ((a0c x0_2 x13_2).f1)) ∧ w'.cell? ⟨go27, ((x13_2).toNat * 4) + 2, none⟩ = some (.int .i64 ((a0c x0_2 x13_2).f2)) ∧ w'.cell? ⟨go27, ((x13_2).toNat * 4) + 3, none⟩ = some (.int .i64 ((a0c x0_2 x13_2).f3))) (ds := [15, 17]) #[i_,i_,i_,i_,i_,i_,i_,i_,i_,i_,i_,i_,i_,i_,i_,i_,i_,i_] (by kernel_rfl) rfl rfl ⟨hx154_0, hx154_1, hx154_2, hx154_3, hx155_0, hx155_1, hx155_2, hx155_3⟩ (fun hHeld => ?_); refine a2l a0b.b5p a0b.b4w (fun HT_ HW_ => ?_)
            generalize wr.drew = w29 at HO_0 HK HB GG27 HQ31 HQ32 hf27_0 hf27_1 hf27_2 hf27_3 hf28_0 hf28_1 hf28_2 hf28_3 hx154_0 hx154_1 hx154_2 hx154_3 hx155_0 hx155_1 hx155_2 hx155_3 hx27_0 hx27_1 hx27_2 hx27_3 hx28_0 hx28_1 hx28_2 hx28_3 hHeld ⊢
            refine qpu_ 0 (some 61) #[o_,i_,i_,i_,i_,i_,i_,i_,i_,i_,i_,i_,i_,i_,i_,i_,i_,i_] ?_
            refine qpu_ 1 (some 62) #[o_,o_,i_,i_,i_,i_,i_,i_,i_,i_,i_,i_,i_,i_,i_,i_,i_,i_] ?_
            refine qpu_ 2 (some 63) #[o_,o_,o_,i_,i_,i_,i_,i_,i_,i_,i_,i_,i_,i_,i_,i_,i_,i_] ?_
            refine qpu_ 3 (some 64) #[o_,o_,o_,o_,i_,i_,i_,i_,i_,i_,i_,i_,i_,i_,i_,i_,i_,i_] ?_
            refine qpu_ 4 (some 65) #[o_,o_,o_,o_,o_,i_,i_,i_,i_,i_,i_,i_,i_,i_,i_,i_,i_,i_] ?_
            refine qpu_ 5 (some 66) #[o_,o_,o_,o_,o_,o_,i_,i_,i_,i_,i_,i_,i_,i_,i_,i_,i_,i_] ?_
            refine qpu_ 6 (some 67) #[o_,o_,o_,o_,o_,o_,o_,i_,i_,i_,i_,i_,i_,i_,i_,i_,i_,i_] ?_
            refine qpu_ 7 (some 68) #[o_,o_,o_,o_,o_,o_,o_,o_,i_,i_,i_,i_,i_,i_,i_,i_,i_,i_] ?_
            refine qpu_ 8 (some 69) #[o_,o_,o_,o_,o_,o_,o_,o_,o_,i_,i_,i_,i_,i_,i_,i_,i_,i_] ?_
            refine qpu_ 10 (some 71) #[o_,o_,o_,o_,o_,o_,o_,o_,o_,i_,o_,i_,i_,i_,i_,i_,i_,i_] ?_
            refine qpu_ 11 (some 72) #[o_,o_,o_,o_,o_,o_,o_,o_,o_,i_,o_,o_,i_,i_,i_,i_,i_,i_] ?_
            refine qpu_ 12 (some 73) #[o_,o_,o_,o_,o_,o_,o_,o_,o_,i_,o_,o_,o_,i_,i_,i_,i_,i_] ?_
            refine a2g (i := 9) (N := some 70) (v := ?_) (a' := ?_) #[o_,o_,o_,o_,o_,o_,o_,o_,o_,o_,o_,o_,o_,i_,i_,i_,i_,i_] rfl rfl (a1r HT_.out HW_.out (by kernel_rfl)) (fun _ _ _ h => h) (Or.inl ⟨by rfl, ?_⟩) hHeld ?_ ?_
            rotate_left
            ·rintro w' ⟨s0, s1, s2, s3, s4, s5, s6, s7⟩
             go_simp
             with_reducible rfl
            rotate_left
            ·exact qp_
            refine a2g (i := 13) (N := some 74) (v := ?_) (a' := ?_) #[o_,o_,o_,o_,o_,o_,o_,o_,o_,o_,o_,o_,o_,o_,i_,i_,i_,i_] rfl rfl (a1r HT_.out HW_.out (by kernel_rfl)) (fun _ _ _ h => h) (Or.inl ⟨by rfl, ?_⟩) hHeld ?_ ?_
            rotate_left
            ·rintro w' ⟨s0, s1, s2, s3, s4, s5, s6, s7⟩
             go_simp
             with_reducible rfl
            rotate_left
            ·exact qp_
            refine qpu_ 14 (some 75) #[o_,o_,o_,o_,o_,o_,o_,o_,o_,o_,o_,o_,o_,o_,o_,i_,i_,i_] ?_
            refine a6k (i := 15) (N := none) #[o_,o_,o_,o_,o_,o_,o_,o_,o_,o_,o_,o_,o_,o_,o_,o_,i_,i_] rfl rfl (a3h HT_.out (by kernel_rfl)) (by decide) (fun K hK => ?_)
            refine a6l (w1 := ?_) (by rfl) rfl ?_ ?_
            rotate_left
            ·go_simp
             rfl
            refine hK.out _ _ ?_
            clear hK K
            obtain ⟨ww_, hWW_⟩ : ∃ w_, World.setCells w29 go27 ((x13_2 : Int).toNat * k26.sz + 0) [.int .i64 ((a0c x0_2 (ji22)).f0), .int .i64 ((a0c x0_2 (ji22)).f1), .int .i64 ((a0c x0_2 (ji22)).f2), .int .i64 ((a0c x0_2 (ji22)).f3)] = w_ := ⟨_, rfl⟩
            rw [hWW_] at hx28_0 hx28_1 hx28_2 hx28_3 hf28_0 hf28_1 hf28_2 hf28_3
            replace HQ31 := HQ31.out
            replace HQ32 := HQ32.out
            rw [hWW_] at HQ31 HQ32
            replace HQ31 := am_ HQ31
            replace HQ32 := am_ HQ32
            replace hWW_ : (World.setCell (World.setCell (World.setCell (World.setCell w29 ⟨go27, ((x13_2 : Int)).toNat * 4, none⟩ (.int .i64 ((a0c x0_2 (ji22)).f0))) ⟨go27, ((x13_2 : Int)).toNat * 4 + 1, none⟩ (.int .i64 ((a0c x0_2 (ji22)).f1))) ⟨go27, ((x13_2 : Int)).toNat * 4 + 2, none⟩ (.int .i64 ((a0c x0_2 (ji22)).f2))) ⟨go27, ((x13_2 : Int)).toNat * 4 + 3, none⟩ (.int .i64 ((a0c x0_2 (ji22)).f3))) = ww_ := hWW_
            rw [hWW_]
            refine qpu_ 16 (some 76) #[o_,o_,o_,o_,o_,o_,o_,o_,o_,o_,o_,o_,o_,o_,o_,o_,o_,i_] ?_
            refine a6k (i := 17) (N := none) #[o_,o_,o_,o_,o_,o_,o_,o_,o_,o_,o_,o_,o_,o_,o_,o_,o_,o_] rfl rfl (a3h HT_.out (by kernel_rfl)) (by decide) (fun K hK => ?_)
            refine a6l (w1 := ?_) (by rfl) rfl ?_ ?_
            rotate_left
            ·go_simp
             rfl
            refine hK.out _ _ ?_
            clear hK K
            subst hWW_
            refine a3o (a3b HT_.out (by kernel_rfl)) ?_
            try go_wp2
            go_roundg k2
            case measure => have := HK1.out; have := HK2.out; omega
            case rel => exact ⟨(y157), (ji22), (by first | rfl | (simp; done) | (simp only [← hji22] <;> (first | rfl | simp)) | (simp [*]; done)), H', ⟨by have := HK1.out; have := HK2.out; omega⟩, ⟨by (with_reducible repeat (first | apply Kd.a0n | apply Kd.a0o | apply Kd.a0m)); exact HQ32.out⟩, ⟨by repeat (first | (with_reducible first | exact HK.out | apply Kept.alloc | apply Kept.drewN | apply Kept.drew | refine Kept.setCell ?_ HMgo27.out _ | refine Kept.setCell ?_ HMgo27.out _ | refine Kept.setCell ?_ HMgo27.out _ | refine Kept.setCell ?_ HMgo27.out _ | refine Kept.setCell ?_ HMgo27.out _ | refine Kept.setCell ?_ HMgo27.out _ | refine Kept.setCell ?_ HMgo27.out _ | refine Kept.setCell ?_ HMgo27.out _) | exact HK.out)⟩, ⟨by repeat (first | (with_reducible first | exact HB.out | apply la_ | apply ln_ | apply ld_ | refine ls_ ?_ GB27.out | refine ls_ ?_ GB27.out | refine ls_ ?_ GB27.out | refine ls_ ?_ GB27.out | refine ls_ ?_ GB27.out | refine ls_ ?_ GB27.out | refine ls_ ?_ GB27.out | refine ls_ ?_ GB27.out) | exact HB.out)⟩⟩
           ·rw [if_neg c26] at H
            exact absurd H (by simp)
          ·rw [if_neg c25] at H
           exact absurd H (by simp)
         ·rw [if_neg c24] at H
          exact absurd H (by simp)
        ·rw [if_neg c23] at H
         exact absurd H (by simp)
       ·rw [if_neg c21] at H
        have c21b0 : decide (x13_2 < (wrap64 (x10_1 - 1))) = false := decide_eq_false c21
        clear c21
        obtain rfl := si_ H
        go_wp2
        first | go_end0 | ((try simp only [Exit.inBlock, Exit.then]); refine bodyPost_ret (results_none rfl _ _ _) rfl ?_)
        exact ⟨qx_, by (with_reducible repeat (first | apply Kd.a0n | apply Kd.a0o | apply Kd.a0m)); exact HO_0.out, by repeat (first | (with_reducible first | exact HB.out | apply la_ | apply ln_ | apply ld_) | exact HB.out), by repeat (first | (with_reducible first | exact HK.out | apply Kept.alloc | apply Kept.drewN | apply Kept.drew) | exact HK.out)⟩
 ·rw [if_neg c6] at H
  have c6b0 : ((wrap64 (a2 - a1)) == 1) = false := beq_eq_false_iff_ne.mpr c6
  have c6b1 : ((wrap64 (a2 - a1)) != 1) = true := bne_iff_ne.mpr c6
  by_cases c33 : (wrap64 (a3 - a2)) = 1
  ·rw [if_pos c33] at H
   have c33b0 : ((wrap64 (a3 - a2)) == 1) = true := beq_iff_eq.mpr c33
   have c33b1 : ((wrap64 (a3 - a2)) != 1) = false := bne_eq_false_iff_eq.mpr c33
   clear c33
   have H' := am_ H
   clear H
   go_enter Try.func67, Try.ntmps67
   go_wp2
   go_loopg [14, 15] k (fun kq v14 v15 w' => ∃ (x14_1 : Int) (x15_1 : Int), v14 = .int .i64 x14_1 ∧ v15 = .int .i64 x15_1 ∧ Aside0 (a0b.l2 kq l0 a2 x14_1 x15_1 = some r) ∧ Aside0 (kq ≤ k) ∧ Aside0 (Kd.R k26 26 w' w0.heap.size (fun k_ => (P0_ k_ ∨ w.heap.size ≤ k_)) u9000_ l0) ∧ Aside0 (Kept w w' (fun k_ => P0_ k_)) ∧ Aside0 (Below w0.heap.size w0 w'))
   case atStart => exact ⟨(a1), (a2), qs_, qs_, H', ⟨Nat.le_refl _⟩, ⟨by (with_reducible repeat (first | apply Kd.a0n | apply Kd.a0o | apply Kd.a0m)); exact HO0.out⟩, ⟨by repeat (first | (with_reducible first | exact HK.out | apply Kept.alloc | apply Kept.drewN | apply Kept.drew) | exact HK.out)⟩, ⟨qb_⟩⟩
   case round =>
    clear H'
    try clear c1
    try clear p1
    try clear q1
    try clear hx1
    try clear c2
    try clear p2
    try clear q2
    try clear hx2
    try clear c3
    try clear c4
    try clear c6
    try clear c6b0
    try clear c6b1
    try clear p6
    try clear c7
    try clear c7b0
    try clear c9
    try clear c9b0
    try clear c10
    try clear c10b0
    try clear c11
    try clear c11b0
    try clear c12
    try clear c12b0
    try clear c14
    try clear c14b0
    try clear p15
    try clear q15
    try clear hx15
    try clear c21
    try clear c21b0
    try clear c23
    try clear c23b0
    try clear c24
    try clear c24b0
    try clear c25
    try clear c25b0
    try clear c26
    try clear c26b0
    try clear c27
    try clear p27
    try clear q27
    try clear hx27
    try clear hf27
    try clear c28
    try clear p28
    try clear q28
    try clear hx28
    try clear hf28
    try clear c31
    try clear c32
    try clear c33
    try clear c33b0
    try clear c33b1
    try clear hx151_0
    try clear hx151_1
    try clear hx151_2
    try clear hx151_3
    try clear hx152_0
    try clear hx152_1
    try clear hx152_2
    try clear hx152_3
    try clear hx154_0
    try clear hx154_1
    try clear hx154_2
    try clear hx154_3
    try clear hx155_0
    try clear hx155_1
    try clear hx155_2
    try clear hx155_3
    try clear hx27_0
    try clear hx27_1
    try clear hx27_2
    try clear hx27_3
    try clear hx28_0
    try clear hx28_1
    try clear hx28_2
    try clear hx28_3
    try clear p1
    try clear p15
    try clear p151
    try clear p152
    try clear p154
    try clear p155
    try clear p2
    try clear p27
    try clear p28
    try clear p6
    try clear q1
    try clear q15
    try clear q151
    try clear q152
    try clear q154
    try clear q155
    try clear q27
    try clear q28
    obtain ⟨x14_1, x15_1, rfl, rfl, HA, HK1, HO_0, HK, HB⟩ := hrel
    cases gk with
    | zero => exact absurd HA.out (by simp [a0b.l2])
    | succ k1 =>
     have H := HA.out
     clear HA
     simp only [a0b.l2] at H
     by_cases c34 : x14_1 < x15_1
     ·rw [if_pos c34] at H
      have c34b0 : decide (x14_1 < x15_1) = true := decide_eq_true c34
      clear c34
      by_cases c35 : 0 ≤ a2
      ·rw [if_pos c35] at H
       have c35b0 : decide (0 ≤ a2) = true := decide_eq_true c35
       clear c35
       by_cases c36 : a2 < (l0.length : Int)
       ·rw [if_pos c36] at H
        have c36b0 : decide (a2 < (l0.length : Int)) = true := decide_eq_true c36
        clear c36
        obtain ⟨ji37, hji37⟩ : ∃ j_ : Int, (wrap64 ((IntKind.u64.wrap (wrap64 (x14_1 + x15_1))) / 2)) = j_ := ⟨_, rfl⟩
        replace H : (if 0 ≤ (ji37) then (if (ji37) < (l0.length : Int) then ((a2h.f ((a0c l0 a2).f0) ((a0c l0 a2).f1) ((a0c l0 a2).f2) ((a0c l0 a2).f3) ((a0c l0 (ji37)).f0) ((a0c l0 (ji37)).f1) ((a0c l0 (ji37)).f2) ((a0c l0 (ji37)).f3)).bind fun t160 => (if t160 < 0 then (a0b.l2 k1 l0 a2 x14_1 ji37) else (a0b.l2 k1 l0 a2 (wrap64 ((ji37) + 1)) x15_1))) else (none)) else (none)) = some r := by first | (rw [hji37] at H; exact H) | (simp only [hji37] at H ⊢; exact H)
        have hji37w : (IntKind.i64.wrap ((IntKind.u64.wrap (wrap64 (x14_1 + x15_1))) / 2)) = ji37 := (a3k _).trans hji37
        by_cases c38 : 0 ≤ (ji37)
        ·rw [if_pos c38] at H
         have c38b0 : decide (0 ≤ (ji37)) = true := decide_eq_true c38
         clear c38
         by_cases c39 : (ji37) < (l0.length : Int)
         ·rw [if_pos c39] at H
          have c39b0 : decide ((ji37) < (l0.length : Int)) = true := decide_eq_true c39
          clear c39
          replace H := bm_ H
          obtain ⟨t160, A400, H⟩ := H
          replace H : (if t160 < 0 then (a0b.l2 k1 l0 a2 x14_1 ji37) else (a0b.l2 k1 l0 a2 (wrap64 ((ji37) + 1)) x15_1)) = some r := H
          have A40 := am_ A400
          clear A400
          by_cases c41 : t160 < 0
          ·rw [if_pos c41] at H
           have c41b0 : decide (t160 < 0) = true := decide_eq_true c41
           clear c41
           have H' := am_ H
           clear H
           try go_wp2
           replace HO_0 := am_ (Kd.a0m HO_0.out)
           replace HK := am_ (Kept.drew HK.out)
           replace HB := am_ (ld_ HB.out)
           obtain ⟨Ao43, co43, eo43⟩ := Kd.a1v HO_0.out
           (first | subst eo43 | (injection eo43 with f1_ f2_ f3_; have f4_ := f1_.symm; have f5_ := f3_.symm; clear f1_ f2_ f3_; subst f4_; subst f5_))
           have p158 : 0 ≤ (a2 : Int) := ot_
           have q158 : a2 < (l0.length : Int) := ot_
           obtain ⟨ad158, e158, hx158_0, hx158_1, hx158_2, hx158_3⟩ := a3i (Kd.a0p HO_0.out).2.2 a2 p158 q158
           cases e158
           replace p158 := eq_true p158
           replace q158 := eq_true q158
           have p159 : 0 ≤ ((ji37) : Int) := ot_
           have q159 : (ji37) < (l0.length : Int) := ot_
           obtain ⟨ad159, e159, hx159_0, hx159_1, hx159_2, hx159_3⟩ := a3i (Kd.a0p HO_0.out).2.2 (ji37) p159 q159
           obtain rfl : ad158 = ad159 := (by injection e159)
           replace p159 := eq_true p159
           replace q159 := eq_true q159
           refine a3g (n := 12) (S := fun w' => w'.cell? (ad158.add ((a2).toNat * 4)) = some (.int .i64 ((a0c l0 a2).f0)) ∧ w'.cell? ⟨(ad158.add ((a2).toNat * 4)).block, (ad158.add ((a2).toNat * 4)).off + 1, none⟩ = some (.int .i64 ((a0c l0 a2).f1)) ∧ w'.cell? ⟨(ad158.add ((a2).toNat * 4)).block, (ad158.add ((a2).toNat * 4)).off + 2, none⟩ = some (.int .i64 ((a0c l0 a2).f2)) ∧ w'.cell? ⟨(ad158.add ((a2).toNat * 4)).block, (ad158.add ((a2).toNat * 4)).off + 3, none⟩ = some (.int .i64 ((a0c l0 a2).f3)) ∧ w'.cell? (ad158.add (((ji37)).toNat * 4)) = some (.int .i64 ((a0c l0 (ji37)).f0)) ∧ w'.cell? ⟨(ad158.add (((ji37)).toNat * 4)).block, (ad158.add (((ji37)).toNat * 4)).off + 1, none⟩ = some (.int .i64 ((a0c l0 (ji37)).f1)) ∧ w'.cell? ⟨(ad158.add (((ji37)).toNat * 4)).block, (ad158.add (((ji37)).toNat * 4)).off + 2, none⟩ = some (.int .i64 ((a0c l0 (ji37)).f2)) ∧ w'.cell? ⟨(ad158.add (((ji37)).toNat * 4)).block, (ad158.add (((ji37)).toNat * 4)).off + 3, none⟩ = some (.int .i64 ((a0c l0 (ji37)).f3))) (ds := []) #[i_,i_,i_,i_,i_,i_,i_,i_,i_,i_,i_,i_] (by kernel_rfl) rfl rfl ⟨hx158_0, hx158_1, hx158_2, hx158_3, hx159_0, hx159_1, hx159_2, hx159_3⟩ (fun hHeld => ?_); refine a2l a0b.b3w a0b.b2q (fun HT_ HW_ => ?_)
           generalize wr.drew = w42 at HO_0 HK HB hx158_0 hx158_1 hx158_2 hx158_3 hx159_0 hx159_1 hx159_2 hx159_3 hHeld ⊢
           refine qpu_ 0 (some 92) #[o_,i_,i_,i_,i_,i_,i_,i_,i_,i_,i_,i_] ?_
           refine qpu_ 1 (some 93) #[o_,o_,i_,i_,i_,i_,i_,i_,i_,i_,i_,i_] ?_
           refine qpu_ 2 (some 94) #[o_,o_,o_,i_,i_,i_,i_,i_,i_,i_,i_,i_] ?_
           refine qpu_ 3 (some 95) #[o_,o_,o_,o_,i_,i_,i_,i_,i_,i_,i_,i_] ?_
           refine qpu_ 5 (some 97) #[o_,o_,o_,o_,i_,o_,i_,i_,i_,i_,i_,i_] ?_
           refine qpu_ 6 (some 98) #[o_,o_,o_,o_,i_,o_,o_,i_,i_,i_,i_,i_] ?_
           refine qpu_ 7 (some 99) #[o_,o_,o_,o_,i_,o_,o_,o_,i_,i_,i_,i_] ?_
           refine a2g (i := 4) (N := some 96) (v := ?_) (a' := ?_) #[o_,o_,o_,o_,o_,o_,o_,o_,i_,i_,i_,i_] rfl rfl (a1r HT_.out HW_.out (by kernel_rfl)) (fun _ _ _ h => h) (Or.inl ⟨by rfl, ?_⟩) hHeld ?_ ?_
           rotate_left
           ·rintro w' ⟨s0, s1, s2, s3, s4, s5, s6, s7⟩
            go_simp
            with_reducible rfl
           rotate_left
           ·exact qp_
           refine a2g (i := 8) (N := some 100) (v := ?_) (a' := ?_) #[o_,o_,o_,o_,o_,o_,o_,o_,o_,i_,i_,i_] rfl rfl (a1r HT_.out HW_.out (by kernel_rfl)) (fun _ _ _ h => h) (Or.inl ⟨by rfl, ?_⟩) hHeld ?_ ?_
           rotate_left
           ·rintro w' ⟨s0, s1, s2, s3, s4, s5, s6, s7⟩
            go_simp
            with_reducible rfl
           rotate_left
           ·exact qp_
           refine one_ (i := 9) (N := some 101) #[o_,o_,o_,o_,o_,o_,o_,o_,o_,o_,i_,i_] rfl rfl (a3h HT_.out (by kernel_rfl)) (by decide) (fun K hK => ?_)
           refine a5r Try.func44 (by kernel_rfl) rfl #[.agg #[.int .i64 ((a0c l0 a2).f0), .int .i64 ((a0c l0 a2).f1), .int .i64 ((a0c l0 a2).f2), .int .i64 ((a0c l0 a2).f3)], .agg #[.int .i64 ((a0c l0 (ji37)).f0), .int .i64 ((a0c l0 (ji37)).f1), .int .i64 ((a0c l0 (ji37)).f2), .int .i64 ((a0c l0 (ji37)).f3)]] (by rfl) rfl rfl (by rfl) (by (try simp only [List.map_toArray, List.map_cons, List.map_nil]); first | done | (simp only [hji37]; rfl) | rfl | (simp only [List.length_drop, List.length_take]; rfl)) ?_
           with_reducible refine (a2h.calls ((a0c l0 a2).f0) ((a0c l0 a2).f1) ((a0c l0 a2).f2) ((a0c l0 a2).f3) ((a0c l0 (ji37)).f0) ((a0c l0 (ji37)).f1) ((a0c l0 (ji37)).f2) ((a0c l0 (ji37)).f3) t160 _ A40.out).mono ?_
           rintro e w44 ⟨rfl, hb⟩
           have HS0_ := (hb.cell (World.block_lt_of_cell? _ _ (hHeld.1))).trans (hHeld.1)
           have HS1_ := (hb.cell (World.block_lt_of_cell? _ _ (hHeld.2.1))).trans (hHeld.2.1)
           have HS2_ := (hb.cell (World.block_lt_of_cell? _ _ (hHeld.2.2.1))).trans (hHeld.2.2.1)
           have HS3_ := (hb.cell (World.block_lt_of_cell? _ _ (hHeld.2.2.2.1))).trans (hHeld.2.2.2.1)
           have HS4_ := (hb.cell (World.block_lt_of_cell? _ _ (hHeld.2.2.2.2.1))).trans (hHeld.2.2.2.2.1)
           have HS5_ := (hb.cell (World.block_lt_of_cell? _ _ (hHeld.2.2.2.2.2.1))).trans (hHeld.2.2.2.2.2.1)
           have HS6_ := (hb.cell (World.block_lt_of_cell? _ _ (hHeld.2.2.2.2.2.2.1))).trans (hHeld.2.2.2.2.2.2.1)
           have HS7_ := (hb.cell (World.block_lt_of_cell? _ _ (hHeld.2.2.2.2.2.2.2))).trans (hHeld.2.2.2.2.2.2.2)
           refine ⟨_, rfl, ?_⟩
           replace HO_0 := qrb_ HO_0 hb
           replace HK := am_ (Kept.below (S := (fun k_ => P0_ k_)) (by repeat (first | (with_reducible first | exact HK.out | apply Kept.alloc | apply Kept.drewN | apply Kept.drew) | exact HK.out)) hb)
           replace HB := qbs_ hb
           (try clear hb)
           (try clear hb2)
           (try clear hk)
           (try clear hi)
           refine hK.out _ _ ⟨HS0_, HS1_, HS2_, HS3_, HS4_, HS5_, HS6_, HS7_⟩ (fun hHeld => ?_)
           clear hK K
           refine a4b (a' := ?_) ?_ ?_
           rotate_left
           ·show Act.put _ (some 101) _ = _
            exact qp_
           refine qpu_ 10 (some 102) #[o_,o_,o_,o_,o_,o_,o_,o_,o_,o_,o_,i_] ?_
           refine qpu_ 11 (some 103) #[o_,o_,o_,o_,o_,o_,o_,o_,o_,o_,o_,o_] ?_
           refine a3o (a3b HT_.out (by kernel_rfl)) ?_
           try go_wp2
           go_roundg k1
           case measure => have := HK1.out; omega
           case rel => exact ⟨(x14_1), (ji37), qs_, (by first | rfl | (simp; done) | (simp only [← hji37] <;> (first | rfl | simp)) | (simp [*]; done)), H', ⟨by have := HK1.out; omega⟩, ⟨by (with_reducible repeat (first | apply Kd.a0n | apply Kd.a0o | apply Kd.a0m)); exact HO_0.out⟩, ⟨by repeat (first | (with_reducible first | exact HK.out | apply Kept.alloc | apply Kept.drewN | apply Kept.drew) | exact HK.out)⟩, ⟨qb_⟩⟩
          ·rw [if_neg c41] at H
           have c41b0 : decide (t160 < 0) = false := decide_eq_false c41
           clear c41
           have H' := am_ H
           clear H
           try go_wp2
           replace HO_0 := am_ (Kd.a0m HO_0.out)
           replace HK := am_ (Kept.drew HK.out)
           replace HB := am_ (ld_ HB.out)
           obtain ⟨Ao46, co46, eo46⟩ := Kd.a1v HO_0.out
           (first | subst eo46 | (injection eo46 with f1_ f2_ f3_; have f4_ := f1_.symm; have f5_ := f3_.symm; clear f1_ f2_ f3_; subst f4_; subst f5_))
           have p158 : 0 ≤ (a2 : Int) := ot_
           have q158 : a2 < (l0.length : Int) := ot_
           obtain ⟨ad158, e158, hx158_0, hx158_1, hx158_2, hx158_3⟩ := a3i (Kd.a0p HO_0.out).2.2 a2 p158 q158
           cases e158
           replace p158 := eq_true p158
           replace q158 := eq_true q158
           have p159 : 0 ≤ ((ji37) : Int) := ot_
           have q159 : (ji37) < (l0.length : Int) := ot_
           obtain ⟨ad159, e159, hx159_0, hx159_1, hx159_2, hx159_3⟩ := a3i (Kd.a0p HO_0.out).2.2 (ji37) p159 q159
           obtain rfl : ad158 = ad159 := (by injection e159)
           replace p159 := eq_true p159
           replace q159 := eq_true q159
           refine a3g (n := 12) (S := fun w' => w'.cell? (ad158.add ((a2).toNat * 4)) = some (.int .i64 ((a0c l0 a2).f0)) ∧ w'.cell? ⟨(ad158.add ((a2).toNat * 4)).block, (ad158.add ((a2).toNat * 4)).off + 1, none⟩ = some (.int .i64 ((a0c l0 a2).f1)) ∧ w'.cell? ⟨(ad158.add ((a2).toNat * 4)).block, (ad158.add ((a2).toNat * 4)).off + 2, none⟩ = some (.int .i64 ((a0c l0 a2).f2)) ∧ w'.cell? ⟨(ad158.add ((a2).toNat * 4)).block, (ad158.add ((a2).toNat * 4)).off + 3, none⟩ = some (.int .i64 ((a0c l0 a2).f3)) ∧ w'.cell? (ad158.add (((ji37)).toNat * 4)) = some (.int .i64 ((a0c l0 (ji37)).f0)) ∧ w'.cell? ⟨(ad158.add (((ji37)).toNat * 4)).block, (ad158.add (((ji37)).toNat * 4)).off + 1, none⟩ = some (.int .i64 ((a0c l0 (ji37)).f1)) ∧ w'.cell? ⟨(ad158.add (((ji37)).toNat * 4)).block, (ad158.add (((ji37)).toNat * 4)).off + 2, none⟩ = some (.int .i64 ((a0c l0 (ji37)).f2)) ∧ w'.cell? ⟨(ad158.add (((ji37)).toNat * 4)).block, (ad158.add (((ji37)).toNat * 4)).off + 3, none⟩ = some (.int .i64 ((a0c l0 (ji37)).f3))) (ds := []) #[i_,i_,i_,i_,i_,i_,i_,i_,i_,i_,i_,i_] (by kernel_rfl) rfl rfl ⟨hx158_0, hx158_1, hx158_2, hx158_3, hx159_0, hx159_1, hx159_2, hx159_3⟩ (fun hHeld => ?_); refine a2l a0b.b3w a0b.b2q (fun HT_ HW_ => ?_)
           generalize wr.drew = w45 at HO_0 HK HB hx158_0 hx158_1 hx158_2 hx158_3 hx159_0 hx159_1 hx159_2 hx159_3 hHeld ⊢
           refine qpu_ 0 (some 92) #[o_,i_,i_,i_,i_,i_,i_,i_,i_,i_,i_,i_] ?_
           refine qpu_ 1 (some 93) #[o_,o_,i_,i_,i_,i_,i_,i_,i_,i_,i_,i_] ?_
           refine qpu_ 2 (some 94) #[o_,o_,o_,i_,i_,i_,i_,i_,i_,i_,i_,i_] ?_
           refine qpu_ 3 (some 95) #[o_,o_,o_,o_,i_,i_,i_,i_,i_,i_,i_,i_] ?_
           refine qpu_ 5 (some 97) #[o_,o_,o_,o_,i_,o_,i_,i_,i_,i_,i_,i_] ?_
           refine qpu_ 6 (some 98) #[o_,o_,o_,o_,i_,o_,o_,i_,i_,i_,i_,i_] ?_
           refine qpu_ 7 (some 99) #[o_,o_,o_,o_,i_,o_,o_,o_,i_,i_,i_,i_] ?_
           refine a2g (i := 4) (N := some 96) (v := ?_) (a' := ?_) #[o_,o_,o_,o_,o_,o_,o_,o_,i_,i_,i_,i_] rfl rfl (a1r HT_.out HW_.out (by kernel_rfl)) (fun _ _ _ h => h) (Or.inl ⟨by rfl, ?_⟩) hHeld ?_ ?_
           rotate_left
           ·rintro w' ⟨s0, s1, s2, s3, s4, s5, s6, s7⟩
            go_simp
            with_reducible rfl
           rotate_left
           ·exact qp_
           refine a2g (i := 8) (N := some 100) (v := ?_) (a' := ?_) #[o_,o_,o_,o_,o_,o_,o_,o_,o_,i_,i_,i_] rfl rfl (a1r HT_.out HW_.out (by kernel_rfl)) (fun _ _ _ h => h) (Or.inl ⟨by rfl, ?_⟩) hHeld ?_ ?_
           rotate_left
           ·rintro w' ⟨s0, s1, s2, s3, s4, s5, s6, s7⟩
            go_simp
            with_reducible rfl
           rotate_left
           ·exact qp_
           refine one_ (i := 9) (N := some 101) #[o_,o_,o_,o_,o_,o_,o_,o_,o_,o_,i_,i_] rfl rfl (a3h HT_.out (by kernel_rfl)) (by decide) (fun K hK => ?_)
           refine a5r Try.func44 (by kernel_rfl) rfl #[.agg #[.int .i64 ((a0c l0 a2).f0), .int .i64 ((a0c l0 a2).f1), .int .i64 ((a0c l0 a2).f2), .int .i64 ((a0c l0 a2).f3)], .agg #[.int .i64 ((a0c l0 (ji37)).f0), .int .i64 ((a0c l0 (ji37)).f1), .int .i64 ((a0c l0 (ji37)).f2), .int .i64 ((a0c l0 (ji37)).f3)]] (by rfl) rfl rfl (by rfl) (by (try simp only [List.map_toArray, List.map_cons, List.map_nil]); first | done | (simp only [hji37]; rfl) | rfl | (simp only [List.length_drop, List.length_take]; rfl)) ?_
           with_reducible refine (a2h.calls ((a0c l0 a2).f0) ((a0c l0 a2).f1) ((a0c l0 a2).f2) ((a0c l0 a2).f3) ((a0c l0 (ji37)).f0) ((a0c l0 (ji37)).f1) ((a0c l0 (ji37)).f2) ((a0c l0 (ji37)).f3) t160 _ A40.out).mono ?_
           rintro e w47 ⟨rfl, hb⟩
           have HS0_ := (hb.cell (World.block_lt_of_cell? _ _ (hHeld.1))).trans (hHeld.1)
           have HS1_ := (hb.cell (World.block_lt_of_cell? _ _ (hHeld.2.1))).trans (hHeld.2.1)
           have HS2_ := (hb.cell (World.block_lt_of_cell? _ _ (hHeld.2.2.1))).trans (hHeld.2.2.1)
           have HS3_ := (hb.cell (World.block_lt_of_cell? _ _ (hHeld.2.2.2.1))).trans (hHeld.2.2.2.1)
           have HS4_ := (hb.cell (World.block_lt_of_cell? _ _ (hHeld.2.2.2.2.1))).trans (hHeld.2.2.2.2.1)
           have HS5_ := (hb.cell (World.block_lt_of_cell? _ _ (hHeld.2.2.2.2.2.1))).trans (hHeld.2.2.2.2.2.1)
           have HS6_ := (hb.cell (World.block_lt_of_cell? _ _ (hHeld.2.2.2.2.2.2.1))).trans (hHeld.2.2.2.2.2.2.1)
           have HS7_ := (hb.cell (World.block_lt_of_cell? _ _ (hHeld.2.2.2.2.2.2.2))).trans (hHeld.2.2.2.2.2.2.2)
           refine ⟨_, rfl, ?_⟩
           replace HO_0 := qrb_ HO_0 hb
           replace HK := am_ (Kept.below (S := (fun k_ => P0_ k_)) (by repeat (first | (with_reducible first | exact HK.out | apply Kept.alloc | apply Kept.drewN | apply Kept.drew) | exact HK.out)) hb)
           replace HB := qbs_ hb
           (try clear hb)
           (try clear hb2)
           (try clear hk)
           (try clear hi)
           refine hK.out _ _ ⟨HS0_, HS1_, HS2_, HS3_, HS4_, HS5_, HS6_, HS7_⟩ (fun hHeld => ?_)
           clear hK K
           refine a4b (a' := ?_) ?_ ?_
           rotate_left
           ·show Act.put _ (some 101) _ = _
            exact qp_
           refine qpu_ 10 (some 102) #[o_,o_,o_,o_,o_,o_,o_,o_,o_,o_,o_,i_] ?_
           refine qpu_ 11 (some 103) #[o_,o_,o_,o_,o_,o_,o_,o_,o_,o_,o_,o_] ?_
           refine a3o (a3b HT_.out (by kernel_rfl)) ?_
           try go_wp2
           go_roundg k1
           case measure => have := HK1.out; omega
           case rel => exact ⟨(wrap64 ((ji37) + 1)), (x15_1), (by first | rfl | (simp; done) | (simp only [← hji37] <;> (first | rfl | simp)) | (simp [*]; done)), qs_, H', ⟨by have := HK1.out; omega⟩, ⟨by (with_reducible repeat (first | apply Kd.a0n | apply Kd.a0o | apply Kd.a0m)); exact HO_0.out⟩, ⟨by repeat (first | (with_reducible first | exact HK.out | apply Kept.alloc | apply Kept.drewN | apply Kept.drew) | exact HK.out)⟩, ⟨qb_⟩⟩
         ·rw [if_neg c39] at H
          exact absurd H (by simp)
        ·rw [if_neg c38] at H
         exact absurd H (by simp)
       ·rw [if_neg c36] at H
        exact absurd H (by simp)
      ·rw [if_neg c35] at H
       exact absurd H (by simp)
     ·rw [if_neg c34] at H
      have c34b0 : decide (x14_1 < x15_1) = false := decide_eq_false c34
      clear c34
      have H' := am_ H
      clear H
      go_wp2
      go_loopg [17] k1 (fun kq v17 w' => ∃ (x0_2 : List (S26)) (x17_2 : Int), v17 = .int .i64 x17_2 ∧ Aside0 (a0b.l3 kq x0_2 x14_1 x17_2 = some r) ∧ Aside0 (kq ≤ k1) ∧ Aside0 (Kd.R k26 26 w' w0.heap.size (fun k_ => (P0_ k_ ∨ w.heap.size ≤ k_)) u9000_ x0_2) ∧ Aside0 (Kept w w' (fun k_ => P0_ k_)) ∧ Aside0 (Below w0.heap.size w0 w'))
      case atStart => exact ⟨(l0), (a2), qs_, H', ⟨Nat.le_refl _⟩, ⟨by (with_reducible repeat (first | apply Kd.a0n | apply Kd.a0o | apply Kd.a0m)); exact HO_0.out⟩, ⟨by repeat (first | (with_reducible first | exact HK.out | apply Kept.alloc | apply Kept.drewN | apply Kept.drew) | exact HK.out)⟩, ⟨qb_⟩⟩
      case round =>
       clear H'
       try clear c1
       try clear p1
       try clear q1
       try clear hx1
       try clear c2
       try clear p2
       try clear q2
       try clear hx2
       try clear c3
       try clear c4
       try clear c6
       try clear c6b0
       try clear c6b1
       try clear p6
       try clear c7
       try clear c7b0
       try clear c9
       try clear c9b0
       try clear c10
       try clear c10b0
       try clear c11
       try clear c11b0
       try clear c12
       try clear c12b0
       try clear c14
       try clear c14b0
       try clear p15
       try clear q15
       try clear hx15
       try clear c21
       try clear c21b0
       try clear c23
       try clear c23b0
       try clear c24
       try clear c24b0
       try clear c25
       try clear c25b0
       try clear c26
       try clear c26b0
       try clear c27
       try clear p27
       try clear q27
       try clear hx27
       try clear hf27
       try clear c28
       try clear p28
       try clear q28
       try clear hx28
       try clear hf28
       try clear c31
       try clear c32
       try clear c33
       try clear c33b0
       try clear c33b1
       try clear c34
       try clear c34b0
       try clear c35
       try clear c35b0
       try clear c36
       try clear c36b0
       try clear c38
       try clear c38b0
       try clear c39
       try clear c39b0
       try clear c41
       try clear c41b0
       try clear c44
       try clear hx151_0
       try clear hx151_1
       try clear hx151_2
       try clear hx151_3
       try clear hx152_0
       try clear hx152_1
       try clear hx152_2
       try clear hx152_3
       try clear hx154_0
       try clear hx154_1
       try clear hx154_2
       try clear hx154_3
       try clear hx155_0
       try clear hx155_1
       try clear hx155_2
       try clear hx155_3
       try clear hx158_0
       try clear hx158_1
       try clear hx158_2
       try clear hx158_3
       try clear hx159_0
       try clear hx159_1
       try clear hx159_2
       try clear hx159_3
       try clear hx27_0
       try clear hx27_1
       try clear hx27_2
       try clear hx27_3
       try clear hx28_0
       try clear hx28_1
       try clear hx28_2
       try clear hx28_3
       try clear p1
       try clear p15
       try clear p151
       try clear p152
       try clear p154
       try clear p155
       try clear p158
       try clear p159
       try clear p2
       try clear p27
       try clear p28
       try clear p6
       try clear q1
       try clear q15
       try clear q151
       try clear q152
       try clear q154
       try clear q155
       try clear q158
       try clear q159
       try clear q2
       try clear q27
       try clear q28
       obtain ⟨x0_2, x17_2, rfl, HA, HK2, HO_0, HK, HB⟩ := hrel
       cases gk with
       | zero => exact absurd HA.out (by simp [a0b.l3])
       | succ k2 =>
        have H := HA.out
        clear HA
        simp only [a0b.l3] at H
        by_cases c48 : x17_2 > x14_1
        ·rw [if_pos c48] at H
         have c48b0 : decide (x14_1 < x17_2) = true := decide_eq_true c48
         clear c48
         obtain ⟨ji49, hji49⟩ : ∃ j_ : Int, (wrap64 (x17_2 - 1)) = j_ := ⟨_, rfl⟩
         replace H : (if 0 ≤ (ji49) then (if (ji49) < (x0_2.length : Int) then (if 0 ≤ x17_2 then (if x17_2 < (x0_2.length : Int) then (a0b.l3 k2 ((x0_2.set (x17_2 : Int).toNat (⟨(a0c x0_2 (ji49)).f0, (a0c x0_2 (ji49)).f1, (a0c x0_2 (ji49)).f2, (a0c x0_2 (ji49)).f3⟩ : S26)).set ((ji49) : Int).toNat (⟨(a0c x0_2 x17_2).f0, (a0c x0_2 x17_2).f1, (a0c x0_2 x17_2).f2, (a0c x0_2 x17_2).f3⟩ : S26)) x14_1 ji49) else (none)) else (none)) else (none)) else (none)) = some r := by first | (rw [hji49] at H; exact H) | (simp only [hji49] at H ⊢; exact H)
         have hji49w : (IntKind.i64.wrap (x17_2 - 1)) = ji49 := (a3k _).trans hji49
         by_cases c50 : 0 ≤ (ji49)
         ·rw [if_pos c50] at H
          have c50b0 : decide (0 ≤ (ji49)) = true := decide_eq_true c50
          clear c50
          by_cases c51 : (ji49) < (x0_2.length : Int)
          ·rw [if_pos c51] at H
           have c51b0 : decide ((ji49) < (x0_2.length : Int)) = true := decide_eq_true c51
           clear c51
           by_cases c52 : 0 ≤ x17_2
           ·rw [if_pos c52] at H
            have c52b0 : decide (0 ≤ x17_2) = true := decide_eq_true c52
            clear c52
            by_cases c53 : x17_2 < (x0_2.length : Int)
            ·rw [if_pos c53] at H
             have c53b0 : decide (x17_2 < (x0_2.length : Int)) = true := decide_eq_true c53
             clear c53
             obtain ⟨y163, hy163⟩ : ∃ y_ : List (S26), y_ = (x0_2.set (x17_2 : Int).toNat (⟨(a0c x0_2 (ji49)).f0, (a0c x0_2 (ji49)).f1, (a0c x0_2 (ji49)).f2, (a0c x0_2 (ji49)).f3⟩ : S26)) := ⟨_, rfl⟩
             replace H : (a0b.l3 k2 (y163.set ((ji49) : Int).toNat (⟨(a0c x0_2 x17_2).f0, (a0c x0_2 x17_2).f1, (a0c x0_2 x17_2).f2, (a0c x0_2 x17_2).f3⟩ : S26)) x14_1 ji49) = some r := by first | (rw [hy163]; with_reducible exact H) | (have H2_ := (Option.bind_some _ _).symm.trans H; rw [hy163]; with_reducible exact H2_) | (have H2_ := (Option.bind_some _ _).symm.trans H; with_reducible exact H2_) | with_reducible exact H | (rw [hy163]; exact H) | exact H
             have Ny163 := am_ hy163
             clear hy163
             obtain ⟨y164, hy164⟩ : ∃ y_ : List (S26), y_ = (y163.set ((ji49) : Int).toNat (⟨(a0c x0_2 x17_2).f0, (a0c x0_2 x17_2).f1, (a0c x0_2 x17_2).f2, (a0c x0_2 x17_2).f3⟩ : S26)) := ⟨_, rfl⟩
             replace H : (a0b.l3 k2 y164 x14_1 ji49) = some r := by first | (rw [hy164]; with_reducible exact H) | (have H2_ := (Option.bind_some _ _).symm.trans H; rw [hy164]; with_reducible exact H2_) | (have H2_ := (Option.bind_some _ _).symm.trans H; with_reducible exact H2_) | with_reducible exact H | (rw [hy164]; exact H) | exact H
             have Ny164 := am_ hy164
             clear hy164
             have H' := am_ H
             clear H
             try go_wp2
             replace HO_0 := am_ (Kd.a0m HO_0.out)
             replace HK := am_ (Kept.drew HK.out)
             replace HB := am_ (ld_ HB.out)
             obtain ⟨Ao57, co57, eo57⟩ := Kd.a1v HO_0.out
             (first | subst eo57 | (injection eo57 with f1_ f2_ f3_; have f4_ := f1_.symm; have f5_ := f3_.symm; clear f1_ f2_ f3_; subst f4_; subst f5_))
             have p161 : 0 ≤ ((ji49) : Int) := ot_
             have q161 : (ji49) < (x0_2.length : Int) := ot_
             obtain ⟨ad161, e161, hx161_0, hx161_1, hx161_2, hx161_3⟩ := a3i (Kd.a0p HO_0.out).2.2 (ji49) p161 q161
             cases e161
             replace p161 := eq_true p161
             replace q161 := eq_true q161
             have p162 : 0 ≤ (x17_2 : Int) := ot_
             have q162 : x17_2 < (x0_2.length : Int) := ot_
             obtain ⟨ad162, e162, hx162_0, hx162_1, hx162_2, hx162_3⟩ := a3i (Kd.a0p HO_0.out).2.2 x17_2 p162 q162
             obtain rfl : ad161 = ad162 := (by injection e162)
             replace p162 := eq_true p162
             replace q162 := eq_true q162
             have p54 : 0 ≤ (x17_2 : Int) := ot_
             have q54 : (x17_2 : Int) < ((x0_2.length : Int) : Int) := ot_
             obtain ⟨go54, co54, eo54, gb54, gl54, cl54, HG54⟩ := Kd.a7j HO_0.out (by omega)
             (first | cases eo54 | (injection eo54 with ea_ en_ ec_; (first | subst ea_ | (injection ea_ with ea_; subst ea_)); subst ec_; clear en_))
             have GB54 := am_ gb54
             have GG54 := am_ HG54
             clear gb54 gl54 HG54
             have HMgo54 := am_ (show (P0_ go54 ∨ w.heap.size ≤ go54) from (HO_0.out.1 _ rfl))
             (first | simp only [add_plain] at hx161_0 | skip)
             (first | simp only [add_plain] at hx161_1 | skip)
             (first | simp only [add_plain] at hx161_2 | skip)
             (first | simp only [add_plain] at hx161_3 | skip)
             (first | simp only [add_plain] at hx162_0 | skip)
             (first | simp only [add_plain] at hx162_1 | skip)
             (first | simp only [add_plain] at hx162_2 | skip)
             (first | simp only [add_plain] at hx162_3 | skip)
             obtain ⟨ce54, hcl54, hM54, hcc54, hfr54⟩ := Kd.a3x HO_0.out z26 (x17_2 : Int) p54 q54
             obtain rfl := a3l hM54
             have hx54_0 : World.cell? _ ⟨go54, (x17_2 : Int).toNat * 4, none⟩ = some (.int .i64 ((a0c x0_2 x17_2).f0)) := hcc54 0 _ rfl
             have hx54_1 : World.cell? _ ⟨go54, (x17_2 : Int).toNat * 4 + 1, none⟩ = some (.int .i64 ((a0c x0_2 x17_2).f1)) := hcc54 1 _ rfl
             have hx54_2 : World.cell? _ ⟨go54, (x17_2 : Int).toNat * 4 + 2, none⟩ = some (.int .i64 ((a0c x0_2 x17_2).f2)) := hcc54 2 _ rfl
             have hx54_3 : World.cell? _ ⟨go54, (x17_2 : Int).toNat * 4 + 3, none⟩ = some (.int .i64 ((a0c x0_2 x17_2).f3)) := hcc54 3 _ rfl
             have hf54_0 : World.frozen? _ ⟨go54, (x17_2 : Int).toNat * 4, none⟩ = false := hfr54 0
             have hf54_1 : World.frozen? _ ⟨go54, (x17_2 : Int).toNat * 4 + 1, none⟩ = false := hfr54 1
             have hf54_2 : World.frozen? _ ⟨go54, (x17_2 : Int).toNat * 4 + 2, none⟩ = false := hfr54 2
             have hf54_3 : World.frozen? _ ⟨go54, (x17_2 : Int).toNat * 4 + 3, none⟩ = false := hfr54 3
             clear hcl54 hcc54 hfr54 hM54
             replace p54 := eq_true p54
             replace q54 := eq_true q54
             obtain ⟨ce58, hcl58, hM58, hcc58, hfr58⟩ := Kd.a3x HO_0.out z26 (x17_2 : Int) (ot_) (by have h_ : (x17_2 : Int) < ((x0_2.length : Int) : Int) := ot_; first | exact h_ | (have e_ := (Kd.a0p HO_0.out).1; omega) | simpa using h_)
             obtain rfl := a3l hM58
             have HP58 := (Kd.a5y HO_0.out (x17_2 : Int) (ot_) (by have h_ : (x17_2 : Int) < ((x0_2.length : Int) : Int) := ot_; first | exact h_ | (have e_ := (Kd.a0p HO_0.out).1; omega) | simpa using h_) (seg := [.int .i64 ((a0c x0_2 (ji49)).f0), .int .i64 ((a0c x0_2 (ji49)).f1), .int .i64 ((a0c x0_2 (ji49)).f2), .int .i64 ((a0c x0_2 (ji49)).f3)]) (j := 0) hcl58 hcc58 (show 4 ≤ 4 from by decide) (x' := (⟨(a0c x0_2 (ji49)).f0, (a0c x0_2 (ji49)).f1, (a0c x0_2 (ji49)).f2, (a0c x0_2 (ji49)).f3⟩ : S26)) (a4w _ _ _ (⟨(a0c x0_2 (ji49)).f0, (a0c x0_2 (ji49)).f1, (a0c x0_2 (ji49)).f2, (a0c x0_2 (ji49)).f3⟩ : S26) ) (fun _ hk => hk)).1
             rw [← Ny163.out] at HP58
             have HQ58 := am_ HP58
             clear hcl58 hcc58 hfr58 hM58 HP58
             have p55 : 0 ≤ ((ji49) : Int) := ot_
             have q55 : ((ji49) : Int) < ((x0_2.length : Int) : Int) := ot_
             obtain ⟨ce55, hcl55, hM55, hcc55, hfr55⟩ := Kd.a3x HQ58.out z26 ((ji49) : Int) p55 q55
             obtain rfl := a3l hM55
             have hx55_0 : World.cell? _ ⟨go54, ((ji49) : Int).toNat * 4, none⟩ = some (.int .i64 ((a0c y163 (ji49)).f0)) := hcc55 0 _ rfl
             have hx55_1 : World.cell? _ ⟨go54, ((ji49) : Int).toNat * 4 + 1, none⟩ = some (.int .i64 ((a0c y163 (ji49)).f1)) := hcc55 1 _ rfl
             have hx55_2 : World.cell? _ ⟨go54, ((ji49) : Int).toNat * 4 + 2, none⟩ = some (.int .i64 ((a0c y163 (ji49)).f2)) := hcc55 2 _ rfl
             have hx55_3 : World.cell? _ ⟨go54, ((ji49) : Int).toNat * 4 + 3, none⟩ = some (.int .i64 ((a0c y163 (ji49)).f3)) := hcc55 3 _ rfl
             have hf55_0 : World.frozen? _ ⟨go54, ((ji49) : Int).toNat * 4, none⟩ = false := hfr55 0
             have hf55_1 : World.frozen? _ ⟨go54, ((ji49) : Int).toNat * 4 + 1, none⟩ = false := hfr55 1
             have hf55_2 : World.frozen? _ ⟨go54, ((ji49) : Int).toNat * 4 + 2, none⟩ = false := hfr55 2
             have hf55_3 : World.frozen? _ ⟨go54, ((ji49) : Int).toNat * 4 + 3, none⟩ = false := hfr55 3
             clear hcl55 hcc55 hfr55 hM55
             replace p55 := eq_true p55
             replace q55 := eq_true q55
             obtain ⟨ce59, hcl59, hM59, hcc59, hfr59⟩ := Kd.a3x HQ58.out z26 ((ji49) : Int) (ot_) (by have h_ : ((ji49) : Int) < ((x0_2.length : Int) : Int) := ot_; first | exact h_ | (have e_ := (Kd.a0p HO_0.out).1; omega) | simpa using h_)
             obtain rfl := a3l hM59
             have HP59 := (Kd.a5y HQ58.out ((ji49) : Int) (ot_) (by have h_ : ((ji49) : Int) < ((x0_2.length : Int) : Int) := ot_; first | exact h_ | (have e_ := (Kd.a0p HO_0.out).1; omega) | simpa using h_) (seg := [.int .i64 ((a0c x0_2 x17_2).f0), .int .i64 ((a0c x0_2 x17_2).f1), .int .i64 ((a0c x0_2 x17_2).f2), .int .i64 ((a0c x0_2 x17_2).f3)]) (j := 0) hcl59 hcc59 (show 4 ≤ 4 from by decide) (x' := (⟨(a0c x0_2 x17_2).f0, (a0c x0_2 x17_2).f1, (a0c x0_2 x17_2).f2, (a0c x0_2 x17_2).f3⟩ : S26)) (a4w _ _ _ (⟨(a0c x0_2 x17_2).f0, (a0c x0_2 x17_2).f1, (a0c x0_2 x17_2).f2, (a0c x0_2 x17_2).f3⟩ : S26) ) (fun _ hk => hk)).1
             rw [← Ny164.out] at HP59
             have HQ59 := am_ HP59
             clear hcl59 hcc59 hfr59 hM59 HP59
             refine a3g (n := 18) (S := fun w' => w'.cell? ⟨go54, (((ji49)).toNat * 4), none⟩ = some (.int .i64 ((a0c x0_2 (ji49)).f0)) ∧ w'.cell? ⟨go54, (((ji49)).toNat * 4) + 1, none⟩ = some (.int .i64 ((a0c x0_2 (ji49)).f1)) ∧ w'.cell? ⟨go54, (((ji49)).toNat * 4) + 2, none⟩ = some (.int .i64 ((a0c x0_2 (ji49)).f2)) ∧ w'.cell? ⟨go54, (((ji49)).toNat * 4) + 3, none⟩ = some (.int .i64 ((a0c x0_2 (ji49)).f3)) ∧ w'.cell? ⟨go54, ((x17_2).toNat * 4), none⟩ = some (.int .i64 ((a0c x0_2 x17_2).f0)) ∧ w'.cell? ⟨go54, ((x17_2).toNat * 4) + 1, none⟩ = some (.int .i64 ((a0c x0_2 x17_2).f1)) ∧ w'.cell? ⟨go54, ((x17_2).toNat * 4) + 2, none⟩ = some (.int .i64 ((a0c x0_2 x17_2).f2)) ∧ w'.cell? ⟨go54, ((x17_2).toNat * 4) + 3, none⟩ = some (.int .i64 ((a0c x0_2 x17_2).f3))) (ds := [15, 17]) #[i_,i_,i_,i_,i_,i_,i_,i_,i_,i_,i_,i_,i_,i_,i_,i_,i_,i_] (by kernel_rfl) rfl rfl ⟨hx161_0, hx161_1, hx161_2, hx161_3, hx162_0, hx162_1, hx162_2, hx162_3⟩ (fun hHeld => ?_); refine a2l a0b.b5q a0b.b4x (fun HT_ HW_ => ?_)
             generalize wr.drew = w56 at HO_0 HK HB GG54 HQ58 HQ59 hf54_0 hf54_1 hf54_2 hf54_3 hf55_0 hf55_1 hf55_2 hf55_3 hx161_0 hx161_1 hx161_2 hx161_3 hx162_0 hx162_1 hx162_2 hx162_3 hx54_0 hx54_1 hx54_2 hx54_3 hx55_0 hx55_1 hx55_2 hx55_3 hHeld ⊢
             refine qpu_ 0 (some 113) #[o_,i_,i_,i_,i_,i_,i_,i_,i_,i_,i_,i_,i_,i_,i_,i_,i_,i_] ?_
             refine qpu_ 1 (some 114) #[o_,o_,i_,i_,i_,i_,i_,i_,i_,i_,i_,i_,i_,i_,i_,i_,i_,i_] ?_
             refine qpu_ 2 (some 115) #[o_,o_,o_,i_,i_,i_,i_,i_,i_,i_,i_,i_,i_,i_,i_,i_,i_,i_] ?_
             refine qpu_ 3 (some 116) #[o_,o_,o_,o_,i_,i_,i_,i_,i_,i_,i_,i_,i_,i_,i_,i_,i_,i_] ?_
             refine qpu_ 4 (some 117) #[o_,o_,o_,o_,o_,i_,i_,i_,i_,i_,i_,i_,i_,i_,i_,i_,i_,i_] ?_
             refine qpu_ 5 (some 118) #[o_,o_,o_,o_,o_,o_,i_,i_,i_,i_,i_,i_,i_,i_,i_,i_,i_,i_] ?_
             refine qpu_ 6 (some 119) #[o_,o_,o_,o_,o_,o_,o_,i_,i_,i_,i_,i_,i_,i_,i_,i_,i_,i_] ?_
             refine qpu_ 7 (some 120) #[o_,o_,o_,o_,o_,o_,o_,o_,i_,i_,i_,i_,i_,i_,i_,i_,i_,i_] ?_
             refine qpu_ 8 (some 121) #[o_,o_,o_,o_,o_,o_,o_,o_,o_,i_,i_,i_,i_,i_,i_,i_,i_,i_] ?_
             refine qpu_ 10 (some 123) #[o_,o_,o_,o_,o_,o_,o_,o_,o_,i_,o_,i_,i_,i_,i_,i_,i_,i_] ?_
             refine qpu_ 11 (some 124) #[o_,o_,o_,o_,o_,o_,o_,o_,o_,i_,o_,o_,i_,i_,i_,i_,i_,i_] ?_
             refine qpu_ 12 (some 125) #[o_,o_,o_,o_,o_,o_,o_,o_,o_,i_,o_,o_,o_,i_,i_,i_,i_,i_] ?_
             refine a2g (i := 9) (N := some 122) (v := ?_) (a' := ?_) #[o_,o_,o_,o_,o_,o_,o_,o_,o_,o_,o_,o_,o_,i_,i_,i_,i_,i_] rfl rfl (a1r HT_.out HW_.out (by kernel_rfl)) (fun _ _ _ h => h) (Or.inl ⟨by rfl, ?_⟩) hHeld ?_ ?_
             rotate_left
             ·rintro w' ⟨s0, s1, s2, s3, s4, s5, s6, s7⟩
              go_simp
              with_reducible rfl
             rotate_left
             ·exact qp_
             refine a2g (i := 13) (N := some 126) (v := ?_) (a' := ?_) #[o_,o_,o_,o_,o_,o_,o_,o_,o_,o_,o_,o_,o_,o_,i_,i_,i_,i_] rfl rfl (a1r HT_.out HW_.out (by kernel_rfl)) (fun _ _ _ h => h) (Or.inl ⟨by rfl, ?_⟩) hHeld ?_ ?_
             rotate_left
             ·rintro w' ⟨s0, s1, s2, s3, s4, s5, s6, s7⟩
              go_simp
              with_reducible rfl
             rotate_left
             ·exact qp_
             refine qpu_ 14 (some 127) #[o_,o_,o_,o_,o_,o_,o_,o_,o_,o_,o_,o_,o_,o_,o_,i_,i_,i_] ?_
             refine a6k (i := 15) (N := none) #[o_,o_,o_,o_,o_,o_,o_,o_,o_,o_,o_,o_,o_,o_,o_,o_,i_,i_] rfl rfl (a3h HT_.out (by kernel_rfl)) (by decide) (fun K hK => ?_)
             refine a6l (w1 := ?_) (by rfl) rfl ?_ ?_
             rotate_left
             ·go_simp
              rfl
             refine hK.out _ _ ?_
             clear hK K
             obtain ⟨ww_, hWW_⟩ : ∃ w_, World.setCells w56 go54 ((x17_2 : Int).toNat * k26.sz + 0) [.int .i64 ((a0c x0_2 (ji49)).f0), .int .i64 ((a0c x0_2 (ji49)).f1), .int .i64 ((a0c x0_2 (ji49)).f2), .int .i64 ((a0c x0_2 (ji49)).f3)] = w_ := ⟨_, rfl⟩
             rw [hWW_] at hx55_0 hx55_1 hx55_2 hx55_3 hf55_0 hf55_1 hf55_2 hf55_3
             replace HQ58 := HQ58.out
             replace HQ59 := HQ59.out
             rw [hWW_] at HQ58 HQ59
             replace HQ58 := am_ HQ58
             replace HQ59 := am_ HQ59
             replace hWW_ : (World.setCell (World.setCell (World.setCell (World.setCell w56 ⟨go54, ((x17_2 : Int)).toNat * 4, none⟩ (.int .i64 ((a0c x0_2 (ji49)).f0))) ⟨go54, ((x17_2 : Int)).toNat * 4 + 1, none⟩ (.int .i64 ((a0c x0_2 (ji49)).f1))) ⟨go54, ((x17_2 : Int)).toNat * 4 + 2, none⟩ (.int .i64 ((a0c x0_2 (ji49)).f2))) ⟨go54, ((x17_2 : Int)).toNat * 4 + 3, none⟩ (.int .i64 ((a0c x0_2 (ji49)).f3))) = ww_ := hWW_
             rw [hWW_]
             refine qpu_ 16 (some 128) #[o_,o_,o_,o_,o_,o_,o_,o_,o_,o_,o_,o_,o_,o_,o_,o_,o_,i_] ?_
             refine a6k (i := 17) (N := none) #[o_,o_,o_,o_,o_,o_,o_,o_,o_,o_,o_,o_,o_,o_,o_,o_,o_,o_] rfl rfl (a3h HT_.out (by kernel_rfl)) (by decide) (fun K hK => ?_)
             refine a6l (w1 := ?_) (by rfl) rfl ?_ ?_
             rotate_left
             ·go_simp
              rfl
             refine hK.out _ _ ?_
             clear hK K
             subst hWW_
             refine a3o (a3b HT_.out (by kernel_rfl)) ?_
             try go_wp2
             go_roundg k2
             case measure => have := HK1.out; have := HK2.out; omega
             case rel => exact ⟨(y164), (ji49), (by first | rfl | (simp; done) | (simp only [← hji49] <;> (first | rfl | simp)) | (simp [*]; done)), H', ⟨by have := HK1.out; have := HK2.out; omega⟩, ⟨by (with_reducible repeat (first | apply Kd.a0n | apply Kd.a0o | apply Kd.a0m)); exact HQ59.out⟩, ⟨by repeat (first | (with_reducible first | exact HK.out | apply Kept.alloc | apply Kept.drewN | apply Kept.drew | refine Kept.setCell ?_ HMgo54.out _ | refine Kept.setCell ?_ HMgo54.out _ | refine Kept.setCell ?_ HMgo54.out _ | refine Kept.setCell ?_ HMgo54.out _ | refine Kept.setCell ?_ HMgo54.out _ | refine Kept.setCell ?_ HMgo54.out _ | refine Kept.setCell ?_ HMgo54.out _ | refine Kept.setCell ?_ HMgo54.out _) | exact HK.out)⟩, ⟨by repeat (first | (with_reducible first | exact HB.out | apply la_ | apply ln_ | apply ld_ | refine ls_ ?_ GB54.out | refine ls_ ?_ GB54.out | refine ls_ ?_ GB54.out | refine ls_ ?_ GB54.out | refine ls_ ?_ GB54.out | refine ls_ ?_ GB54.out | refine ls_ ?_ GB54.out | refine ls_ ?_ GB54.out) | exact HB.out)⟩⟩
            ·rw [if_neg c53] at H
             exact absurd H (by simp)
           ·rw [if_neg c52] at H
            exact absurd H (by simp)
          ·rw [if_neg c51] at H
           exact absurd H (by simp)
         ·rw [if_neg c50] at H
          exact absurd H (by simp)
        ·rw [if_neg c48] at H
         have c48b0 : decide (x14_1 < x17_2) = false := decide_eq_false c48
         clear c48
         obtain rfl := si_ H
         go_wp2
         first | go_end0 | ((try simp only [Exit.inBlock, Exit.then]); refine bodyPost_ret (results_none rfl _ _ _) rfl ?_)
         exact ⟨qx_, by (with_reducible repeat (first | apply Kd.a0n | apply Kd.a0o | apply Kd.a0m)); exact HO_0.out, by repeat (first | (with_reducible first | exact HB.out | apply la_ | apply ln_ | apply ld_) | exact HB.out), by repeat (first | (with_reducible first | exact HK.out | apply Kept.alloc | apply Kept.drewN | apply Kept.drew) | exact HK.out)⟩
  ·rw [if_neg c33] at H
   have c33b0 : ((wrap64 (a3 - a2)) == 1) = false := beq_eq_false_iff_ne.mpr c33
   have c33b1 : ((wrap64 (a3 - a2)) != 1) = true := bne_iff_ne.mpr c33
   have HC60 := am_ H
   clear H
   go_enter Try.func67, Try.ntmps67
   go_upto_if 140 with (fail)
   go_cut [20, 21] (fun v20 v21 wc => ∃ (kq : Nat) (x20_59 : Int) (x21_59 : Int), v20 = .int .i64 x20_59 ∧ v21 = .int .i64 x21_59 ∧ Aside0 (a0b.j4 kq l0 a1 a2 a3 (wrap64 ((IntKind.u64.wrap (wrap64 (a1 + a3))) / 2)) (wrap64 ((wrap64 ((IntKind.u64.wrap (wrap64 (a1 + a3))) / 2)) + a2)) x20_59 x21_59 = some r) ∧ Aside0 (kq ≤ k) ∧ Aside0 (Kd.R k26 26 wc w0.heap.size (fun k_ => (P0_ k_ ∨ w.heap.size ≤ k_)) u9000_ l0) ∧ Aside0 (Kept w wc (fun k_ => P0_ k_)) ∧ Aside0 (Below w0.heap.size w0 wc))
   case first => as_aux_lemma =>
    have H := HC60.out
    clear HC60
    by_cases c61 : a2 > (wrap64 ((IntKind.u64.wrap (wrap64 (a1 + a3))) / 2))
    ·rw [if_pos c61] at H
     have c61b0 : decide ((wrap64 ((IntKind.u64.wrap (wrap64 (a1 + a3))) / 2)) < a2) = true := decide_eq_true c61
     clear c61
     (first | rw [c61b0] | (simp only [a3k, a4i]; rw [c61b0]) | skip)
     have H' := am_ H
     clear H
     go_wp2
     go_meet
     case rel => exact ⟨_, (wrap64 ((wrap64 ((wrap64 ((IntKind.u64.wrap (wrap64 (a1 + a3))) / 2)) + a2)) - a3)), (wrap64 ((IntKind.u64.wrap (wrap64 (a1 + a3))) / 2)), qs_, qs_, H', ⟨qo_⟩, ⟨by (with_reducible repeat (first | apply Kd.a0n | apply Kd.a0o | apply Kd.a0m)); exact HO0.out⟩, ⟨by repeat (first | (with_reducible first | exact HK.out | apply Kept.alloc | apply Kept.drewN | apply Kept.drew) | exact HK.out)⟩, ⟨qb_⟩⟩
    ·rw [if_neg c61] at H
     have c61b0 : decide ((wrap64 ((IntKind.u64.wrap (wrap64 (a1 + a3))) / 2)) < a2) = false := decide_eq_false c61
     clear c61
     (first | rw [c61b0] | (simp only [a3k, a4i]; rw [c61b0]) | skip)
     have H' := am_ H
     clear H
     go_wp2
     go_meet
     case rel => exact ⟨_, (a1), (a2), qs_, qs_, H', ⟨qo_⟩, ⟨by (with_reducible repeat (first | apply Kd.a0n | apply Kd.a0o | apply Kd.a0m)); exact HO0.out⟩, ⟨by repeat (first | (with_reducible first | exact HK.out | apply Kept.alloc | apply Kept.drewN | apply Kept.drew) | exact HK.out)⟩, ⟨qb_⟩⟩
   case rest => as_aux_lemma =>
    clear HC60
    try clear c1
    try clear p1
    try clear q1
    try clear hx1
    try clear c2
    try clear p2
    try clear q2
    try clear hx2
    try clear c3
    try clear c4
    try clear c5
    try clear p5
    try clear q5
    try clear hx5
    try clear hf5
    try clear c6
    try clear c6b0
    try clear c6b1
    try clear p6
    try clear c7
    try clear c7b0
    try clear c9
    try clear c9b0
    try clear c10
    try clear c10b0
    try clear c11
    try clear c11b0
    try clear c12
    try clear c12b0
    try clear c14
    try clear c14b0
    try clear p15
    try clear q15
    try clear hx15
    try clear p16
    try clear q16
    try clear hx16
    try clear c21
    try clear c21b0
    try clear c23
    try clear c23b0
    try clear c24
    try clear c24b0
    try clear c25
    try clear c25b0
    try clear c26
    try clear c26b0
    try clear c27
    try clear p27
    try clear q27
    try clear hx27
    try clear hf27
    try clear c28
    try clear p28
    try clear q28
    try clear hx28
    try clear hf28
    try clear c31
    try clear c32
    try clear c33
    try clear c33b0
    try clear c33b1
    try clear c34
    try clear c34b0
    try clear c35
    try clear c35b0
    try clear c36
    try clear c36b0
    try clear c38
    try clear c38b0
    try clear c39
    try clear c39b0
    try clear c41
    try clear c41b0
    try clear c44
    try clear c48
    try clear c48b0
    try clear c50
    try clear c50b0
    try clear c51
    try clear c51b0
    try clear c52
    try clear c52b0
    try clear c53
    try clear c53b0
    try clear c54
    try clear p54
    try clear q54
    try clear hx54
    try clear hf54
    try clear c55
    try clear p55
    try clear q55
    try clear hx55
    try clear hf55
    try clear c58
    try clear c59
    try clear c61
    try clear c61b0
    try clear hx151_0
    try clear hx151_1
    try clear hx151_2
    try clear hx151_3
    try clear hx152_0
    try clear hx152_1
    try clear hx152_2
    try clear hx152_3
    try clear hx154_0
    try clear hx154_1
    try clear hx154_2
    try clear hx154_3
    try clear hx155_0
    try clear hx155_1
    try clear hx155_2
    try clear hx155_3
    try clear hx158_0
    try clear hx158_1
    try clear hx158_2
    try clear hx158_3
    try clear hx159_0
    try clear hx159_1
    try clear hx159_2
    try clear hx159_3
    try clear hx161_0
    try clear hx161_1
    try clear hx161_2
    try clear hx161_3
    try clear hx162_0
    try clear hx162_1
    try clear hx162_2
    try clear hx162_3
    try clear hx27_0
    try clear hx27_1
    try clear hx27_2
    try clear hx27_3
    try clear hx28_0
    try clear hx28_1
    try clear hx28_2
    try clear hx28_3
    try clear hx54_0
    try clear hx54_1
    try clear hx54_2
    try clear hx54_3
    try clear hx55_0
    try clear hx55_1
    try clear hx55_2
    try clear hx55_3
    try clear p1
    try clear p15
    try clear p151
    try clear p152
    try clear p154
    try clear p155
    try clear p158
    try clear p159
    try clear p161
    try clear p162
    try clear p2
    try clear p27
    try clear p28
    try clear p54
    try clear p55
    try clear p6
    try clear q1
    try clear q15
    try clear q151
    try clear q152
    try clear q154
    try clear q155
    try clear q158
    try clear q159
    try clear q161
    try clear q162
    try clear q2
    try clear q27
    try clear q28
    try clear q54
    try clear q55
    obtain ⟨kq, x20_59, x21_59, rfl, rfl, HA, HJ59, HO_0, HK, HB⟩ := hcut
    cases kq with
    | zero => exact absurd HA.out (by simp [a0b.j4])
    | succ kj59 =>
     have H := HA.out
     clear HA
     simp only [a0b.j4] at H
     have H' := am_ H
     clear H
     go_wp2
     go_loopg [20, 21] kj59 (fun kq v20 v21 w' => ∃ (x20_2 : Int) (x21_2 : Int), v20 = .int .i64 x20_2 ∧ v21 = .int .i64 x21_2 ∧ Aside0 (a0b.l4 kq l0 a1 a2 a3 (wrap64 ((IntKind.u64.wrap (wrap64 (a1 + a3))) / 2)) (wrap64 ((wrap64 ((IntKind.u64.wrap (wrap64 (a1 + a3))) / 2)) + a2)) x20_2 x21_2 (wrap64 ((wrap64 ((wrap64 ((IntKind.u64.wrap (wrap64 (a1 + a3))) / 2)) + a2)) - 1)) = some r) ∧ Aside0 (kq ≤ kj59) ∧ Aside0 (Kd.R k26 26 w' w0.heap.size (fun k_ => (P0_ k_ ∨ w.heap.size ≤ k_)) u9000_ l0) ∧ Aside0 (Kept w w' (fun k_ => P0_ k_)) ∧ Aside0 (Below w0.heap.size w0 w'))
     case atStart => exact ⟨(x20_59), (x21_59), qs_, qs_, H', ⟨Nat.le_refl _⟩, ⟨by (with_reducible repeat (first | apply Kd.a0n | apply Kd.a0o | apply Kd.a0m)); exact HO_0.out⟩, ⟨by repeat (first | (with_reducible first | exact HK.out | apply Kept.alloc | apply Kept.drewN | apply Kept.drew) | exact HK.out)⟩, ⟨qb_⟩⟩
     case round =>
      clear H'
      try clear c1
      try clear p1
      try clear q1
      try clear hx1
      try clear c2
      try clear p2
      try clear q2
      try clear hx2
      try clear c3
      try clear c4
      try clear c5
      try clear p5
      try clear q5
      try clear hx5
      try clear hf5
      try clear c6
      try clear c6b0
      try clear c6b1
      try clear p6
      try clear c7
      try clear c7b0
      try clear c9
      try clear c9b0
      try clear c10
      try clear c10b0
      try clear c11
      try clear c11b0
      try clear c12
      try clear c12b0
      try clear c14
      try clear c14b0
      try clear p15
      try clear q15
      try clear hx15
      try clear p16
      try clear q16
      try clear hx16
      try clear c21
      try clear c21b0
      try clear c23
      try clear c23b0
      try clear c24
      try clear c24b0
      try clear c25
      try clear c25b0
      try clear c26
      try clear c26b0
      try clear c27
      try clear p27
      try clear q27
      try clear hx27
      try clear hf27
      try clear c28
      try clear p28
      try clear q28
      try clear hx28
      try clear hf28
      try clear c31
      try clear c32
      try clear c33
      try clear c33b0
      try clear c33b1
      try clear c34
      try clear c34b0
      try clear c35
      try clear c35b0
      try clear c36
      try clear c36b0
      try clear c38
      try clear c38b0
      try clear c39
      try clear c39b0
      try clear c41
      try clear c41b0
      try clear c44
      try clear c48
      try clear c48b0
      try clear c50
      try clear c50b0
      try clear c51
      try clear c51b0
      try clear c52
      try clear c52b0
      try clear c53
      try clear c53b0
      try clear c54
      try clear p54
      try clear q54
      try clear hx54
      try clear hf54
      try clear c55
      try clear p55
      try clear q55
      try clear hx55
      try clear hf55
      try clear c58
      try clear c59
      try clear c61
      try clear c61b0
      try clear hx151_0
      try clear hx151_1
      try clear hx151_2
      try clear hx151_3
      try clear hx152_0
      try clear hx152_1
      try clear hx152_2
      try clear hx152_3
      try clear hx154_0
      try clear hx154_1
      try clear hx154_2
      try clear hx154_3
      try clear hx155_0
      try clear hx155_1
      try clear hx155_2
      try clear hx155_3
      try clear hx158_0
      try clear hx158_1
      try clear hx158_2
      try clear hx158_3
      try clear hx159_0
      try clear hx159_1
      try clear hx159_2
      try clear hx159_3
      try clear hx161_0
      try clear hx161_1
      try clear hx161_2
      try clear hx161_3
      try clear hx162_0
      try clear hx162_1
      try clear hx162_2
      try clear hx162_3
      try clear hx27_0
      try clear hx27_1
      try clear hx27_2
      try clear hx27_3
      try clear hx28_0
      try clear hx28_1
      try clear hx28_2
      try clear hx28_3
      try clear hx54_0
      try clear hx54_1
      try clear hx54_2
      try clear hx54_3
      try clear hx55_0
      try clear hx55_1
      try clear hx55_2
      try clear hx55_3
      try clear p1
      try clear p15
      try clear p151
      try clear p152
      try clear p154
      try clear p155
      try clear p158
      try clear p159
      try clear p16
      try clear p161
      try clear p162
      try clear p2
      try clear p27
      try clear p28
      try clear p5
      try clear p54
      try clear p55
      try clear p6
      try clear q1
      try clear q15
      try clear q151
      try clear q152
      try clear q154
      try clear q155
      try clear q158
      try clear q159
      try clear q16
      try clear q161
      try clear q162
      try clear q2
      try clear q27
      try clear q28
      try clear q5
      try clear q54
      try clear q55
      obtain ⟨x20_2, x21_2, rfl, rfl, HA, HK2, HO_0, HK, HB⟩ := hrel
      cases gk with
      | zero => exact absurd HA.out (by simp [a0b.l4])
      | succ k2 =>
       have H := HA.out
       clear HA
       simp only [a0b.l4] at H
       by_cases c62 : x20_2 < x21_2
       ·rw [if_pos c62] at H
        have c62b0 : decide (x20_2 < x21_2) = true := decide_eq_true c62
        clear c62
        obtain ⟨ji63, hji63⟩ : ∃ j_ : Int, (wrap64 ((wrap64 ((wrap64 ((wrap64 ((IntKind.u64.wrap (wrap64 (a1 + a3))) / 2)) + a2)) - 1)) - (wrap64 ((IntKind.u64.wrap (wrap64 (x20_2 + x21_2))) / 2)))) = j_ := ⟨_, rfl⟩
        replace H : (if 0 ≤ (ji63) then (if (ji63) < (l0.length : Int) then (if 0 ≤ (wrap64 ((IntKind.u64.wrap (wrap64 (x20_2 + x21_2))) / 2)) then (if (wrap64 ((IntKind.u64.wrap (wrap64 (x20_2 + x21_2))) / 2)) < (l0.length : Int) then ((a2h.f ((a0c l0 (ji63)).f0) ((a0c l0 (ji63)).f1) ((a0c l0 (ji63)).f2) ((a0c l0 (ji63)).f3) ((a0c l0 (wrap64 ((IntKind.u64.wrap (wrap64 (x20_2 + x21_2))) / 2))).f0) ((a0c l0 (wrap64 ((IntKind.u64.wrap (wrap64 (x20_2 + x21_2))) / 2))).f1) ((a0c l0 (wrap64 ((IntKind.u64.wrap (wrap64 (x20_2 + x21_2))) / 2))).f2) ((a0c l0 (wrap64 ((IntKind.u64.wrap (wrap64 (x20_2 + x21_2))) / 2))).f3)).bind fun t167 => (if t167 < 0 then (a0b.l4 k2 l0 a1 a2 a3 (wrap64 ((IntKind.u64.wrap (wrap64 (a1 + a3))) / 2)) (wrap64 ((wrap64 ((IntKind.u64.wrap (wrap64 (a1 + a3))) / 2)) + a2)) x20_2 (wrap64 ((IntKind.u64.wrap (wrap64 (x20_2 + x21_2))) / 2)) (wrap64 ((wrap64 ((wrap64 ((IntKind.u64.wrap (wrap64 (a1 + a3))) / 2)) + a2)) - 1))) else (a0b.l4 k2 l0 a1 a2 a3 (wrap64 ((IntKind.u64.wrap (wrap64 (a1 + a3))) / 2)) (wrap64 ((wrap64 ((IntKind.u64.wrap (wrap64 (a1 + a3))) / 2)) + a2)) (wrap64 ((wrap64 ((IntKind.u64.wrap (wrap64 (x20_2 + x21_2))) / 2)) + 1)) x21_2 (wrap64 ((wrap64 ((wrap64 ((IntKind.u64.wrap (wrap64 (a1 + a3))) / 2)) + a2)) - 1))))) else (none)) else (none)) else (none)) else (none)) = some r := by first | (rw [hji63] at H; exact H) | (simp only [hji63] at H ⊢; exact H)
        have hji63w : (IntKind.i64.wrap ((wrap64 ((wrap64 ((wrap64 ((IntKind.u64.wrap (wrap64 (a1 + a3))) / 2)) + a2)) - 1)) - (wrap64 ((IntKind.u64.wrap (wrap64 (x20_2 + x21_2))) / 2)))) = ji63 := (a3k _).trans hji63
        by_cases c64 : 0 ≤ (ji63)
        ·rw [if_pos c64] at H
         have c64b0 : decide (0 ≤ (ji63)) = true := decide_eq_true c64
         clear c64
         by_cases c65 : (ji63) < (l0.length : Int)
         ·rw [if_pos c65] at H
          have c65b0 : decide ((ji63) < (l0.length : Int)) = true := decide_eq_true c65
          clear c65
          obtain ⟨ji66, hji66⟩ : ∃ j_ : Int, (wrap64 ((IntKind.u64.wrap (wrap64 (x20_2 + x21_2))) / 2)) = j_ := ⟨_, rfl⟩
          replace H : (if 0 ≤ (ji66) then (if (ji66) < (l0.length : Int) then ((a2h.f ((a0c l0 (ji63)).f0) ((a0c l0 (ji63)).f1) ((a0c l0 (ji63)).f2) ((a0c l0 (ji63)).f3) ((a0c l0 (ji66)).f0) ((a0c l0 (ji66)).f1) ((a0c l0 (ji66)).f2) ((a0c l0 (ji66)).f3)).bind fun t167 => (if t167 < 0 then (a0b.l4 k2 l0 a1 a2 a3 (wrap64 ((IntKind.u64.wrap (wrap64 (a1 + a3))) / 2)) (wrap64 ((wrap64 ((IntKind.u64.wrap (wrap64 (a1 + a3))) / 2)) + a2)) x20_2 ji66 (wrap64 ((wrap64 ((wrap64 ((IntKind.u64.wrap (wrap64 (a1 + a3))) / 2)) + a2)) - 1))) else (a0b.l4 k2 l0 a1 a2 a3 (wrap64 ((IntKind.u64.wrap (wrap64 (a1 + a3))) / 2)) (wrap64 ((wrap64 ((IntKind.u64.wrap (wrap64 (a1 + a3))) / 2)) + a2)) (wrap64 ((ji66) + 1)) x21_2 (wrap64 ((wrap64 ((wrap64 ((IntKind.u64.wrap (wrap64 (a1 + a3))) / 2)) + a2)) - 1))))) else (none)) else (none)) = some r := by first | (rw [hji66] at H; exact H) | (simp only [hji66] at H ⊢; exact H)
          have hji66w : (IntKind.i64.wrap ((IntKind.u64.wrap (wrap64 (x20_2 + x21_2))) / 2)) = ji66 := (a3k _).trans hji66
          have hji63x1 := hji63; rw [hji66] at hji63x1; have hji63y1 := hji63w; rw [hji66] at hji63y1
          by_cases c67 : 0 ≤ (ji66)
          ·rw [if_pos c67] at H
           have c67b0 : decide (0 ≤ (ji66)) = true := decide_eq_true c67
           clear c67
           by_cases c68 : (ji66) < (l0.length : Int)
           ·rw [if_pos c68] at H
            have c68b0 : decide ((ji66) < (l0.length : Int)) = true := decide_eq_true c68
            clear c68
            replace H := bm_ H
            obtain ⟨t167, A690, H⟩ := H
            replace H : (if t167 < 0 then (a0b.l4 k2 l0 a1 a2 a3 (wrap64 ((IntKind.u64.wrap (wrap64 (a1 + a3))) / 2)) (wrap64 ((wrap64 ((IntKind.u64.wrap (wrap64 (a1 + a3))) / 2)) + a2)) x20_2 ji66 (wrap64 ((wrap64 ((wrap64 ((IntKind.u64.wrap (wrap64 (a1 + a3))) / 2)) + a2)) - 1))) else (a0b.l4 k2 l0 a1 a2 a3 (wrap64 ((IntKind.u64.wrap (wrap64 (a1 + a3))) / 2)) (wrap64 ((wrap64 ((IntKind.u64.wrap (wrap64 (a1 + a3))) / 2)) + a2)) (wrap64 ((ji66) + 1)) x21_2 (wrap64 ((wrap64 ((wrap64 ((IntKind.u64.wrap (wrap64 (a1 + a3))) / 2)) + a2)) - 1)))) = some r := H
            have A69 := am_ A690
            clear A690
            by_cases c70 : t167 < 0
            ·rw [if_pos c70] at H
             have c70b0 : decide (t167 < 0) = true := decide_eq_true c70
             clear c70
             have H' := am_ H
             clear H
             try go_wp2
             replace HO_0 := am_ (Kd.a0m HO_0.out)
             replace HK := am_ (Kept.drew HK.out)
             replace HB := am_ (ld_ HB.out)
             obtain ⟨Ao72, co72, eo72⟩ := Kd.a1v HO_0.out
             (first | subst eo72 | (injection eo72 with f1_ f2_ f3_; have f4_ := f1_.symm; have f5_ := f3_.symm; clear f1_ f2_ f3_; subst f4_; subst f5_))
             have p165 : 0 ≤ ((ji63) : Int) := ot_
             have q165 : (ji63) < (l0.length : Int) := ot_
             obtain ⟨ad165, e165, hx165_0, hx165_1, hx165_2, hx165_3⟩ := a3i (Kd.a0p HO_0.out).2.2 (ji63) p165 q165
             cases e165
             replace p165 := eq_true p165
             replace q165 := eq_true q165
             have p166 : 0 ≤ ((ji66) : Int) := ot_
             have q166 : (ji66) < (l0.length : Int) := ot_
             obtain ⟨ad166, e166, hx166_0, hx166_1, hx166_2, hx166_3⟩ := a3i (Kd.a0p HO_0.out).2.2 (ji66) p166 q166
             obtain rfl : ad165 = ad166 := (by injection e166)
             replace p166 := eq_true p166
             replace q166 := eq_true q166
             refine a3g (n := 14) (S := fun w' => w'.cell? (ad165.add (((ji63)).toNat * 4)) = some (.int .i64 ((a0c l0 (ji63)).f0)) ∧ w'.cell? ⟨(ad165.add (((ji63)).toNat * 4)).block, (ad165.add (((ji63)).toNat * 4)).off + 1, none⟩ = some (.int .i64 ((a0c l0 (ji63)).f1)) ∧ w'.cell? ⟨(ad165.add (((ji63)).toNat * 4)).block, (ad165.add (((ji63)).toNat * 4)).off + 2, none⟩ = some (.int .i64 ((a0c l0 (ji63)).f2)) ∧ w'.cell? ⟨(ad165.add (((ji63)).toNat * 4)).block, (ad165.add (((ji63)).toNat * 4)).off + 3, none⟩ = some (.int .i64 ((a0c l0 (ji63)).f3)) ∧ w'.cell? (ad165.add (((ji66)).toNat * 4)) = some (.int .i64 ((a0c l0 (ji66)).f0)) ∧ w'.cell? ⟨(ad165.add (((ji66)).toNat * 4)).block, (ad165.add (((ji66)).toNat * 4)).off + 1, none⟩ = some (.int .i64 ((a0c l0 (ji66)).f1)) ∧ w'.cell? ⟨(ad165.add (((ji66)).toNat * 4)).block, (ad165.add (((ji66)).toNat * 4)).off + 2, none⟩ = some (.int .i64 ((a0c l0 (ji66)).f2)) ∧ w'.cell? ⟨(ad165.add (((ji66)).toNat * 4)).block, (ad165.add (((ji66)).toNat * 4)).off + 3, none⟩ = some (.int .i64 ((a0c l0 (ji66)).f3))) (ds := []) #[i_,i_,i_,i_,i_,i_,i_,i_,i_,i_,i_,i_,i_,i_] (by kernel_rfl) rfl rfl ⟨hx165_0, hx165_1, hx165_2, hx165_3, hx166_0, hx166_1, hx166_2, hx166_3⟩ (fun hHeld => ?_); refine a2l a0b.b3x a0b.b2r (fun HT_ HW_ => ?_)
             generalize wr.drew = w71 at HO_0 HK HB hx165_0 hx165_1 hx165_2 hx165_3 hx166_0 hx166_1 hx166_2 hx166_3 hHeld ⊢
             refine qpu_ 0 (some 158) #[o_,i_,i_,i_,i_,i_,i_,i_,i_,i_,i_,i_,i_,i_] ?_
             refine qpu_ 1 (some 159) #[o_,o_,i_,i_,i_,i_,i_,i_,i_,i_,i_,i_,i_,i_] ?_
             refine qpu_ 2 (some 160) #[o_,o_,o_,i_,i_,i_,i_,i_,i_,i_,i_,i_,i_,i_] ?_
             refine qpu_ 3 (some 161) #[o_,o_,o_,o_,i_,i_,i_,i_,i_,i_,i_,i_,i_,i_] ?_
             refine qpu_ 4 (some 162) #[o_,o_,o_,o_,o_,i_,i_,i_,i_,i_,i_,i_,i_,i_] ?_
             refine qpu_ 5 (some 163) #[o_,o_,o_,o_,o_,o_,i_,i_,i_,i_,i_,i_,i_,i_] ?_
             refine qpu_ 7 (some 165) #[o_,o_,o_,o_,o_,o_,i_,o_,i_,i_,i_,i_,i_,i_] ?_
             refine qpu_ 8 (some 166) #[o_,o_,o_,o_,o_,o_,i_,o_,o_,i_,i_,i_,i_,i_] ?_
             refine qpu_ 9 (some 167) #[o_,o_,o_,o_,o_,o_,i_,o_,o_,o_,i_,i_,i_,i_] ?_
             refine a2g (i := 6) (N := some 164) (v := ?_) (a' := ?_) #[o_,o_,o_,o_,o_,o_,o_,o_,o_,o_,i_,i_,i_,i_] rfl rfl (a1r HT_.out HW_.out (by kernel_rfl)) (fun _ _ _ h => h) (Or.inl ⟨by rfl, ?_⟩) hHeld ?_ ?_
             rotate_left
             ·rintro w' ⟨s0, s1, s2, s3, s4, s5, s6, s7⟩
              go_simp
              with_reducible rfl
             rotate_left
             ·exact qp_
             refine a2g (i := 10) (N := some 168) (v := ?_) (a' := ?_) #[o_,o_,o_,o_,o_,o_,o_,o_,o_,o_,o_,i_,i_,i_] rfl rfl (a1r HT_.out HW_.out (by kernel_rfl)) (fun _ _ _ h => h) (Or.inl ⟨by rfl, ?_⟩) hHeld ?_ ?_
             rotate_left
             ·rintro w' ⟨s0, s1, s2, s3, s4, s5, s6, s7⟩
              go_simp
              with_reducible rfl
             rotate_left
             ·exact qp_
             refine one_ (i := 11) (N := some 169) #[o_,o_,o_,o_,o_,o_,o_,o_,o_,o_,o_,o_,i_,i_] rfl rfl (a3h HT_.out (by kernel_rfl)) (by decide) (fun K hK => ?_)
             refine a5r Try.func44 (by kernel_rfl) rfl #[.agg #[.int .i64 ((a0c l0 (ji63)).f0), .int .i64 ((a0c l0 (ji63)).f1), .int .i64 ((a0c l0 (ji63)).f2), .int .i64 ((a0c l0 (ji63)).f3)], .agg #[.int .i64 ((a0c l0 (ji66)).f0), .int .i64 ((a0c l0 (ji66)).f1), .int .i64 ((a0c l0 (ji66)).f2), .int .i64 ((a0c l0 (ji66)).f3)]] (by rfl) rfl rfl (by rfl) (by (try simp only [List.map_toArray, List.map_cons, List.map_nil]); first | done | (simp only [hji63, hji66]; rfl) | rfl | (simp only [List.length_drop, List.length_take]; rfl)) ?_
             with_reducible refine (a2h.calls ((a0c l0 (ji63)).f0) ((a0c l0 (ji63)).f1) ((a0c l0 (ji63)).f2) ((a0c l0 (ji63)).f3) ((a0c l0 (ji66)).f0) ((a0c l0 (ji66)).f1) ((a0c l0 (ji66)).f2) ((a0c l0 (ji66)).f3) t167 _ A69.out).mono ?_
             rintro e w73 ⟨rfl, hb⟩
             have HS0_ := (hb.cell (World.block_lt_of_cell? _ _ (hHeld.1))).trans (hHeld.1)
             have HS1_ := (hb.cell (World.block_lt_of_cell? _ _ (hHeld.2.1))).trans (hHeld.2.1)
             have HS2_ := (hb.cell (World.block_lt_of_cell? _ _ (hHeld.2.2.1))).trans (hHeld.2.2.1)
             have HS3_ := (hb.cell (World.block_lt_of_cell? _ _ (hHeld.2.2.2.1))).trans (hHeld.2.2.2.1)
             have HS4_ := (hb.cell (World.block_lt_of_cell? _ _ (hHeld.2.2.2.2.1))).trans (hHeld.2.2.2.2.1)
             have HS5_ := (hb.cell (World.block_lt_of_cell? _ _ (hHeld.2.2.2.2.2.1))).trans (hHeld.2.2.2.2.2.1)
             have HS6_ := (hb.cell (World.block_lt_of_cell? _ _ (hHeld.2.2.2.2.2.2.1))).trans (hHeld.2.2.2.2.2.2.1)
             have HS7_ := (hb.cell (World.block_lt_of_cell? _ _ (hHeld.2.2.2.2.2.2.2))).trans (hHeld.2.2.2.2.2.2.2)
             refine ⟨_, rfl, ?_⟩
             replace HO_0 := qrb_ HO_0 hb
             replace HK := am_ (Kept.below (S := (fun k_ => P0_ k_)) (by repeat (first | (with_reducible first | exact HK.out | apply Kept.alloc | apply Kept.drewN | apply Kept.drew) | exact HK.out)) hb)
             replace HB := qbs_ hb
             (try clear hb)
             (try clear hb2)
             (try clear hk)
             (try clear hi)
             refine hK.out _ _ ⟨HS0_, HS1_, HS2_, HS3_, HS4_, HS5_, HS6_, HS7_⟩ (fun hHeld => ?_)
             clear hK K
             refine a4b (a' := ?_) ?_ ?_
             rotate_left
             ·show Act.put _ (some 169) _ = _
              exact qp_
             refine qpu_ 12 (some 170) #[o_,o_,o_,o_,o_,o_,o_,o_,o_,o_,o_,o_,o_,i_] ?_
             refine qpu_ 13 (some 171) #[o_,o_,o_,o_,o_,o_,o_,o_,o_,o_,o_,o_,o_,o_] ?_
             refine a3o (a3b HT_.out (by kernel_rfl)) ?_
             try go_wp2
             go_roundg k2
             case measure => have := HJ59.out; have := HK2.out; omega
             case rel => exact ⟨(x20_2), (ji66), qs_, (by first | rfl | (simp; done) | (simp only [← hji66] <;> (first | rfl | simp)) | (simp [*]; done)), H', ⟨by have := HJ59.out; have := HK2.out; omega⟩, ⟨by (with_reducible repeat (first | apply Kd.a0n | apply Kd.a0o | apply Kd.a0m)); exact HO_0.out⟩, ⟨by repeat (first | (with_reducible first | exact HK.out | apply Kept.alloc | apply Kept.drewN | apply Kept.drew) | exact HK.out)⟩, ⟨qb_⟩⟩
            ·rw [if_neg c70] at H
             have c70b0 : decide (t167 < 0) = false := decide_eq_false c70
             clear c70
             have H' := am_ H
             clear H
             try go_wp2
             replace HO_0 := am_ (Kd.a0m HO_0.out)
             replace HK := am_ (Kept.drew HK.out)
             replace HB := am_ (ld_ HB.out)
             obtain ⟨Ao75, co75, eo75⟩ := Kd.a1v HO_0.out
             (first | subst eo75 | (injection eo75 with f1_ f2_ f3_; have f4_ := f1_.symm; have f5_ := f3_.symm; clear f1_ f2_ f3_; subst f4_; subst f5_))
             have p165 : 0 ≤ ((ji63) : Int) := ot_
             have q165 : (ji63) < (l0.length : Int) := ot_
             obtain ⟨ad165, e165, hx165_0, hx165_1, hx165_2, hx165_3⟩ := a3i (Kd.a0p HO_0.out).2.2 (ji63) p165 q165
             cases e165
             replace p165 := eq_true p165
             replace q165 := eq_true q165
             have p166 : 0 ≤ ((ji66) : Int) := ot_
             have q166 : (ji66) < (l0.length : Int) := ot_
             obtain ⟨ad166, e166, hx166_0, hx166_1, hx166_2, hx166_3⟩ := a3i (Kd.a0p HO_0.out).2.2 (ji66) p166 q166
             obtain rfl : ad165 = ad166 := (by injection e166)
             replace p166 := eq_true p166
             replace q166 := eq_true q166
             refine a3g (n := 14) (S := fun w' => w'.cell? (ad165.add (((ji63)).toNat * 4)) = some (.int .i64 ((a0c l0 (ji63)).f0)) ∧ w'.cell? ⟨(ad165.add (((ji63)).toNat * 4)).block, (ad165.add (((ji63)).toNat * 4)).off + 1, none⟩ = some (.int .i64 ((a0c l0 (ji63)).f1)) ∧ w'.cell? ⟨(ad165.add (((ji63)).toNat * 4)).block, (ad165.add (((ji63)).toNat * 4)).off + 2, none⟩ = some (.int .i64 ((a0c l0 (ji63)).f2)) ∧ w'.cell? ⟨(ad165.add (((ji63)).toNat * 4)).block, (ad165.add (((ji63)).toNat * 4)).off + 3, none⟩ = some (.int .i64 ((a0c l0 (ji63)).f3)) ∧ w'.cell? (ad165.add (((ji66)).toNat * 4)) = some (.int .i64 ((a0c l0 (ji66)).f0)) ∧ w'.cell? ⟨(ad165.add (((ji66)).toNat * 4)).block, (ad165.add (((ji66)).toNat * 4)).off + 1, none⟩ = some (.int .i64 ((a0c l0 (ji66)).f1)) ∧ w'.cell? ⟨(ad165.add (((ji66)).toNat * 4)).block, (ad165.add (((ji66)).toNat * 4)).off + 2, none⟩ = some (.int .i64 ((a0c l0 (ji66)).f2)) ∧ w'.cell? ⟨(ad165.add (((ji66)).toNat * 4)).block, (ad165.add (((ji66)).toNat * 4)).off + 3, none⟩ = some (.int .i64 ((a0c l0 (ji66)).f3))) (ds := []) #[i_,i_,i_,i_,i_,i_,i_,i_,i_,i_,i_,i_,i_,i_] (by kernel_rfl) rfl rfl ⟨hx165_0, hx165_1, hx165_2, hx165_3, hx166_0, hx166_1, hx166_2, hx166_3⟩ (fun hHeld => ?_); refine a2l a0b.b3x a0b.b2r (fun HT_ HW_ => ?_)
             generalize wr.drew = w74 at HO_0 HK HB hx165_0 hx165_1 hx165_2 hx165_3 hx166_0 hx166_1 hx166_2 hx166_3 hHeld ⊢
             refine qpu_ 0 (some 158) #[o_,i_,i_,i_,i_,i_,i_,i_,i_,i_,i_,i_,i_,i_] ?_
             refine qpu_ 1 (some 159) #[o_,o_,i_,i_,i_,i_,i_,i_,i_,i_,i_,i_,i_,i_] ?_
             refine qpu_ 2 (some 160) #[o_,o_,o_,i_,i_,i_,i_,i_,i_,i_,i_,i_,i_,i_] ?_
             refine qpu_ 3 (some 161) #[o_,o_,o_,o_,i_,i_,i_,i_,i_,i_,i_,i_,i_,i_] ?_
             refine qpu_ 4 (some 162) #[o_,o_,o_,o_,o_,i_,i_,i_,i_,i_,i_,i_,i_,i_] ?_
             refine qpu_ 5 (some 163) #[o_,o_,o_,o_,o_,o_,i_,i_,i_,i_,i_,i_,i_,i_] ?_
             refine qpu_ 7 (some 165) #[o_,o_,o_,o_,o_,o_,i_,o_,i_,i_,i_,i_,i_,i_] ?_
             refine qpu_ 8 (some 166) #[o_,o_,o_,o_,o_,o_,i_,o_,o_,i_,i_,i_,i_,i_] ?_
             refine qpu_ 9 (some 167) #[o_,o_,o_,o_,o_,o_,i_,o_,o_,o_,i_,i_,i_,i_] ?_
             refine a2g (i := 6) (N := some 164) (v := ?_) (a' := ?_) #[o_,o_,o_,o_,o_,o_,o_,o_,o_,o_,i_,i_,i_,i_] rfl rfl (a1r HT_.out HW_.out (by kernel_rfl)) (fun _ _ _ h => h) (Or.inl ⟨by rfl, ?_⟩) hHeld ?_ ?_
             rotate_left
             ·rintro w' ⟨s0, s1, s2, s3, s4, s5, s6, s7⟩
              go_simp
              with_reducible rfl
             rotate_left
             ·exact qp_
             refine a2g (i := 10) (N := some 168) (v := ?_) (a' := ?_) #[o_,o_,o_,o_,o_,o_,o_,o_,o_,o_,o_,i_,i_,i_] rfl rfl (a1r HT_.out HW_.out (by kernel_rfl)) (fun _ _ _ h => h) (Or.inl ⟨by rfl, ?_⟩) hHeld ?_ ?_
             rotate_left
             ·rintro w' ⟨s0, s1, s2, s3, s4, s5, s6, s7⟩
              go_simp
              with_reducible rfl
             rotate_left
             ·exact qp_
             refine one_ (i := 11) (N := some 169) #[o_,o_,o_,o_,o_,o_,o_,o_,o_,o_,o_,o_,i_,i_] rfl rfl (a3h HT_.out (by kernel_rfl)) (by decide) (fun K hK => ?_)
             refine a5r Try.func44 (by kernel_rfl) rfl #[.agg #[.int .i64 ((a0c l0 (ji63)).f0), .int .i64 ((a0c l0 (ji63)).f1), .int .i64 ((a0c l0 (ji63)).f2), .int .i64 ((a0c l0 (ji63)).f3)], .agg #[.int .i64 ((a0c l0 (ji66)).f0), .int .i64 ((a0c l0 (ji66)).f1), .int .i64 ((a0c l0 (ji66)).f2), .int .i64 ((a0c l0 (ji66)).f3)]] (by rfl) rfl rfl (by rfl) (by (try simp only [List.map_toArray, List.map_cons, List.map_nil]); first | done | (simp only [hji63, hji66]; rfl) | rfl | (simp only [List.length_drop, List.length_take]; rfl)) ?_
             with_reducible refine (a2h.calls ((a0c l0 (ji63)).f0) ((a0c l0 (ji63)).f1) ((a0c l0 (ji63)).f2) ((a0c l0 (ji63)).f3) ((a0c l0 (ji66)).f0) ((a0c l0 (ji66)).f1) ((a0c l0 (ji66)).f2) ((a0c l0 (ji66)).f3) t167 _ A69.out).mono ?_
             rintro e w76 ⟨rfl, hb⟩
             have HS0_ := (hb.cell (World.block_lt_of_cell? _ _ (hHeld.1))).trans (hHeld.1)
             have HS1_ := (hb.cell (World.block_lt_of_cell? _ _ (hHeld.2.1))).trans (hHeld.2.1)
             have HS2_ := (hb.cell (World.block_lt_of_cell? _ _ (hHeld.2.2.1))).trans (hHeld.2.2.1)
             have HS3_ := (hb.cell (World.block_lt_of_cell? _ _ (hHeld.2.2.2.1))).trans (hHeld.2.2.2.1)
             have HS4_ := (hb.cell (World.block_lt_of_cell? _ _ (hHeld.2.2.2.2.1))).trans (hHeld.2.2.2.2.1)
             have HS5_ := (hb.cell (World.block_lt_of_cell? _ _ (hHeld.2.2.2.2.2.1))).trans (hHeld.2.2.2.2.2.1)
             have HS6_ := (hb.cell (World.block_lt_of_cell? _ _ (hHeld.2.2.2.2.2.2.1))).trans (hHeld.2.2.2.2.2.2.1)
             have HS7_ := (hb.cell (World.block_lt_of_cell? _ _ (hHeld.2.2.2.2.2.2.2))).trans (hHeld.2.2.2.2.2.2.2)
             refine ⟨_, rfl, ?_⟩
             replace HO_0 := qrb_ HO_0 hb
             replace HK := am_ (Kept.below (S := (fun k_ => P0_ k_)) (by repeat (first | (with_reducible first | exact HK.out | apply Kept.alloc | apply Kept.drewN | apply Kept.drew) | exact HK.out)) hb)
             replace HB := qbs_ hb
             (try clear hb)
             (try clear hb2)
             (try clear hk)
             (try clear hi)
             refine hK.out _ _ ⟨HS0_, HS1_, HS2_, HS3_, HS4_, HS5_, HS6_, HS7_⟩ (fun hHeld => ?_)
             clear hK K
             refine a4b (a' := ?_) ?_ ?_
             rotate_left
             ·show Act.put _ (some 169) _ = _
              exact qp_
             refine qpu_ 12 (some 170) #[o_,o_,o_,o_,o_,o_,o_,o_,o_,o_,o_,o_,o_,i_] ?_
             refine qpu_ 13 (some 171) #[o_,o_,o_,o_,o_,o_,o_,o_,o_,o_,o_,o_,o_,o_] ?_
             refine a3o (a3b HT_.out (by kernel_rfl)) ?_
             try go_wp2
             go_roundg k2
             case measure => have := HJ59.out; have := HK2.out; omega
             case rel => exact ⟨(wrap64 ((ji66) + 1)), (x21_2), (by first | rfl | (simp; done) | (simp only [← hji66] <;> (first | rfl | simp)) | (simp [*]; done)), qs_, H', ⟨by have := HJ59.out; have := HK2.out; omega⟩, ⟨by (with_reducible repeat (first | apply Kd.a0n | apply Kd.a0o | apply Kd.a0m)); exact HO_0.out⟩, ⟨by repeat (first | (with_reducible first | exact HK.out | apply Kept.alloc | apply Kept.drewN | apply Kept.drew) | exact HK.out)⟩, ⟨qb_⟩⟩
           ·rw [if_neg c68] at H
            exact absurd H (by simp)
          ·rw [if_neg c67] at H
           exact absurd H (by simp)
         ·rw [if_neg c65] at H
          exact absurd H (by simp)
        ·rw [if_neg c64] at H
         exact absurd H (by simp)
       ·rw [if_neg c62] at H
        have c62b0 : decide (x20_2 < x21_2) = false := decide_eq_false c62
        clear c62
        have HC77 := am_ H
        clear H
        go_upto_region 39 with (fail)
        go_cut [185] (fun v185 wc => ∃ (kq : Nat) (x185_76 : Bool), v185 = .bool x185_76 ∧ Aside0 (a0b.j6 kq l0 a1 a2 a3 (wrap64 ((IntKind.u64.wrap (wrap64 (a1 + a3))) / 2)) x20_2 (wrap64 ((wrap64 ((wrap64 ((IntKind.u64.wrap (wrap64 (a1 + a3))) / 2)) + a2)) - x20_2)) x185_76 = some r) ∧ Aside0 (kq ≤ k2) ∧ Aside0 (Kd.R k26 26 wc w0.heap.size (fun k_ => (P0_ k_ ∨ w.heap.size ≤ k_)) u9000_ l0) ∧ Aside0 (Kept w wc (fun k_ => P0_ k_)) ∧ Aside0 (Below w0.heap.size w0 wc))
        case first => as_aux_lemma =>
         have H := HC77.out
         clear HC77
         by_cases c78 : x20_2 < a2
         ·rw [if_pos c78] at H
          have c78b0 : decide (x20_2 < a2) = true := decide_eq_true c78
          clear c78
          (first | rw [c78b0] | (simp only [a3k, a4i]; rw [c78b0]) | skip)
          have H' := am_ H
          clear H
          go_wp2
          go_meet
          case rel => exact ⟨_, (decide (a2 < (wrap64 ((wrap64 ((wrap64 ((IntKind.u64.wrap (wrap64 (a1 + a3))) / 2)) + a2)) - x20_2)))), qs_, H', ⟨by have := HJ59.out; have := HK2.out; first | omega | exact Nat.le_refl _⟩, ⟨by (with_reducible repeat (first | apply Kd.a0n | apply Kd.a0o | apply Kd.a0m)); exact HO_0.out⟩, ⟨by repeat (first | (with_reducible first | exact HK.out | apply Kept.alloc | apply Kept.drewN | apply Kept.drew) | exact HK.out)⟩, ⟨qb_⟩⟩
         ·rw [if_neg c78] at H
          have c78b0 : decide (x20_2 < a2) = false := decide_eq_false c78
          clear c78
          (first | rw [c78b0] | (simp only [a3k, a4i]; rw [c78b0]) | skip)
          have H' := am_ H
          clear H
          go_wp2
          go_meet
          case rel => exact ⟨_, (false), qs_, H', ⟨by have := HJ59.out; have := HK2.out; first | omega | exact Nat.le_refl _⟩, ⟨by (with_reducible repeat (first | apply Kd.a0n | apply Kd.a0o | apply Kd.a0m)); exact HO_0.out⟩, ⟨by repeat (first | (with_reducible first | exact HK.out | apply Kept.alloc | apply Kept.drewN | apply Kept.drew) | exact HK.out)⟩, ⟨qb_⟩⟩
        case rest => as_aux_lemma =>
         clear HC77
         try clear c1
         try clear p1
         try clear q1
         try clear hx1
         try clear c2
         try clear p2
         try clear q2
         try clear hx2
         try clear c3
         try clear c4
         try clear c5
         try clear p5
         try clear q5
         try clear hx5
         try clear hf5
         try clear c6
         try clear c6b0
         try clear c6b1
         try clear p6
         try clear c7
         try clear c7b0
         try clear c9
         try clear c9b0
         try clear c10
         try clear c10b0
         try clear c11
         try clear c11b0
         try clear c12
         try clear c12b0
         try clear c14
         try clear c14b0
         try clear p15
         try clear q15
         try clear hx15
         try clear p16
         try clear q16
         try clear hx16
         try clear c21
         try clear c21b0
         try clear c23
         try clear c23b0
         try clear c24
         try clear c24b0
         try clear c25
         try clear c25b0
         try clear c26
         try clear c26b0
         try clear c27
         try clear p27
         try clear q27
         try clear hx27
         try clear hf27
         try clear c28
         try clear p28
         try clear q28
         try clear hx28
         try clear hf28
         try clear c31
         try clear c32
         try clear c33
         try clear c33b0
         try clear c33b1
         try clear c34
         try clear c34b0
         try clear c35
         try clear c35b0
         try clear c36
         try clear c36b0
         try clear c38
         try clear c38b0
         try clear c39
         try clear c39b0
         try clear c41
         try clear c41b0
         try clear c44
         try clear c48
         try clear c48b0
         try clear c50
         try clear c50b0
         try clear c51
         try clear c51b0
         try clear c52
         try clear c52b0
         try clear c53
         try clear c53b0
         try clear c54
         try clear p54
         try clear q54
         try clear hx54
         try clear hf54
         try clear c55
         try clear p55
         try clear q55
         try clear hx55
         try clear hf55
         try clear c58
         try clear c59
         try clear c61
         try clear c61b0
         try clear c62
         try clear c62b0
         try clear c64
         try clear c64b0
         try clear p64
         try clear c65
         try clear c65b0
         try clear c67
         try clear c67b0
         try clear c68
         try clear c68b0
         try clear c70
         try clear c70b0
         try clear c78
         try clear c78b0
         try clear hx151_0
         try clear hx151_1
         try clear hx151_2
         try clear hx151_3
         try clear hx152_0
         try clear hx152_1
         try clear hx152_2
         try clear hx152_3
         try clear hx154_0
         try clear hx154_1
         try clear hx154_2
         try clear hx154_3
         try clear hx155_0
         try clear hx155_1
         try clear hx155_2
         try clear hx155_3
         try clear hx158_0
         try clear hx158_1
         try clear hx158_2
         try clear hx158_3
         try clear hx159_0
         try clear hx159_1
         try clear hx159_2
         try clear hx159_3
         try clear hx161_0
         try clear hx161_1
         try clear hx161_2
         try clear hx161_3
         try clear hx162_0
         try clear hx162_1
         try clear hx162_2
         try clear hx162_3
         try clear hx165_0
         try clear hx165_1
         try clear hx165_2
         try clear hx165_3
         try clear hx166_0
         try clear hx166_1
         try clear hx166_2
         try clear hx166_3
         try clear hx27_0
         try clear hx27_1
         try clear hx27_2
         try clear hx27_3
         try clear hx28_0
         try clear hx28_1
         try clear hx28_2
         try clear hx28_3
         try clear hx54_0
         try clear hx54_1
         try clear hx54_2
         try clear hx54_3
         try clear hx55_0
         try clear hx55_1
         try clear hx55_2
         try clear hx55_3
         try clear p1
         try clear p15
         try clear p151
         try clear p152
         try clear p154
         try clear p155
         try clear p158
         try clear p159
         try clear p16
         try clear p161
         try clear p162
         try clear p165
         try clear p166
         try clear p2
         try clear p27
         try clear p28
         try clear p5
         try clear p54
         try clear p55
         try clear p6
         try clear q1
         try clear q15
         try clear q151
         try clear q152
         try clear q154
         try clear q155
         try clear q158
         try clear q159
         try clear q16
         try clear q161
         try clear q162
         try clear q165
         try clear q166
         try clear q2
         try clear q27
         try clear q28
         try clear q5
         try clear q54
         try clear q55
         obtain ⟨kq, x185_76, rfl, HA, HJ76, HO_0, HK, HB⟩ := hcut
         cases kq with
         | zero => exact absurd HA.out (by simp [a0b.j6])
         | succ kj76 =>
          have H := HA.out
          clear HA
          simp only [a0b.j6] at H
          have HC79 := am_ H
          clear H
          go_upto_if 185 with (fail)
          go_cut [] (fun wc => ∃ (kq : Nat) (x0_78 : List (S26)), Aside0 (a0b.j7 kq x0_78 a1 a3 (wrap64 ((IntKind.u64.wrap (wrap64 (a1 + a3))) / 2)) x20_2 (wrap64 ((wrap64 ((wrap64 ((IntKind.u64.wrap (wrap64 (a1 + a3))) / 2)) + a2)) - x20_2)) = some r) ∧ Aside0 (kq ≤ kj76) ∧ Aside0 (Kd.R k26 26 wc w0.heap.size (fun k_ => (P0_ k_ ∨ w.heap.size ≤ k_)) u9000_ x0_78) ∧ Aside0 (Kept w wc (fun k_ => P0_ k_)) ∧ Aside0 (Below w0.heap.size w0 wc))
          case first => as_aux_lemma =>
           have H := HC79.out
           clear HC79
           by_cases c80 : x185_76 = true
           ·subst c80
            have H1 : ((a0l.f kj76 l0 x20_2 a2 (wrap64 ((wrap64 ((wrap64 ((IntKind.u64.wrap (wrap64 (a1 + a3))) / 2)) + a2)) - x20_2))).bind fun t168 => (a0b.j7 kj76 t168 a1 a3 (wrap64 ((IntKind.u64.wrap (wrap64 (a1 + a3))) / 2)) x20_2 (wrap64 ((wrap64 ((wrap64 ((IntKind.u64.wrap (wrap64 (a1 + a3))) / 2)) + a2)) - x20_2)))) = some r := by rw [if_pos rfl] at H; exact H
            clear H
            have H := H1
            clear H1
            replace H := bm_ H
            obtain ⟨t168, A810, H⟩ := H
            replace H : (a0b.j7 kj76 t168 a1 a3 (wrap64 ((IntKind.u64.wrap (wrap64 (a1 + a3))) / 2)) x20_2 (wrap64 ((wrap64 ((wrap64 ((IntKind.u64.wrap (wrap64 (a1 + a3))) / 2)) + a2)) - x20_2))) = some r := H
            have A81 := am_ A810
            clear A810
            have H' := am_ H
            clear H
            obtain ⟨Ao82, co82, eo82⟩ := Kd.a1v HO_0.out
            subst eo82
            go_wp2_with (first | ((with_reducible refine a1c (f := 73) rfl ?_); refine a1y (some 191) rfl rfl Try.func73 (by kernel_rfl) rfl #[.slice Ao82 l0.length co82, .int .i64 x20_2, .int .i64 a2, .int .i64 (wrap64 ((wrap64 ((wrap64 ((IntKind.u64.wrap (wrap64 (a1 + a3))) / 2)) + a2)) - x20_2)), .func (.func 44) #[] #[]] rfl ql_ ?_; (with_reducible refine (a0l.calls kj76 (fun k_ => some k_ = (.slice Ao82 l0.length co82 : Value).ownBlock) (.slice Ao82 l0.length co82) l0 x20_2 a2 (wrap64 ((wrap64 ((wrap64 ((IntKind.u64.wrap (wrap64 (a1 + a3))) / 2)) + a2)) - x20_2))  t168 w0 _ ?s1 ?s2 A81.out).mono ?_); (case s1 => repeat (first | (with_reducible first | exact HB.out | apply la_ | apply ln_ | apply ld_) | exact HB.out)); (case s2 => exact Kd.a4f rfl HO_0.out); rintro e w83 ⟨rfl, hy0, hb, hkp⟩; refine ⟨_, rfl, ?_⟩; replace HK := am_ (Kept.a4y (S := (fun k_ => P0_ k_)) (by repeat (first | (with_reducible first | exact HK.out | apply Kept.alloc | apply Kept.drewN | apply Kept.drew) | exact HK.out)) hkp (fun k_ hs_ => (fun e_ => (HO_0.out.1 k_ e_.symm)) hs_)); replace HO_0 := am_ (Kd.a4r rfl hy0 (fun k_ e_ => HO_0.out.1 k_ e_)); replace HB := am_ (hb); (try clear hb); (try clear hkp); (try clear hy0)))
            go_meet
            case rel => exact ⟨_, (t168), H', ⟨by have := HJ59.out; have := HK2.out; have := HJ76.out; first | omega | exact Nat.le_refl _⟩, ⟨by (with_reducible repeat (first | apply Kd.a0n | apply Kd.a0o | apply Kd.a0m)); exact HO_0.out⟩, ⟨by repeat (first | (with_reducible first | exact HK.out | apply Kept.alloc | apply Kept.drewN | apply Kept.drew) | exact HK.out)⟩, ⟨qb_⟩⟩
           ·replace c80 := be_ c80
            subst c80
            have H1 : (a0b.j7 kj76 l0 a1 a3 (wrap64 ((IntKind.u64.wrap (wrap64 (a1 + a3))) / 2)) x20_2 (wrap64 ((wrap64 ((wrap64 ((IntKind.u64.wrap (wrap64 (a1 + a3))) / 2)) + a2)) - x20_2))) = some r := by rw [if_neg (show ¬ (false = true) by decide)] at H; exact H
            clear H
            have H := H1
            clear H1
            have H' := am_ H
            clear H
            go_wp2
            go_meet
            case rel => exact ⟨_, (l0), H', ⟨by have := HJ59.out; have := HK2.out; have := HJ76.out; first | omega | exact Nat.le_refl _⟩, ⟨by (with_reducible repeat (first | apply Kd.a0n | apply Kd.a0o | apply Kd.a0m)); exact HO_0.out⟩, ⟨by repeat (first | (with_reducible first | exact HK.out | apply Kept.alloc | apply Kept.drewN | apply Kept.drew) | exact HK.out)⟩, ⟨qb_⟩⟩
          case rest => as_aux_lemma =>
           clear HC79
           try clear c1
           try clear p1
           try clear q1
           try clear hx1
           try clear c2
           try clear p2
           try clear q2
           try clear hx2
           try clear c3
           try clear c4
           try clear c5
           try clear p5
           try clear q5
           try clear hx5
           try clear hf5
           try clear c6
           try clear c6b0
           try clear c6b1
           try clear p6
           try clear c7
           try clear c7b0
           try clear c8
           try clear c9
           try clear c9b0
           try clear c10
           try clear c10b0
           try clear c11
           try clear c11b0
           try clear c12
           try clear c12b0
           try clear c14
           try clear c14b0
           try clear p15
           try clear q15
           try clear hx15
           try clear p16
           try clear q16
           try clear hx16
           try clear c21
           try clear c21b0
           try clear c23
           try clear c23b0
           try clear c24
           try clear c24b0
           try clear c25
           try clear c25b0
           try clear c26
           try clear c26b0
           try clear c27
           try clear p27
           try clear q27
           try clear hx27
           try clear hf27
           try clear c28
           try clear p28
           try clear q28
           try clear hx28
           try clear hf28
           try clear c31
           try clear c32
           try clear c33
           try clear c33b0
           try clear c33b1
           try clear c34
           try clear c34b0
           try clear c35
           try clear c35b0
           try clear c36
           try clear c36b0
           try clear c38
           try clear c38b0
           try clear c39
           try clear c39b0
           try clear c41
           try clear c41b0
           try clear c44
           try clear c48
           try clear c48b0
           try clear c50
           try clear c50b0
           try clear c51
           try clear c51b0
           try clear c52
           try clear c52b0
           try clear c53
           try clear c53b0
           try clear c54
           try clear p54
           try clear q54
           try clear hx54
           try clear hf54
           try clear c55
           try clear p55
           try clear q55
           try clear hx55
           try clear hf55
           try clear c58
           try clear c59
           try clear c61
           try clear c61b0
           try clear c62
           try clear c62b0
           try clear c64
           try clear c64b0
           try clear p64
           try clear c65
           try clear c65b0
           try clear c67
           try clear c67b0
           try clear c68
           try clear c68b0
           try clear c70
           try clear c70b0
           try clear c78
           try clear c78b0
           try clear c80
           try clear hx151_0
           try clear hx151_1
           try clear hx151_2
           try clear hx151_3
           try clear hx152_0
           try clear hx152_1
           try clear hx152_2
           try clear hx152_3
           try clear hx154_0
           try clear hx154_1
           try clear hx154_2
           try clear hx154_3
           try clear hx155_0
           try clear hx155_1
           try clear hx155_2
           try clear hx155_3
           try clear hx158_0
           try clear hx158_1
           try clear hx158_2
           try clear hx158_3
           try clear hx159_0
           try clear hx159_1
           try clear hx159_2
           try clear hx159_3
           try clear hx161_0
           try clear hx161_1
           try clear hx161_2
           try clear hx161_3
           try clear hx162_0
           try clear hx162_1
           try clear hx162_2
           try clear hx162_3
           try clear hx165_0
           try clear hx165_1
           try clear hx165_2
           try clear hx165_3
           try clear hx166_0
           try clear hx166_1
           try clear hx166_2
           try clear hx166_3
           try clear hx27_0
           try clear hx27_1
           try clear hx27_2
           try clear hx27_3
           try clear hx28_0
           try clear hx28_1
           try clear hx28_2
           try clear hx28_3
           try clear hx54_0
           try clear hx54_1
           try clear hx54_2
           try clear hx54_3
           try clear hx55_0
           try clear hx55_1
           try clear hx55_2
           try clear hx55_3
           try clear p1
           try clear p15
           try clear p151
           try clear p152
           try clear p154
           try clear p155
           try clear p158
           try clear p159
           try clear p16
           try clear p161
           try clear p162
           try clear p165
           try clear p166
           try clear p2
           try clear p27
           try clear p28
           try clear p5
           try clear p54
           try clear p55
           try clear p6
           try clear p64
           try clear q1
           try clear q15
           try clear q151
           try clear q152
           try clear q154
           try clear q155
           try clear q158
           try clear q159
           try clear q16
           try clear q161
           try clear q162
           try clear q165
           try clear q166
           try clear q2
           try clear q27
           try clear q28
           try clear q5
           try clear q54
           try clear q55
           obtain ⟨kq, x0_78, HA, HJ78, HO_0, HK, HB⟩ := hcut
           cases kq with
           | zero => exact absurd HA.out (by simp [a0b.j7])
           | succ kj78 =>
            have H := HA.out
            clear HA
            simp only [a0b.j7] at H
            have HC84 := am_ H
            clear H
            go_upto_region 41 with (fail)
            go_cut [199] (fun v199 wc => ∃ (kq : Nat) (x199_83 : Bool), v199 = .bool x199_83 ∧ Aside0 (a0b.j8 kq x0_78 a1 a3 (wrap64 ((IntKind.u64.wrap (wrap64 (a1 + a3))) / 2)) x20_2 (wrap64 ((wrap64 ((wrap64 ((IntKind.u64.wrap (wrap64 (a1 + a3))) / 2)) + a2)) - x20_2)) x199_83 = some r) ∧ Aside0 (kq ≤ kj78) ∧ Aside0 (Kd.R k26 26 wc w0.heap.size (fun k_ => (P0_ k_ ∨ w.heap.size ≤ k_)) u9000_ x0_78) ∧ Aside0 (Kept w wc (fun k_ => P0_ k_)) ∧ Aside0 (Below w0.heap.size w0 wc))
            case first => as_aux_lemma =>
             have H := HC84.out
             clear HC84
             by_cases c85 : a1 < x20_2
             ·rw [if_pos c85] at H
              have c85b0 : decide (a1 < x20_2) = true := decide_eq_true c85
              clear c85
              (first | rw [c85b0] | (simp only [a3k, a4i]; rw [c85b0]) | skip)
              have H' := am_ H
              clear H
              go_wp2
              go_meet
              case rel => exact ⟨_, (decide (x20_2 < (wrap64 ((IntKind.u64.wrap (wrap64 (a1 + a3))) / 2)))), qs_, H', ⟨by have := HJ59.out; have := HK2.out; have := HJ76.out; have := HJ78.out; first | omega | exact Nat.le_refl _⟩, ⟨by (with_reducible repeat (first | apply Kd.a0n | apply Kd.a0o | apply Kd.a0m)); exact HO_0.out⟩, ⟨by repeat (first | (with_reducible first | exact HK.out | apply Kept.alloc | apply Kept.drewN | apply Kept.drew) | exact HK.out)⟩, ⟨qb_⟩⟩
             ·rw [if_neg c85] at H
              have c85b0 : decide (a1 < x20_2) = false := decide_eq_false c85
              clear c85
              (first | rw [c85b0] | (simp only [a3k, a4i]; rw [c85b0]) | skip)
              have H' := am_ H
              clear H
              go_wp2
              go_meet
              case rel => exact ⟨_, (false), qs_, H', ⟨by have := HJ59.out; have := HK2.out; have := HJ76.out; have := HJ78.out; first | omega | exact Nat.le_refl _⟩, ⟨by (with_reducible repeat (first | apply Kd.a0n | apply Kd.a0o | apply Kd.a0m)); exact HO_0.out⟩, ⟨by repeat (first | (with_reducible first | exact HK.out | apply Kept.alloc | apply Kept.drewN | apply Kept.drew) | exact HK.out)⟩, ⟨qb_⟩⟩
            case rest => as_aux_lemma =>
             clear HC84
             try clear c1
             try clear p1
             try clear q1
             try clear hx1
             try clear c2
             try clear p2
             try clear q2
             try clear hx2
             try clear c3
             try clear c4
             try clear c5
             try clear p5
             try clear q5
             try clear hx5
             try clear hf5
             try clear c6
             try clear c6b0
             try clear c6b1
             try clear p6
             try clear c7
             try clear c7b0
             try clear c8
             try clear c9
             try clear c9b0
             try clear c10
             try clear c10b0
             try clear c11
             try clear c11b0
             try clear c12
             try clear c12b0
             try clear c14
             try clear c14b0
             try clear p15
             try clear q15
             try clear hx15
             try clear p16
             try clear q16
             try clear hx16
             try clear c21
             try clear c21b0
             try clear c23
             try clear c23b0
             try clear c24
             try clear c24b0
             try clear c25
             try clear c25b0
             try clear c26
             try clear c26b0
             try clear c27
             try clear p27
             try clear q27
             try clear hx27
             try clear hf27
             try clear c28
             try clear p28
             try clear q28
             try clear hx28
             try clear hf28
             try clear c31
             try clear c32
             try clear c33
             try clear c33b0
             try clear c33b1
             try clear c34
             try clear c34b0
             try clear c35
             try clear c35b0
             try clear c36
             try clear c36b0
             try clear c38
             try clear c38b0
             try clear c39
             try clear c39b0
             try clear c41
             try clear c41b0
             try clear c44
             try clear c48
             try clear c48b0
             try clear c50
             try clear c50b0
             try clear c51
             try clear c51b0
             try clear c52
             try clear c52b0
             try clear c53
             try clear c53b0
             try clear c54
             try clear p54
             try clear q54
             try clear hx54
             try clear hf54
             try clear c55
             try clear p55
             try clear q55
             try clear hx55
             try clear hf55
             try clear c58
             try clear c59
             try clear c61
             try clear c61b0
             try clear c62
             try clear c62b0
             try clear c64
             try clear c64b0
             try clear p64
             try clear c65
             try clear c65b0
             try clear c67
             try clear c67b0
             try clear c68
             try clear c68b0
             try clear c70
             try clear c70b0
             try clear c78
             try clear c78b0
             try clear c80
             try clear c85
             try clear c85b0
             try clear hx151_0
             try clear hx151_1
             try clear hx151_2
             try clear hx151_3
             try clear hx152_0
             try clear hx152_1
             try clear hx152_2
             try clear hx152_3
             try clear hx154_0
             try clear hx154_1
             try clear hx154_2
             try clear hx154_3
             try clear hx155_0
             try clear hx155_1
             try clear hx155_2
             try clear hx155_3
             try clear hx158_0
             try clear hx158_1
             try clear hx158_2
             try clear hx158_3
             try clear hx159_0
             try clear hx159_1
             try clear hx159_2
             try clear hx159_3
             try clear hx161_0
             try clear hx161_1
             try clear hx161_2
             try clear hx161_3
             try clear hx162_0
             try clear hx162_1
             try clear hx162_2
             try clear hx162_3
             try clear hx165_0
             try clear hx165_1
             try clear hx165_2
             try clear hx165_3
             try clear hx166_0
             try clear hx166_1
             try clear hx166_2
             try clear hx166_3
             try clear hx27_0
             try clear hx27_1
             try clear hx27_2
             try clear hx27_3
             try clear hx28_0
             try clear hx28_1
             try clear hx28_2
             try clear hx28_3
             try clear hx54_0
             try clear hx54_1
             try clear hx54_2
             try clear hx54_3
             try clear hx55_0
             try clear hx55_1
             try clear hx55_2
             try clear hx55_3
             try clear p1
             try clear p15
             try clear p151
             try clear p152
             try clear p154
             try clear p155
             try clear p158
             try clear p159
             try clear p16
             try clear p161
             try clear p162
             try clear p165
             try clear p166
             try clear p2
             try clear p27
             try clear p28
             try clear p5
             try clear p54
             try clear p55
             try clear p6
             try clear p64
             try clear q1
             try clear q15
             try clear q151
             try clear q152
             try clear q154
             try clear q155
             try clear q158
             try clear q159
             try clear q16
             try clear q161
             try clear q162
             try clear q165
             try clear q166
             try clear q2
             try clear q27
             try clear q28
             try clear q5
             try clear q54
             try clear q55
             obtain ⟨kq, x199_83, rfl, HA, HJ83, HO_0, HK, HB⟩ := hcut
             cases kq with
             | zero => exact absurd HA.out (by simp [a0b.j8])
             | succ kj83 =>
              have H := HA.out
              clear HA
              simp only [a0b.j8] at H
              have HC86 := am_ H
              clear H
              go_upto_if 199 with (fail)
              go_cut [] (fun wc => ∃ (kq : Nat) (x0_85 : List (S26)), Aside0 (a0b.j9 kq x0_85 a3 (wrap64 ((IntKind.u64.wrap (wrap64 (a1 + a3))) / 2)) (wrap64 ((wrap64 ((wrap64 ((IntKind.u64.wrap (wrap64 (a1 + a3))) / 2)) + a2)) - x20_2)) = some r) ∧ Aside0 (kq ≤ kj83) ∧ Aside0 (Kd.R k26 26 wc w0.heap.size (fun k_ => (P0_ k_ ∨ w.heap.size ≤ k_)) u9000_ x0_85) ∧ Aside0 (Kept w wc (fun k_ => P0_ k_)) ∧ Aside0 (Below w0.heap.size w0 wc))
              case first => as_aux_lemma =>
               have H := HC86.out
               clear HC86
               by_cases c87 : x199_83 = true
               ·subst c87
                have H1 : ((a0b.f kj83 x0_78 a1 x20_2 (wrap64 ((IntKind.u64.wrap (wrap64 (a1 + a3))) / 2))).bind fun t169 => (a0b.j9 kj83 t169 a3 (wrap64 ((IntKind.u64.wrap (wrap64 (a1 + a3))) / 2)) (wrap64 ((wrap64 ((wrap64 ((IntKind.u64.wrap (wrap64 (a1 + a3))) / 2)) + a2)) - x20_2)))) = some r := by rw [if_pos rfl] at H; exact H
                clear H
                have H := H1
                clear H1
                replace H := bm_ H
                obtain ⟨t169, A880, H⟩ := H
                replace H : (a0b.j9 kj83 t169 a3 (wrap64 ((IntKind.u64.wrap (wrap64 (a1 + a3))) / 2)) (wrap64 ((wrap64 ((wrap64 ((IntKind.u64.wrap (wrap64 (a1 + a3))) / 2)) + a2)) - x20_2))) = some r := H
                have A88 := am_ A880
                clear A880
                have H' := am_ H
                clear H
                obtain ⟨Ao89, co89, eo89⟩ := Kd.a1v HO_0.out
                subst eo89
                go_wp2_with (first | ((with_reducible refine a1c (f := 67) rfl ?_); refine a1y (some 205) rfl rfl Try.func67 (by kernel_rfl) rfl #[.slice Ao89 x0_78.length co89, .int .i64 a1, .int .i64 x20_2, .int .i64 (wrap64 ((IntKind.u64.wrap (wrap64 (a1 + a3))) / 2)), .func (.func 44) #[] #[]] rfl ql_ ?_; (with_reducible refine (ih kj83 (by have := HJ59.out; have := HK2.out; have := HJ76.out; have := HJ78.out; have := HJ83.out; omega) (fun k_ => some k_ = (.slice Ao89 x0_78.length co89 : Value).ownBlock) (.slice Ao89 x0_78.length co89) x0_78 a1 x20_2 (wrap64 ((IntKind.u64.wrap (wrap64 (a1 + a3))) / 2))  t169 w0 _ ?s1 ?s2 A88.out).mono ?_); (case s1 => repeat (first | (with_reducible first | exact HB.out | apply la_ | apply ln_ | apply ld_) | exact HB.out)); (case s2 => exact Kd.a4f rfl HO_0.out); rintro e w90 ⟨rfl, hy0, hb, hkp⟩; refine ⟨_, rfl, ?_⟩; replace HK := am_ (Kept.a4y (S := (fun k_ => P0_ k_)) (by repeat (first | (with_reducible first | exact HK.out | apply Kept.alloc | apply Kept.drewN | apply Kept.drew) | exact HK.out)) hkp (fun k_ hs_ => (fun e_ => (HO_0.out.1 k_ e_.symm)) hs_)); replace HO_0 := am_ (Kd.a4r rfl hy0 (fun k_ e_ => HO_0.out.1 k_ e_)); replace HB := am_ (hb); (try clear hb); (try clear hkp); (try clear hy0)))
                go_meet
                case rel => exact ⟨_, (t169), H', ⟨by have := HJ59.out; have := HK2.out; have := HJ76.out; have := HJ78.out; have := HJ83.out; first | omega | exact Nat.le_refl _⟩, ⟨by (with_reducible repeat (first | apply Kd.a0n | apply Kd.a0o | apply Kd.a0m)); exact HO_0.out⟩, ⟨by repeat (first | (with_reducible first | exact HK.out | apply Kept.alloc | apply Kept.drewN | apply Kept.drew) | exact HK.out)⟩, ⟨qb_⟩⟩
               ·replace c87 := be_ c87
                subst c87
                have H1 : (a0b.j9 kj83 x0_78 a3 (wrap64 ((IntKind.u64.wrap (wrap64 (a1 + a3))) / 2)) (wrap64 ((wrap64 ((wrap64 ((IntKind.u64.wrap (wrap64 (a1 + a3))) / 2)) + a2)) - x20_2))) = some r := by rw [if_neg (show ¬ (false = true) by decide)] at H; exact H
                clear H
                have H := H1
                clear H1
                have H' := am_ H
                clear H
                go_wp2
                go_meet
                case rel => exact ⟨_, (x0_78), H', ⟨by have := HJ59.out; have := HK2.out; have := HJ76.out; have := HJ78.out; have := HJ83.out; first | omega | exact Nat.le_refl _⟩, ⟨by (with_reducible repeat (first | apply Kd.a0n | apply Kd.a0o | apply Kd.a0m)); exact HO_0.out⟩, ⟨by repeat (first | (with_reducible first | exact HK.out | apply Kept.alloc | apply Kept.drewN | apply Kept.drew) | exact HK.out)⟩, ⟨qb_⟩⟩
              case rest => as_aux_lemma =>
               clear HC86
               try clear c1
               try clear p1
               try clear q1
               try clear hx1
               try clear c2
               try clear p2
               try clear q2
               try clear hx2
               try clear c3
               try clear c4
               try clear c5
               try clear p5
               try clear q5
               try clear hx5
               try clear hf5
               try clear c6
               try clear c6b0
               try clear c6b1
               try clear p6
               try clear c7
               try clear c7b0
               try clear c8
               try clear c9
               try clear c9b0
               try clear c10
               try clear c10b0
               try clear c11
               try clear c11b0
               try clear c12
               try clear c12b0
               try clear c14
               try clear c14b0
               try clear p15
               try clear q15
               try clear hx15
               try clear p16
               try clear q16
               try clear hx16
               try clear c21
               try clear c21b0
               try clear c23
               try clear c23b0
               try clear c24
               try clear c24b0
               try clear c25
               try clear c25b0
               try clear c26
               try clear c26b0
               try clear c27
               try clear p27
               try clear q27
               try clear hx27
               try clear hf27
               try clear c28
               try clear p28
               try clear q28
               try clear hx28
               try clear hf28
               try clear c31
               try clear c32
               try clear c33
               try clear c33b0
               try clear c33b1
               try clear c34
               try clear c34b0
               try clear c35
               try clear c35b0
               try clear c36
               try clear c36b0
               try clear c38
               try clear c38b0
               try clear c39
               try clear c39b0
               try clear c41
               try clear c41b0
               try clear c44
               try clear c48
               try clear c48b0
               try clear c50
               try clear c50b0
               try clear c51
               try clear c51b0
               try clear c52
               try clear c52b0
               try clear c53
               try clear c53b0
               try clear c54
               try clear p54
               try clear q54
               try clear hx54
               try clear hf54
               try clear c55
               try clear p55
               try clear q55
               try clear hx55
               try clear hf55
               try clear c58
               try clear c59
               try clear c61
               try clear c61b0
               try clear c62
               try clear c62b0
               try clear c64
               try clear c64b0
               try clear p64
               try clear c65
               try clear c65b0
               try clear c67
               try clear c67b0
               try clear c68
               try clear c68b0
               try clear c70
               try clear c70b0
               try clear c78
               try clear c78b0
               try clear c80
               try clear c85
               try clear c85b0
               try clear c87
               try clear c90
               try clear hx151_0
               try clear hx151_1
               try clear hx151_2
               try clear hx151_3
               try clear hx152_0
               try clear hx152_1
               try clear hx152_2
               try clear hx152_3
               try clear hx154_0
               try clear hx154_1
               try clear hx154_2
               try clear hx154_3
               try clear hx155_0
               try clear hx155_1
               try clear hx155_2
               try clear hx155_3
               try clear hx158_0
               try clear hx158_1
               try clear hx158_2
               try clear hx158_3
               try clear hx159_0
               try clear hx159_1
               try clear hx159_2
               try clear hx159_3
               try clear hx161_0
               try clear hx161_1
               try clear hx161_2
               try clear hx161_3
               try clear hx162_0
               try clear hx162_1
               try clear hx162_2
               try clear hx162_3
               try clear hx165_0
               try clear hx165_1
               try clear hx165_2
               try clear hx165_3
               try clear hx166_0
               try clear hx166_1
               try clear hx166_2
               try clear hx166_3
               try clear hx27_0
               try clear hx27_1
               try clear hx27_2
               try clear hx27_3
               try clear hx28_0
               try clear hx28_1
               try clear hx28_2
               try clear hx28_3
               try clear hx54_0
               try clear hx54_1
               try clear hx54_2
               try clear hx54_3
               try clear hx55_0
               try clear hx55_1
               try clear hx55_2
               try clear hx55_3
               try clear p1
               try clear p15
               try clear p151
               try clear p152
               try clear p154
               try clear p155
               try clear p158
               try clear p159
               try clear p16
               try clear p161
               try clear p162
               try clear p165
               try clear p166
               try clear p2
               try clear p27
               try clear p28
               try clear p5
               try clear p54
               try clear p55
               try clear p6
               try clear p64
               try clear q1
               try clear q15
               try clear q151
               try clear q152
               try clear q154
               try clear q155
               try clear q158
               try clear q159
               try clear q16
               try clear q161
               try clear q162
               try clear q165
               try clear q166
               try clear q2
               try clear q27
               try clear q28
               try clear q5
               try clear q54
               try clear q55
               obtain ⟨kq, x0_85, HA, HJ85, HO_0, HK, HB⟩ := hcut
               cases kq with
               | zero => exact absurd HA.out (by simp [a0b.j9])
               | succ kj85 =>
                have H := HA.out
                clear HA
                simp only [a0b.j9] at H
                by_cases c91 : (wrap64 ((IntKind.u64.wrap (wrap64 (a1 + a3))) / 2)) < (wrap64 ((wrap64 ((wrap64 ((IntKind.u64.wrap (wrap64 (a1 + a3))) / 2)) + a2)) - x20_2))
                ·rw [if_pos c91] at H
                 have c91b0 : decide ((wrap64 ((IntKind.u64.wrap (wrap64 (a1 + a3))) / 2)) < (wrap64 ((wrap64 ((wrap64 ((IntKind.u64.wrap (wrap64 (a1 + a3))) / 2)) + a2)) - x20_2))) = true := decide_eq_true c91
                 clear c91
                 by_cases c92 : (wrap64 ((wrap64 ((wrap64 ((IntKind.u64.wrap (wrap64 (a1 + a3))) / 2)) + a2)) - x20_2)) < a3
                 ·rw [if_pos c92] at H
                  have c92b0 : decide ((wrap64 ((wrap64 ((wrap64 ((IntKind.u64.wrap (wrap64 (a1 + a3))) / 2)) + a2)) - x20_2)) < a3) = true := decide_eq_true c92
                  clear c92
                  replace H := bm_ H
                  obtain ⟨t170, A930, H⟩ := H
                  replace H : (some t170) = some r := H
                  have A93 := am_ A930
                  clear A930
                  obtain rfl := si_ H
                  obtain ⟨Ao94, co94, eo94⟩ := Kd.a1v HO_0.out
                  subst eo94
                  go_wp2_with (first | ((with_reducible refine a1c (f := 67) rfl ?_); refine a1y (some 219) rfl rfl Try.func67 (by kernel_rfl) rfl #[.slice Ao94 x0_85.length co94, .int .i64 (wrap64 ((IntKind.u64.wrap (wrap64 (a1 + a3))) / 2)), .int .i64 (wrap64 ((wrap64 ((wrap64 ((IntKind.u64.wrap (wrap64 (a1 + a3))) / 2)) + a2)) - x20_2)), .int .i64 a3, .func (.func 44) #[] #[]] rfl ql_ ?_; (with_reducible refine (ih kj85 (by have := HJ59.out; have := HK2.out; have := HJ76.out; have := HJ78.out; have := HJ83.out; have := HJ85.out; omega) (fun k_ => some k_ = (.slice Ao94 x0_85.length co94 : Value).ownBlock) (.slice Ao94 x0_85.length co94) x0_85 (wrap64 ((IntKind.u64.wrap (wrap64 (a1 + a3))) / 2)) (wrap64 ((wrap64 ((wrap64 ((IntKind.u64.wrap (wrap64 (a1 + a3))) / 2)) + a2)) - x20_2)) a3  t170 w0 _ ?s1 ?s2 A93.out).mono ?_); (case s1 => repeat (first | (with_reducible first | exact HB.out | apply la_ | apply ln_ | apply ld_) | exact HB.out)); (case s2 => exact Kd.a4f rfl HO_0.out); rintro e w95 ⟨rfl, hy0, hb, hkp⟩; refine ⟨_, rfl, ?_⟩; replace HK := am_ (Kept.a4y (S := (fun k_ => P0_ k_)) (by repeat (first | (with_reducible first | exact HK.out | apply Kept.alloc | apply Kept.drewN | apply Kept.drew) | exact HK.out)) hkp (fun k_ hs_ => (fun e_ => (HO_0.out.1 k_ e_.symm)) hs_)); replace HO_0 := am_ (Kd.a4r rfl hy0 (fun k_ e_ => HO_0.out.1 k_ e_)); replace HB := am_ (hb); (try clear hb); (try clear hkp); (try clear hy0)))
                  first | go_end0 | ((try simp only [Exit.inBlock, Exit.then]); refine bodyPost_ret (results_none rfl _ _ _) rfl ?_)
                  exact ⟨qx_, by (with_reducible repeat (first | apply Kd.a0n | apply Kd.a0o | apply Kd.a0m)); exact HO_0.out, by repeat (first | (with_reducible first | exact HB.out | apply la_ | apply ln_ | apply ld_) | exact HB.out), by repeat (first | (with_reducible first | exact HK.out | apply Kept.alloc | apply Kept.drewN | apply Kept.drew) | exact HK.out)⟩
                 ·rw [if_neg c92] at H
                  have c92b0 : decide ((wrap64 ((wrap64 ((wrap64 ((IntKind.u64.wrap (wrap64 (a1 + a3))) / 2)) + a2)) - x20_2)) < a3) = false := decide_eq_false c92
                  clear c92
                  obtain rfl := si_ H
                  go_wp2
                  first | go_end0 | ((try simp only [Exit.inBlock, Exit.then]); refine bodyPost_ret (results_none rfl _ _ _) rfl ?_)
                  exact ⟨qx_, by (with_reducible repeat (first | apply Kd.a0n | apply Kd.a0o | apply Kd.a0m)); exact HO_0.out, by repeat (first | (with_reducible first | exact HB.out | apply la_ | apply ln_ | apply ld_) | exact HB.out), by repeat (first | (with_reducible first | exact HK.out | apply Kept.alloc | apply Kept.drewN | apply Kept.drew) | exact HK.out)⟩
                ·rw [if_neg c91] at H
                 have c91b0 : decide ((wrap64 ((IntKind.u64.wrap (wrap64 (a1 + a3))) / 2)) < (wrap64 ((wrap64 ((wrap64 ((IntKind.u64.wrap (wrap64 (a1 + a3))) / 2)) + a2)) - x20_2))) = false := decide_eq_false c91
                 clear c91
                 obtain rfl := si_ H
                 go_wp2
                 first | go_end0 | ((try simp only [Exit.inBlock, Exit.then]); refine bodyPost_ret (results_none rfl _ _ _) rfl ?_)
                 exact ⟨qx_, by (with_reducible repeat (first | apply Kd.a0n | apply Kd.a0o | apply Kd.a0m)); exact HO_0.out, by repeat (first | (with_reducible first | exact HB.out | apply la_ | apply ln_ | apply ld_) | exact HB.out), by repeat (first | (with_reducible first | exact HK.out | apply Kept.alloc | apply Kept.drewN | apply Kept.drew) | exact HK.out)⟩
end Go.Proofs.Ytfbgkcadnmcakaa.Px
