/- Contracts of Go functions, printed. Conditions: as each theorem states. -/
import Derived.Test.YtemnlgefngjliaaPx0
import Derived.Test.YtemnlgefngjliaaPx13
import Derived.Test.YtemnlgefngjliaaPx15
import Derived.Test.YtemnlgefngjliaaPx1
import Derived.Test.YtemnlgefngjliaaPx31
import Derived.Test.YtemnlgefngjliaaPx33
namespace Go.Proofs.Ytemnlgefngjliaa.Px
open Go.Proofs.Ytemnlgefngjliaa.Given
open Go.RowKit Go.Proofs.YtemnlgefngjliaaW.PrintWords Go.Proofs.YtemnlgefngjliaaW.PrintLast Go.Proofs.YtemnlgefngjliaaW.PrintMore
attribute [local go_sem] a2l a2m a2w a2x a2e a2f a2n a2o
set_option linter.unusedVariables false
set_option linter.unusedSimpArgs false
mutual
def a0b.j0 : Nat → Bool → Int → List Int → List Int → Bool → Int → Int → Int → Int → Bool → Int → Int → Int → List ByteArray → List (S43) → List Int → Option (Bool)
 | 0, _, _, _, _, _, _, _, _, _, _, _, _, _, _, _, _ => none
 | k + 1, x7, x9, x11, x13, x71, z0, z1, z2, z3, z4, z5, z6, z7, z8, z9, z10 => if x71 = true then (some false) else (if 0 ≤ x9 then (if x9 < (z9.length : Int) then (if z4 = true then (a0b.j1 k x7 x9 x11 x13 1 z5 z6 z7 z8 z9 z10 ((a0a z9 x9).f0) ((a0a z9 x9).f1) ((a0a z9 x9).f2)) else (a0b.j1 k x7 x9 x11 x13 ((a0a z9 x9).f1) z5 z6 z7 z8 z9 z10 ((a0a z9 x9).f0) ((a0a z9 x9).f1) ((a0a z9 x9).f2))) else (none)) else (none))
def a0b.j1 : Nat → Bool → Int → List Int → List Int → Int → Int → Int → Int → List ByteArray → List (S43) → List Int → Int → Int → Int → Option (Bool)
 | 0, _, _, _, _, _, _, _, _, _, _, _, _, _, _ => none
 | k + 1, x7, x9, x11, x13, x16, z5, z6, z7, z8, z9, z10, z11, z12, z13 => a0b.l0 k x7 x9 x11 x13 x16 0 0 z9 (z9.length : Int) 0 z5 z6 z7 z8 z9 z10 z11 z12 z13
def a0b.l0 : Nat → Bool → Int → List Int → List Int → Int → Int → Int → List (S43) → Int → Int → Int → Int → Int → List ByteArray → List (S43) → List Int → Int → Int → Int → Option (Bool)
 | 0, _, _, _, _, _, _, _, _, _, _, _, _, _, _, _, _, _, _, _ => none
 | k + 1, x7, x9, x11, x13, x16, x17, x18, x82, x83, x84, z5, z6, z7, z8, z9, z10, z11, z12, z13 => if x84 < x83 then (if 0 ≤ x84 then (if x84 < (x82.length : Int) then (if x84 < (x11.length : Int) then (if x84 < (x13.length : Int) then (if z13 = ((a0a x82 x84).f0) then ((a2j.f k z5 z6 z7 z8 z9 z10 ((a0a x82 x84).f0)).bind fun t578 => (a0b.j3 k x7 x9 x11 x13 x16 (wrap64 (x17 + (rd x11 x84))) (wrap64 (x18 + (rd x13 x84))) x84 0 x82 x83 x84 t578 z5 z6 z7 z8 z9 z10 z11 z12 z13)) else (a0b.j3 k x7 x9 x11 x13 x16 (wrap64 (x17 + (rd x11 x84))) (wrap64 (x18 + (rd x13 x84))) x84 0 x82 x83 x84 false z5 z6 z7 z8 z9 z10 z11 z12 z13)) else (none)) else (none)) else (none)) else (none)) else (if x7 = true then (some (decide (x18 ≥ x17))) else (some false))
def a0b.j3 : Nat → Bool → Int → List Int → List Int → Int → Int → Int → Int → Int → List (S43) → Int → Int → Bool → Int → Int → Int → List ByteArray → List (S43) → List Int → Int → Int → Int → Option (Bool)
 | 0, _, _, _, _, _, _, _, _, _, _, _, _, _, _, _, _, _, _, _, _, _, _ => none
 | k + 1, x7, x9, x11, x13, x16, x17, x18, x19, x21, x82, x83, x84, x111, z5, z6, z7, z8, z9, z10, z11, z12, z13 => if x111 = true then (a0b.j4 k x7 x9 x11 x13 x16 x17 x18 x19 x16 x82 x83 x84 z5 z6 z7 z8 z9 z10 z11 z12 z13) else (a0b.j4 k x7 x9 x11 x13 x16 x17 x18 x19 x21 x82 x83 x84 z5 z6 z7 z8 z9 z10 z11 z12 z13)
def a0b.j4 : Nat → Bool → Int → List Int → List Int → Int → Int → Int → Int → Int → List (S43) → Int → Int → Int → Int → Int → List ByteArray → List (S43) → List Int → Int → Int → Int → Option (Bool)
 | 0, _, _, _, _, _, _, _, _, _, _, _, _, _, _, _, _, _, _, _, _, _ => none
 | k + 1, x7, x9, x11, x13, x16, x17, x18, x19, x21, x82, x83, x84, z5, z6, z7, z8, z9, z10, z11, z12, z13 => if x19 = x9 then (if 0 ≤ x19 then (if x19 < (x13.length : Int) then (if (rd x13 x19) < x16 then (a0b.j5 k x7 x9 x11 x13 x16 x17 x18 x82 x83 x84 true z5 z6 z7 z8 z9 z10 z11 z12 z13) else (a0b.j5 k x7 x9 x11 x13 x16 x17 x18 x82 x83 x84 false z5 z6 z7 z8 z9 z10 z11 z12 z13)) else (none)) else (none)) else (if 0 ≤ x19 then (if x19 < (x13.length : Int) then (if x19 < (x11.length : Int) then (a0b.j5 k x7 x9 x11 x13 x16 x17 x18 x82 x83 x84 ((rd x13 x19) != (wrap64 ((rd x11 x19) - x21))) z5 z6 z7 z8 z9 z10 z11 z12 z13) else (none)) else (none)) else (none))
def a0b.j5 : Nat → Bool → Int → List Int → List Int → Int → Int → Int → List (S43) → Int → Int → Bool → Int → Int → Int → List ByteArray → List (S43) → List Int → Int → Int → Int → Option (Bool)
 | 0, _, _, _, _, _, _, _, _, _, _, _, _, _, _, _, _, _, _, _, _ => none
 | k + 1, x7, x9, x11, x13, x16, x17, x18, x82, x83, x84, x141, z5, z6, z7, z8, z9, z10, z11, z12, z13 => if x141 = true then (some false) else (a0b.l0 k x7 x9 x11 x13 x16 x17 x18 x82 x83 (wrap64 (x84 + 1)) z5 z6 z7 z8 z9 z10 z11 z12 z13)
end
def a0b.f (k : Nat) (a0_0 a0_1 a0_2 a0_3 : Int) (a0_4 : Bool) (a1_0 a1_1 a1_2 : Int) (l1_3 : List ByteArray) (l1_4 : List (S43)) (l1_5 : List Int) (a2 : Int) : Option (Bool) := (a0m.f k).bind fun t547 => ((a2v.f k a0_0 a0_1 a0_2 a0_3 a0_4 a1_0 a1_1 a1_2 l1_3 l1_4 l1_5).bind fun t548 => (if t548 = true then ((a1j.f k a1_0 a1_1 a1_2 l1_3 l1_4 l1_5 a2).bind fun bt549 => (if bt549.2.2.2.2.2.2.2 = true then ((a0y.f k a0_0 a0_1 a0_2 a0_3 a0_4 a1_0 a1_1 a1_2 l1_3 l1_4 l1_5).bind fun bt564 => ((a0y.f k a0_0 a0_1 a0_2 a0_3 a0_4 bt549.1 bt549.2.1 bt549.2.2.1 bt549.2.2.2.1 bt549.2.2.2.2.1 bt549.2.2.2.2.2.1).bind fun bt568 => (if bt564.2 = 0 then (if bt568.2 = 0 then (if (bt564.1.length : Int) = (l1_4.length : Int) then (a0b.j0 k t547 bt549.2.2.2.2.2.2.1 bt564.1 bt568.1 ((bt568.1.length : Int) != (l1_4.length : Int)) a0_0 a0_1 a0_2 a0_3 a0_4 a1_0 a1_1 a1_2 l1_3 l1_4 l1_5) else (a0b.j0 k t547 bt549.2.2.2.2.2.2.1 bt564.1 bt568.1 true a0_0 a0_1 a0_2 a0_3 a0_4 a1_0 a1_1 a1_2 l1_3 l1_4 l1_5)) else (a0b.j0 k t547 bt549.2.2.2.2.2.2.1 bt564.1 bt568.1 true a0_0 a0_1 a0_2 a0_3 a0_4 a1_0 a1_1 a1_2 l1_3 l1_4 l1_5)) else (a0b.j0 k t547 bt549.2.2.2.2.2.2.1 bt564.1 bt568.1 true a0_0 a0_1 a0_2 a0_3 a0_4 a1_0 a1_1 a1_2 l1_3 l1_4 l1_5)))) else (some t547))) else (some t547)))
theorem a0b.a0x : ∀ k, (∀ y0 y1 y2 y3 y4 y5 y6 y7 y8 y9 y10 y11 y12 y13 y14 y15, LeO (a0b.j0 k y0 y1 y2 y3 y4 y5 y6 y7 y8 y9 y10 y11 y12 y13 y14 y15) (a0b.j0 (k + 1) y0 y1 y2 y3 y4 y5 y6 y7 y8 y9 y10 y11 y12 y13 y14 y15)) ∧ (∀ y0 y1 y2 y3 y4 y5 y6 y7 y8 y9 y10 y11 y12 y13, LeO (a0b.j1 k y0 y1 y2 y3 y4 y5 y6 y7 y8 y9 y10 y11 y12 y13) (a0b.j1 (k + 1) y0 y1 y2 y3 y4 y5 y6 y7 y8 y9 y10 y11 y12 y13)) ∧ (∀ y0 y1 y2 y3 y4 y5 y6 y7 y8 y9 y10 y11 y12 y13 y14 y15 y16 y17 y18, LeO (a0b.l0 k y0 y1 y2 y3 y4 y5 y6 y7 y8 y9 y10 y11 y12 y13 y14 y15 y16 y17 y18) (a0b.l0 (k + 1) y0 y1 y2 y3 y4 y5 y6 y7 y8 y9 y10 y11 y12 y13 y14 y15 y16 y17 y18)) ∧ (∀ y0 y1 y2 y3 y4 y5 y6 y7 y8 y9 y10 y11 y12 y13 y14 y15 y16 y17 y18 y19 y20 y21, LeO (a0b.j3 k y0 y1 y2 y3 y4 y5 y6 y7 y8 y9 y10 y11 y12 y13 y14 y15 y16 y17 y18 y19 y20 y21) (a0b.j3 (k + 1) y0 y1 y2 y3 y4 y5 y6 y7 y8 y9 y10 y11 y12 y13 y14 y15 y16 y17 y18 y19 y20 y21)) ∧ (∀ y0 y1 y2 y3 y4 y5 y6 y7 y8 y9 y10 y11 y12 y13 y14 y15 y16 y17 y18 y19 y20, LeO (a0b.j4 k y0 y1 y2 y3 y4 y5 y6 y7 y8 y9 y10 y11 y12 y13 y14 y15 y16 y17 y18 y19 y20) (a0b.j4 (k + 1) y0 y1 y2 y3 y4 y5 y6 y7 y8 y9 y10 y11 y12 y13 y14 y15 y16 y17 y18 y19 y20)) ∧ (∀ y0 y1 y2 y3 y4 y5 y6 y7 y8 y9 y10 y11 y12 y13 y14 y15 y16 y17 y18 y19, LeO (a0b.j5 k y0 y1 y2 y3 y4 y5 y6 y7 y8 y9 y10 y11 y12 y13 y14 y15 y16 y17 y18 y19) (a0b.j5 (k + 1) y0 y1 y2 y3 y4 y5 y6 y7 y8 y9 y10 y11 y12 y13 y14 y15 y16 y17 y18 y19))
 | 0 => ⟨fun _ _ _ _ _ _ _ _ _ _ _ _ _ _ _ _ r h => by simp [a0b.j0] at h, fun _ _ _ _ _ _ _ _ _ _ _ _ _ _ r h => by simp [a0b.j1] at h, fun _ _ _ _ _ _ _ _ _ _ _ _ _ _ _ _ _ _ _ r h => by simp [a0b.l0] at h, fun _ _ _ _ _ _ _ _ _ _ _ _ _ _ _ _ _ _ _ _ _ _ r h => by simp [a0b.j3] at h, fun _ _ _ _ _ _ _ _ _ _ _ _ _ _ _ _ _ _ _ _ _ r h => by simp [a0b.j4] at h, fun _ _ _ _ _ _ _ _ _ _ _ _ _ _ _ _ _ _ _ _ r h => by simp [a0b.j5] at h⟩
 | k + 1 => by
  obtain ⟨ih0, ih1, ih2, ih3, ih4, ih5⟩ := a0b.a0x k
  refine ⟨?_, ?_, ?_, ?_, ?_, ?_⟩
  ·intro y0 y1 y2 y3 y4 y5 y6 y7 y8 y9 y10 y11 y12 y13 y14 y15
   unfold a0b.j0
   with_reducible (repeat' first | apply ih0 | apply ih1 | apply ih2 | apply ih3 | apply ih4 | apply ih5 | apply a0m.mono | apply a2v.mono | apply a1j.mono | apply a2j.mono | apply a0y.mono | apply LeO.refl | apply LeO.none | apply LeO.ite | refine LeO.bind ?_ (fun _ => ?_))
  ·intro y0 y1 y2 y3 y4 y5 y6 y7 y8 y9 y10 y11 y12 y13
   unfold a0b.j1
   with_reducible (repeat' first | apply ih0 | apply ih1 | apply ih2 | apply ih3 | apply ih4 | apply ih5 | apply a0m.mono | apply a2v.mono | apply a1j.mono | apply a2j.mono | apply a0y.mono | apply LeO.refl | apply LeO.none | apply LeO.ite | refine LeO.bind ?_ (fun _ => ?_))
  ·intro y0 y1 y2 y3 y4 y5 y6 y7 y8 y9 y10 y11 y12 y13 y14 y15 y16 y17 y18
   unfold a0b.l0
   with_reducible (repeat' first | apply ih0 | apply ih1 | apply ih2 | apply ih3 | apply ih4 | apply ih5 | apply a0m.mono | apply a2v.mono | apply a1j.mono | apply a2j.mono | apply a0y.mono | apply LeO.refl | apply LeO.none | apply LeO.ite | refine LeO.bind ?_ (fun _ => ?_))
  ·intro y0 y1 y2 y3 y4 y5 y6 y7 y8 y9 y10 y11 y12 y13 y14 y15 y16 y17 y18 y19 y20 y21
   unfold a0b.j3
   with_reducible (repeat' first | apply ih0 | apply ih1 | apply ih2 | apply ih3 | apply ih4 | apply ih5 | apply a0m.mono | apply a2v.mono | apply a1j.mono | apply a2j.mono | apply a0y.mono | apply LeO.refl | apply LeO.none | apply LeO.ite | refine LeO.bind ?_ (fun _ => ?_))
  ·intro y0 y1 y2 y3 y4 y5 y6 y7 y8 y9 y10 y11 y12 y13 y14 y15 y16 y17 y18 y19 y20
   unfold a0b.j4
   with_reducible (repeat' first | apply ih0 | apply ih1 | apply ih2 | apply ih3 | apply ih4 | apply ih5 | apply a0m.mono | apply a2v.mono | apply a1j.mono | apply a2j.mono | apply a0y.mono | apply LeO.refl | apply LeO.none | apply LeO.ite | refine LeO.bind ?_ (fun _ => ?_))
  ·intro y0 y1 y2 y3 y4 y5 y6 y7 y8 y9 y10 y11 y12 y13 y14 y15 y16 y17 y18 y19
   unfold a0b.j5
   with_reducible (repeat' first | apply ih0 | apply ih1 | apply ih2 | apply ih3 | apply ih4 | apply ih5 | apply a0m.mono | apply a2v.mono | apply a1j.mono | apply a2j.mono | apply a0y.mono | apply LeO.refl | apply LeO.none | apply LeO.ite | refine LeO.bind ?_ (fun _ => ?_))
theorem a0b.mono : ∀ a0 a1 a2 a3 a4 a5 a6 a7 a8 a9 a10 a11 k, LeO (a0b.f k a0 a1 a2 a3 a4 a5 a6 a7 a8 a9 a10 a11) (a0b.f (k + 1) a0 a1 a2 a3 a4 a5 a6 a7 a8 a9 a10 a11) := by
 intro a0 a1 a2 a3 a4 a5 a6 a7 a8 a9 a10 a11 k
 obtain ⟨ih0, ih1, ih2, ih3, ih4, ih5⟩ := a0b.a0x k
 unfold a0b.f
 with_reducible (repeat' first | apply ih0 | apply ih1 | apply ih2 | apply ih3 | apply ih4 | apply ih5 | apply a0m.mono | apply a2v.mono | apply a1j.mono | apply a2j.mono | apply a0y.mono | apply LeO.refl | apply LeO.none | apply LeO.ite | refine LeO.bind ?_ (fun _ => ?_))
set_option maxHeartbeats 60000000 in
set_option maxRecDepth 100000 in
theorem a0b.calls (k : Nat) (a0_0 a0_1 a0_2 a0_3 : Int) (a0_4 : Bool) (a1_0 a1_1 a1_2 : Int) (A1_3 : Option Addr) (c1_3 : Nat) (l1_3 : List ByteArray) (A1_4 : Option Addr) (c1_4 : Nat) (l1_4 : List (S43)) (A1_5 : Option Addr) (c1_5 : Nat) (l1_5 : List Int) (a2 : Int) (r : Bool) (w : World) (hr1_3 : Kd.C Kd.string w A1_3 l1_3.length l1_3) (hc1_3 : l1_3.length ≤ c1_3) (hr1_4 : Kd.C k43 w A1_4 l1_4.length l1_4) (hc1_4 : l1_4.length ≤ c1_4) (hr1_5 : Kd.C (Kd.int .i64) w A1_5 l1_5.length l1_5) (hc1_5 : l1_5.length ≤ c1_5) (h : a0b.f k a0_0 a0_1 a0_2 a0_3 a0_4 a1_0 a1_1 a1_2 l1_3 l1_4 l1_5 a2 = some r) :
  Calls Try.prog 5 #[.agg #[.int .i64 a0_0, .int .i64 a0_1, .int .i64 a0_2, .int .i64 a0_3, .bool a0_4], .agg #[.int .i64 a1_0, .int .i64 a1_1, .int .i64 a1_2, .slice A1_3 l1_3.length c1_3, .slice A1_4 l1_4.length c1_4, .slice A1_5 l1_5.length c1_5], .int .u8 a2] w fun e w' => e = .returned (.bool r) ∧ Below w.heap.size w w' := by
 have hu25 := Try.underlying25
 have hu30 := Try.underlying30
 have hu43 := Try.underlying43
 have HR1_3 := am_ hr1_3
 have HC1_3 := am_ hc1_3
 clear hr1_3 hc1_3
 have HR1_4 := am_ hr1_4
 have HC1_4 := am_ hc1_4
 clear hr1_4 hc1_4
 have HR1_5 := am_ hr1_5
 have HC1_5 := am_ hc1_5
 clear hr1_5 hc1_5
 have HB := am_ (Below.refl w.heap.size w)
 have H : ((a0m.f k).bind fun t547 => ((a2v.f k a0_0 a0_1 a0_2 a0_3 a0_4 a1_0 a1_1 a1_2 l1_3 l1_4 l1_5).bind fun t548 => (if t548 = true then ((a1j.f k a1_0 a1_1 a1_2 l1_3 l1_4 l1_5 a2).bind fun bt549 => (if bt549.2.2.2.2.2.2.2 = true then ((a0y.f k a0_0 a0_1 a0_2 a0_3 a0_4 a1_0 a1_1 a1_2 l1_3 l1_4 l1_5).bind fun bt564 => ((a0y.f k a0_0 a0_1 a0_2 a0_3 a0_4 bt549.1 bt549.2.1 bt549.2.2.1 bt549.2.2.2.1 bt549.2.2.2.2.1 bt549.2.2.2.2.2.1).bind fun bt568 => (if bt564.2 = 0 then (if bt568.2 = 0 then (if (bt564.1.length : Int) = (l1_4.length : Int) then (a0b.j0 k t547 bt549.2.2.2.2.2.2.1 bt564.1 bt568.1 ((bt568.1.length : Int) != (l1_4.length : Int)) a0_0 a0_1 a0_2 a0_3 a0_4 a1_0 a1_1 a1_2 l1_3 l1_4 l1_5) else (a0b.j0 k t547 bt549.2.2.2.2.2.2.1 bt564.1 bt568.1 true a0_0 a0_1 a0_2 a0_3 a0_4 a1_0 a1_1 a1_2 l1_3 l1_4 l1_5)) else (a0b.j0 k t547 bt549.2.2.2.2.2.2.1 bt564.1 bt568.1 true a0_0 a0_1 a0_2 a0_3 a0_4 a1_0 a1_1 a1_2 l1_3 l1_4 l1_5)) else (a0b.j0 k t547 bt549.2.2.2.2.2.2.1 bt564.1 bt568.1 true a0_0 a0_1 a0_2 a0_3 a0_4 a1_0 a1_1 a1_2 l1_3 l1_4 l1_5)))) else (some t547))) else (some t547)))) = some r := h
 clear h
 replace H := bm_ H
 obtain ⟨t547, A40, H⟩ := H
 replace H : ((a2v.f k a0_0 a0_1 a0_2 a0_3 a0_4 a1_0 a1_1 a1_2 l1_3 l1_4 l1_5).bind fun t548 => (if t548 = true then ((a1j.f k a1_0 a1_1 a1_2 l1_3 l1_4 l1_5 a2).bind fun bt549 => (if bt549.2.2.2.2.2.2.2 = true then ((a0y.f k a0_0 a0_1 a0_2 a0_3 a0_4 a1_0 a1_1 a1_2 l1_3 l1_4 l1_5).bind fun bt564 => ((a0y.f k a0_0 a0_1 a0_2 a0_3 a0_4 bt549.1 bt549.2.1 bt549.2.2.1 bt549.2.2.2.1 bt549.2.2.2.2.1 bt549.2.2.2.2.2.1).bind fun bt568 => (if bt564.2 = 0 then (if bt568.2 = 0 then (if (bt564.1.length : Int) = (l1_4.length : Int) then (a0b.j0 k t547 bt549.2.2.2.2.2.2.1 bt564.1 bt568.1 ((bt568.1.length : Int) != (l1_4.length : Int)) a0_0 a0_1 a0_2 a0_3 a0_4 a1_0 a1_1 a1_2 l1_3 l1_4 l1_5) else (a0b.j0 k t547 bt549.2.2.2.2.2.2.1 bt564.1 bt568.1 true a0_0 a0_1 a0_2 a0_3 a0_4 a1_0 a1_1 a1_2 l1_3 l1_4 l1_5)) else (a0b.j0 k t547 bt549.2.2.2.2.2.2.1 bt564.1 bt568.1 true a0_0 a0_1 a0_2 a0_3 a0_4 a1_0 a1_1 a1_2 l1_3 l1_4 l1_5)) else (a0b.j0 k t547 bt549.2.2.2.2.2.2.1 bt564.1 bt568.1 true a0_0 a0_1 a0_2 a0_3 a0_4 a1_0 a1_1 a1_2 l1_3 l1_4 l1_5)))) else (some t547))) else (some t547))) = some r := H
 have A4 := am_ A40
 clear A40
 replace H := bm_ H
 obtain ⟨t548, A50, H⟩ := H
 replace H : (if t548 = true then ((a1j.f k a1_0 a1_1 a1_2 l1_3 l1_4 l1_5 a2).bind fun bt549 => (if bt549.2.2.2.2.2.2.2 = true then ((a0y.f k a0_0 a0_1 a0_2 a0_3 a0_4 a1_0 a1_1 a1_2 l1_3 l1_4 l1_5).bind fun bt564 => ((a0y.f k a0_0 a0_1 a0_2 a0_3 a0_4 bt549.1 bt549.2.1 bt549.2.2.1 bt549.2.2.2.1 bt549.2.2.2.2.1 bt549.2.2.2.2.2.1).bind fun bt568 => (if bt564.2 = 0 then (if bt568.2 = 0 then (if (bt564.1.length : Int) = (l1_4.length : Int) then (a0b.j0 k t547 bt549.2.2.2.2.2.2.1 bt564.1 bt568.1 ((bt568.1.length : Int) != (l1_4.length : Int)) a0_0 a0_1 a0_2 a0_3 a0_4 a1_0 a1_1 a1_2 l1_3 l1_4 l1_5) else (a0b.j0 k t547 bt549.2.2.2.2.2.2.1 bt564.1 bt568.1 true a0_0 a0_1 a0_2 a0_3 a0_4 a1_0 a1_1 a1_2 l1_3 l1_4 l1_5)) else (a0b.j0 k t547 bt549.2.2.2.2.2.2.1 bt564.1 bt568.1 true a0_0 a0_1 a0_2 a0_3 a0_4 a1_0 a1_1 a1_2 l1_3 l1_4 l1_5)) else (a0b.j0 k t547 bt549.2.2.2.2.2.2.1 bt564.1 bt568.1 true a0_0 a0_1 a0_2 a0_3 a0_4 a1_0 a1_1 a1_2 l1_3 l1_4 l1_5)))) else (some t547))) else (some t547)) = some r := H
 have A5 := am_ A50
 clear A50
 by_cases c6 : t548 = true
 ·subst c6
  have H1 : ((a1j.f k a1_0 a1_1 a1_2 l1_3 l1_4 l1_5 a2).bind fun bt549 => (if bt549.2.2.2.2.2.2.2 = true then ((a0y.f k a0_0 a0_1 a0_2 a0_3 a0_4 a1_0 a1_1 a1_2 l1_3 l1_4 l1_5).bind fun bt564 => ((a0y.f k a0_0 a0_1 a0_2 a0_3 a0_4 bt549.1 bt549.2.1 bt549.2.2.1 bt549.2.2.2.1 bt549.2.2.2.2.1 bt549.2.2.2.2.2.1).bind fun bt568 => (if bt564.2 = 0 then (if bt568.2 = 0 then (if (bt564.1.length : Int) = (l1_4.length : Int) then (a0b.j0 k t547 bt549.2.2.2.2.2.2.1 bt564.1 bt568.1 ((bt568.1.length : Int) != (l1_4.length : Int)) a0_0 a0_1 a0_2 a0_3 a0_4 a1_0 a1_1 a1_2 l1_3 l1_4 l1_5) else (a0b.j0 k t547 bt549.2.2.2.2.2.2.1 bt564.1 bt568.1 true a0_0 a0_1 a0_2 a0_3 a0_4 a1_0 a1_1 a1_2 l1_3 l1_4 l1_5)) else (a0b.j0 k t547 bt549.2.2.2.2.2.2.1 bt564.1 bt568.1 true a0_0 a0_1 a0_2 a0_3 a0_4 a1_0 a1_1 a1_2 l1_3 l1_4 l1_5)) else (a0b.j0 k t547 bt549.2.2.2.2.2.2.1 bt564.1 bt568.1 true a0_0 a0_1 a0_2 a0_3 a0_4 a1_0 a1_1 a1_2 l1_3 l1_4 l1_5)))) else (some t547))) = some r := by rw [if_pos rfl] at H; exact H
  clear H
  have H := H1
  clear H1
  replace H := bm_ H
  obtain ⟨⟨t549, t550, t551, t552, t555, t558, t561, t562⟩, A70, H⟩ := H
  replace H : (if t562 = true then ((a0y.f k a0_0 a0_1 a0_2 a0_3 a0_4 a1_0 a1_1 a1_2 l1_3 l1_4 l1_5).bind fun bt564 => ((a0y.f k a0_0 a0_1 a0_2 a0_3 a0_4 t549 t550 t551 t552 t555 t558).bind fun bt568 => (if bt564.2 = 0 then (if bt568.2 = 0 then (if (bt564.1.length : Int) = (l1_4.length : Int) then (a0b.j0 k t547 t561 bt564.1 bt568.1 ((bt568.1.length : Int) != (l1_4.length : Int)) a0_0 a0_1 a0_2 a0_3 a0_4 a1_0 a1_1 a1_2 l1_3 l1_4 l1_5) else (a0b.j0 k t547 t561 bt564.1 bt568.1 true a0_0 a0_1 a0_2 a0_3 a0_4 a1_0 a1_1 a1_2 l1_3 l1_4 l1_5)) else (a0b.j0 k t547 t561 bt564.1 bt568.1 true a0_0 a0_1 a0_2 a0_3 a0_4 a1_0 a1_1 a1_2 l1_3 l1_4 l1_5)) else (a0b.j0 k t547 t561 bt564.1 bt568.1 true a0_0 a0_1 a0_2 a0_3 a0_4 a1_0 a1_1 a1_2 l1_3 l1_4 l1_5)))) else (some t547)) = some r := H
  have A7 := am_ A70
  clear A70
  by_cases c8 : t562 = true
  ·subst c8
   have H1 : ((a0y.f k a0_0 a0_1 a0_2 a0_3 a0_4 a1_0 a1_1 a1_2 l1_3 l1_4 l1_5).bind fun bt564 => ((a0y.f k a0_0 a0_1 a0_2 a0_3 a0_4 t549 t550 t551 t552 t555 t558).bind fun bt568 => (if bt564.2 = 0 then (if bt568.2 = 0 then (if (bt564.1.length : Int) = (l1_4.length : Int) then (a0b.j0 k t547 t561 bt564.1 bt568.1 ((bt568.1.length : Int) != (l1_4.length : Int)) a0_0 a0_1 a0_2 a0_3 a0_4 a1_0 a1_1 a1_2 l1_3 l1_4 l1_5) else (a0b.j0 k t547 t561 bt564.1 bt568.1 true a0_0 a0_1 a0_2 a0_3 a0_4 a1_0 a1_1 a1_2 l1_3 l1_4 l1_5)) else (a0b.j0 k t547 t561 bt564.1 bt568.1 true a0_0 a0_1 a0_2 a0_3 a0_4 a1_0 a1_1 a1_2 l1_3 l1_4 l1_5)) else (a0b.j0 k t547 t561 bt564.1 bt568.1 true a0_0 a0_1 a0_2 a0_3 a0_4 a1_0 a1_1 a1_2 l1_3 l1_4 l1_5)))) = some r := by rw [if_pos rfl] at H; exact H
   clear H
   have H := H1
   clear H1
   replace H := bm_ H
   obtain ⟨⟨t564, t567⟩, A90, H⟩ := H
   replace H : ((a0y.f k a0_0 a0_1 a0_2 a0_3 a0_4 t549 t550 t551 t552 t555 t558).bind fun bt568 => (if t567 = 0 then (if bt568.2 = 0 then (if (t564.length : Int) = (l1_4.length : Int) then (a0b.j0 k t547 t561 t564 bt568.1 ((bt568.1.length : Int) != (l1_4.length : Int)) a0_0 a0_1 a0_2 a0_3 a0_4 a1_0 a1_1 a1_2 l1_3 l1_4 l1_5) else (a0b.j0 k t547 t561 t564 bt568.1 true a0_0 a0_1 a0_2 a0_3 a0_4 a1_0 a1_1 a1_2 l1_3 l1_4 l1_5)) else (a0b.j0 k t547 t561 t564 bt568.1 true a0_0 a0_1 a0_2 a0_3 a0_4 a1_0 a1_1 a1_2 l1_3 l1_4 l1_5)) else (a0b.j0 k t547 t561 t564 bt568.1 true a0_0 a0_1 a0_2 a0_3 a0_4 a1_0 a1_1 a1_2 l1_3 l1_4 l1_5))) = some r := H
   have A9 := am_ A90
   clear A90
   replace H := bm_ H
   obtain ⟨⟨t568, t571⟩, A100, H⟩ := H
   replace H : (if t567 = 0 then (if t571 = 0 then (if (t564.length : Int) = (l1_4.length : Int) then (a0b.j0 k t547 t561 t564 t568 ((t568.length : Int) != (l1_4.length : Int)) a0_0 a0_1 a0_2 a0_3 a0_4 a1_0 a1_1 a1_2 l1_3 l1_4 l1_5) else (a0b.j0 k t547 t561 t564 t568 true a0_0 a0_1 a0_2 a0_3 a0_4 a1_0 a1_1 a1_2 l1_3 l1_4 l1_5)) else (a0b.j0 k t547 t561 t564 t568 true a0_0 a0_1 a0_2 a0_3 a0_4 a1_0 a1_1 a1_2 l1_3 l1_4 l1_5)) else (a0b.j0 k t547 t561 t564 t568 true a0_0 a0_1 a0_2 a0_3 a0_4 a1_0 a1_1 a1_2 l1_3 l1_4 l1_5)) = some r := H
   have A10 := am_ A100
   clear A100
   have HC11 := am_ H
   clear H
   go_enter Try.func5, Try.ntmps5
   go_upto_region 9 with (first | ((with_reducible refine a0h (N := 3) rfl ?_); (try (refine a1p (by rfl) ?_; dsimp only)); refine qev_ 3 #[.int .i64 a0_0, .int .i64 a0_1, .int .i64 a0_2, .int .i64 a0_3, .bool a0_4] 25 ?_; intro gb545 hg w12 hbox hb; have BK545 := am_ (hbox); have GW545 := qga_ hg; have GE545 := qga_ hg; replace HB := qbs_ hb; clear hb hbox hg) | ((with_reducible refine a0h (N := 4) rfl ?_); (try (refine a1p (by rfl) ?_; dsimp only)); refine qev_ 4 #[.int .i64 a1_0, .int .i64 a1_1, .int .i64 a1_2, .slice A1_3 l1_3.length c1_3, .slice A1_4 l1_4.length c1_4, .slice A1_5 l1_5.length c1_5] 30 ?_; intro gb546 hg w13 hbox hb; have BK546 := am_ (hbox); have GW546 := qga_ hg; have GE546 := qga_ hg; replace HB := qbs_ hb; have NB545_546 := am_ ((by rw [hg]; exact Nat.ne_of_lt (a0l (qk_ BK545)) : gb545 ≠ gb546)); have NB546_545 := am_ ((by rw [hg]; exact Nat.ne_of_gt (a0l (qk_ BK545)) : gb546 ≠ gb545)); replace BK545 := qkb_ BK545 hb; clear hb hbox hg) | (go_at_call 11; (with_reducible refine (a0m.calls k  t547 _ A4.out).mono ?_); rintro e w14 ⟨rfl, hb⟩; replace BK545 := qkb_ BK545 hb; replace BK546 := qkb_ BK546 hb; replace HB := qbs_ hb; (try clear hb); (try clear hb2); (try clear hk); (try clear hi); have hnb15 := NB545_546.out; have hnc15 := NB546_545.out; obtain ⟨z'16_0, z'16_1, z'16_2, z'16_3, z'16_4⟩ := qz5_ BK545; obtain ⟨y'16_0, y'16_1, y'16_2, y'16_3, y'16_4⟩ := qf5_ BK545; obtain ⟨z'17_0, z'17_1, z'17_2, z'17_3, z'17_4, z'17_5⟩ := qz6_ BK546; obtain ⟨y'17_0, y'17_1, y'17_2, y'17_3, y'17_4, y'17_5⟩ := qf6_ BK546) | (go_at_call 22; (with_reducible refine (a2v.calls k a0_0 a0_1 a0_2 a0_3 a0_4 a1_0 a1_1 a1_2 _ _ l1_3 _ _ l1_4 _ _ l1_5 true _ ?s1 ?s2 ?s3 ?s4 ?s5 ?s6 A5.out).mono ?_); (case s1 => exact qc_ HR1_3); (case s2 => exact HC1_3.out); (case s3 => exact qc_ HR1_4); (case s4 => exact HC1_4.out); (case s5 => exact qc_ HR1_5); (case s6 => exact HC1_5.out); rintro e w18 ⟨rfl, hb⟩; replace BK545 := qkb_ BK545 hb; replace BK546 := qkb_ BK546 hb; replace HB := qbs_ hb; (try clear hb); (try clear hb2); (try clear hk); (try clear hi); obtain ⟨z'19_0, z'19_1, z'19_2, z'19_3, z'19_4, z'19_5⟩ := qz6_ BK546; obtain ⟨y'19_0, y'19_1, y'19_2, y'19_3, y'19_4, y'19_5⟩ := qf6_ BK546) | (go_at_call 24; (with_reducible refine (a1j.calls k a1_0 a1_1 a1_2 (fun k_ => k_ < w.heap.size) _ _ l1_3 (fun k_ => k_ < w.heap.size) _ _ l1_4 (fun k_ => k_ < w.heap.size) _ _ l1_5 a2 t549 t550 t551 t552 t555 t558 t561 true _ ?s1 ?s2 ?s3 A7.out).mono ?_); (case s1 => exact Kd.V_mk HC1_3.out (Kd.a3t (Kd.C_F Kd.a5t HR1_3.out) qb_)); (case s2 => exact Kd.V_mk HC1_4.out (Kd.a3t (Kd.C_F a6n HR1_4.out) qb_)); (case s3 => exact Kd.V_mk HC1_5.out (Kd.a3t (Kd.C_F (Kd.a5r .i64) HR1_5.out) qb_)); rintro e w20 ⟨v553, v556, v559, rfl, ho0, ho1, ho2, hb⟩; have HO554 := am_ (Kd.a4h (Kd.a0i (ok' := fun k_ => k_ ≠ gb545 ∧ k_ ≠ gb546) ho0 (fun k_ hk_ => ⟨Or.elim hk_ (fun hs_ => Or.elim hs_ (fun hs_ => fun e_ => Nat.not_le.2 hs_ (by rw [e_]; exact GW545.out)) (fun hs_ => Or.elim hs_ (fun hs_ => fun e_ => Nat.not_le.2 hs_ (by rw [e_]; exact GW545.out)) (fun hs_ => fun e_ => Nat.not_le.2 hs_ (by rw [e_]; exact GW545.out)))) (fun hn_ => (Kd.a3a (g := gb545) (o := .cells #[.int .i64 a0_0, .int .i64 a0_1, .int .i64 a0_2, .int .i64 a0_3, .bool a0_4] 25 (0, 0)) (qk_ BK545) k_ hn_)), Or.elim hk_ (fun hs_ => Or.elim hs_ (fun hs_ => fun e_ => Nat.not_le.2 hs_ (by rw [e_]; exact GW546.out)) (fun hs_ => Or.elim hs_ (fun hs_ => fun e_ => Nat.not_le.2 hs_ (by rw [e_]; exact GW546.out)) (fun hs_ => fun e_ => Nat.not_le.2 hs_ (by rw [e_]; exact GW546.out)))) (fun hn_ => (Kd.a3a (g := gb546) (o := .cells #[.int .i64 a1_0, .int .i64 a1_1, .int .i64 a1_2, .slice A1_3 l1_3.length c1_3, .slice A1_4 l1_4.length c1_4, .slice A1_5 l1_5.length c1_5] 30 (0, 0)) (qk_ BK546) k_ hn_))⟩)) (a0p qb_)); have HO557 := am_ (Kd.a4h (Kd.a0i (ok' := fun k_ => k_ ≠ gb545 ∧ k_ ≠ gb546) ho1 (fun k_ hk_ => ⟨Or.elim hk_ (fun hs_ => Or.elim hs_ (fun hs_ => fun e_ => Nat.not_le.2 hs_ (by rw [e_]; exact GW545.out)) (fun hs_ => Or.elim hs_ (fun hs_ => fun e_ => Nat.not_le.2 hs_ (by rw [e_]; exact GW545.out)) (fun hs_ => fun e_ => Nat.not_le.2 hs_ (by rw [e_]; exact GW545.out)))) (fun hn_ => (Kd.a3a (g := gb545) (o := .cells #[.int .i64 a0_0, .int .i64 a0_1, .int .i64 a0_2, .int .i64 a0_3, .bool a0_4] 25 (0, 0)) (qk_ BK545) k_ hn_)), Or.elim hk_ (fun hs_ => Or.elim hs_ (fun hs_ => fun e_ => Nat.not_le.2 hs_ (by rw [e_]; exact GW546.out)) (fun hs_ => Or.elim hs_ (fun hs_ => fun e_ => Nat.not_le.2 hs_ (by rw [e_]; exact GW546.out)) (fun hs_ => fun e_ => Nat.not_le.2 hs_ (by rw [e_]; exact GW546.out)))) (fun hn_ => (Kd.a3a (g := gb546) (o := .cells #[.int .i64 a1_0, .int .i64 a1_1, .int .i64 a1_2, .slice A1_3 l1_3.length c1_3, .slice A1_4 l1_4.length c1_4, .slice A1_5 l1_5.length c1_5] 30 (0, 0)) (qk_ BK546) k_ hn_))⟩)) (a0p qb_)); have HO560 := am_ (Kd.a4h (Kd.a0i (ok' := fun k_ => k_ ≠ gb545 ∧ k_ ≠ gb546) ho2 (fun k_ hk_ => ⟨Or.elim hk_ (fun hs_ => Or.elim hs_ (fun hs_ => fun e_ => Nat.not_le.2 hs_ (by rw [e_]; exact GW545.out)) (fun hs_ => Or.elim hs_ (fun hs_ => fun e_ => Nat.not_le.2 hs_ (by rw [e_]; exact GW545.out)) (fun hs_ => fun e_ => Nat.not_le.2 hs_ (by rw [e_]; exact GW545.out)))) (fun hn_ => (Kd.a3a (g := gb545) (o := .cells #[.int .i64 a0_0, .int .i64 a0_1, .int .i64 a0_2, .int .i64 a0_3, .bool a0_4] 25 (0, 0)) (qk_ BK545) k_ hn_)), Or.elim hk_ (fun hs_ => Or.elim hs_ (fun hs_ => fun e_ => Nat.not_le.2 hs_ (by rw [e_]; exact GW546.out)) (fun hs_ => Or.elim hs_ (fun hs_ => fun e_ => Nat.not_le.2 hs_ (by rw [e_]; exact GW546.out)) (fun hs_ => fun e_ => Nat.not_le.2 hs_ (by rw [e_]; exact GW546.out)))) (fun hn_ => (Kd.a3a (g := gb546) (o := .cells #[.int .i64 a1_0, .int .i64 a1_1, .int .i64 a1_2, .slice A1_3 l1_3.length c1_3, .slice A1_4 l1_4.length c1_4, .slice A1_5 l1_5.length c1_5] 30 (0, 0)) (qk_ BK546) k_ hn_))⟩)) (a0p qb_)); replace BK545 := qkb_ BK545 hb; replace BK546 := qkb_ BK546 hb; replace HB := qbs_ hb; (try clear hb); (try clear hb2); (try clear hk); (try clear hi); (try clear ho0); (try clear ho1); (try clear ho2)) | ((with_reducible refine a0h (N := 8) rfl ?_); (try (refine a1p (by rfl) ?_; dsimp only)); refine qev_ 8 #[.int .i64 0, .int .i64 0, .int .i64 0, .slice none 0 0, .slice none 0 0, .slice none 0 0] 30 ?_; intro gb563 hg w21 hbox hb; replace HO554 := am_ (Kd.a1c (Kd.a1l (by (with_reducible repeat (first | apply Kd.V_alloc | apply Kd.a0d | apply Kd.a0e)); exact HO554.out) gb563 (Nat.le_of_eq hg.symm)) hb); replace HO557 := am_ (Kd.a1c (Kd.a1l (by (with_reducible repeat (first | apply Kd.V_alloc | apply Kd.a0d | apply Kd.a0e)); exact HO557.out) gb563 (Nat.le_of_eq hg.symm)) hb); replace HO560 := am_ (Kd.a1c (Kd.a1l (by (with_reducible repeat (first | apply Kd.V_alloc | apply Kd.a0d | apply Kd.a0e)); exact HO560.out) gb563 (Nat.le_of_eq hg.symm)) hb); have BK563 := am_ (hbox); have GW563 := qga_ hg; have GE563 := qga_ hg; replace HB := qbs_ hb; have NB545_563 := am_ ((by rw [hg]; exact Nat.ne_of_lt (a0l (qk_ BK545)) : gb545 ≠ gb563)); have NB563_545 := am_ ((by rw [hg]; exact Nat.ne_of_gt (a0l (qk_ BK545)) : gb563 ≠ gb545)); replace BK545 := qkb_ BK545 hb; have NB546_563 := am_ ((by rw [hg]; exact Nat.ne_of_lt (a0l (qk_ BK546)) : gb546 ≠ gb563)); have NB563_546 := am_ ((by rw [hg]; exact Nat.ne_of_gt (a0l (qk_ BK546)) : gb563 ≠ gb546)); replace BK546 := qkb_ BK546 hb; clear hb hbox hg; have hnb22 := NB563_545.out; have hnc22 := NB545_563.out; have hnb23 := NB563_546.out; have hnc23 := NB546_563.out; obtain ⟨z'24_0, z'24_1, z'24_2, z'24_3, z'24_4, z'24_5⟩ := qz6_ BK563; obtain ⟨y'24_0, y'24_1, y'24_2, y'24_3, y'24_4, y'24_5⟩ := qf6_ BK563; obtain ⟨Ao25, co25, eo25⟩ := Kd.a4g HO554.out; subst eo25; obtain ⟨Ao26, co26, eo26⟩ := Kd.a4g HO557.out; subst eo26; obtain ⟨Ao27, co27, eo27⟩ := Kd.a4g HO560.out; subst eo27; obtain ⟨z'28_0, z'28_1, z'28_2, z'28_3, z'28_4⟩ := qz5_ BK545; obtain ⟨y'28_0, y'28_1, y'28_2, y'28_3, y'28_4⟩ := qf5_ BK545; obtain ⟨z'29_0, z'29_1, z'29_2, z'29_3, z'29_4, z'29_5⟩ := qz6_ BK546; obtain ⟨y'29_0, y'29_1, y'29_2, y'29_3, y'29_4, y'29_5⟩ := qf6_ BK546) | (go_at_call 13; (with_reducible refine (a0y.calls k a0_0 a0_1 a0_2 a0_3 a0_4 a1_0 a1_1 a1_2 _ _ l1_3 _ _ l1_4 _ _ l1_5 t564 t567 _ ?s1 ?s2 ?s3 ?s4 ?s5 ?s6 A9.out).mono ?_); (case s1 => exact Kd.a1g HR1_3.out qb_); (case s2 => exact HC1_3.out); (case s3 => exact Kd.a1g HR1_4.out qb_); (case s4 => exact HC1_4.out); (case s5 => exact Kd.a1g HR1_5.out qb_); (case s6 => exact HC1_5.out); rintro e w30 ⟨v565, rfl, ho0, hb⟩; replace HO554 := am_ (Kd.a3u (by (with_reducible repeat (first | apply Kd.V_alloc | apply Kd.a0d | apply Kd.a0e)); exact (Kd.a0i (Kd.a0j (p := ⟨gb563, 5, none⟩) (Kd.a0j (p := ⟨gb563, 4, none⟩) (Kd.a0j (p := ⟨gb563, 3, none⟩) (Kd.a0j (p := ⟨gb563, 2, none⟩) (Kd.a0j (p := ⟨gb563, 1, none⟩) (Kd.a0j (p := ⟨gb563, 0, none⟩) (Kd.a0i HO554.out (fun k_ hk => (⟨hk, hk.2⟩ : _ ∧ k_ ≠ gb563))) (fun _ hk => hk.2) (.int .i64 t549)) (fun _ hk => hk.2) (.int .i64 t550)) (fun _ hk => hk.2) (.int .i64 t551)) (fun _ hk => hk.2) (.slice Ao25 t552.length co25)) (fun _ hk => hk.2) (.slice Ao26 t555.length co26)) (fun _ hk => hk.2) (.slice Ao27 t558.length co27)) (fun _ h_ => h_.1))) (Kd.a4l ho0) hb); replace HO557 := am_ (Kd.a3u (by (with_reducible repeat (first | apply Kd.V_alloc | apply Kd.a0d | apply Kd.a0e)); exact (Kd.a0i (Kd.a0j (p := ⟨gb563, 5, none⟩) (Kd.a0j (p := ⟨gb563, 4, none⟩) (Kd.a0j (p := ⟨gb563, 3, none⟩) (Kd.a0j (p := ⟨gb563, 2, none⟩) (Kd.a0j (p := ⟨gb563, 1, none⟩) (Kd.a0j (p := ⟨gb563, 0, none⟩) (Kd.a0i HO557.out (fun k_ hk => (⟨hk, hk.2⟩ : _ ∧ k_ ≠ gb563))) (fun _ hk => hk.2) (.int .i64 t549)) (fun _ hk => hk.2) (.int .i64 t550)) (fun _ hk => hk.2) (.int .i64 t551)) (fun _ hk => hk.2) (.slice Ao25 t552.length co25)) (fun _ hk => hk.2) (.slice Ao26 t555.length co26)) (fun _ hk => hk.2) (.slice Ao27 t558.length co27)) (fun _ h_ => h_.1))) (Kd.a4l ho0) hb); replace HO560 := am_ (Kd.a3u (by (with_reducible repeat (first | apply Kd.V_alloc | apply Kd.a0d | apply Kd.a0e)); exact (Kd.a0i (Kd.a0j (p := ⟨gb563, 5, none⟩) (Kd.a0j (p := ⟨gb563, 4, none⟩) (Kd.a0j (p := ⟨gb563, 3, none⟩) (Kd.a0j (p := ⟨gb563, 2, none⟩) (Kd.a0j (p := ⟨gb563, 1, none⟩) (Kd.a0j (p := ⟨gb563, 0, none⟩) (Kd.a0i HO560.out (fun k_ hk => (⟨hk, hk.2⟩ : _ ∧ k_ ≠ gb563))) (fun _ hk => hk.2) (.int .i64 t549)) (fun _ hk => hk.2) (.int .i64 t550)) (fun _ hk => hk.2) (.int .i64 t551)) (fun _ hk => hk.2) (.slice Ao25 t552.length co25)) (fun _ hk => hk.2) (.slice Ao26 t555.length co26)) (fun _ hk => hk.2) (.slice Ao27 t558.length co27)) (fun _ h_ => h_.1))) (Kd.a4l ho0) hb); have HO566 := am_ (Kd.a2d ho0 (a0p qb_)); replace BK545 := am_ (a1k (g := gb545) (o := .cells #[.int .i64 a0_0, .int .i64 a0_1, .int .i64 a0_2, .int .i64 a0_3, .bool a0_4] 25 (0, 0)) (by refine qd_ ?_; refine a0c ?_ NB545_563.out _; refine qd_ ?_; refine a0c ?_ NB545_563.out _; refine qd_ ?_; refine a0c ?_ NB545_563.out _; refine qd_ ?_; refine a0c ?_ NB545_563.out _; refine qd_ ?_; refine a0c ?_ NB545_563.out _; refine qd_ ?_; refine a0c ?_ NB545_563.out _; refine qd_ ?_; exact BK545.out) hb); replace BK546 := am_ (a1k (g := gb546) (o := .cells #[.int .i64 a1_0, .int .i64 a1_1, .int .i64 a1_2, .slice A1_3 l1_3.length c1_3, .slice A1_4 l1_4.length c1_4, .slice A1_5 l1_5.length c1_5] 30 (0, 0)) (by refine qd_ ?_; refine a0c ?_ NB546_563.out _; refine qd_ ?_; refine a0c ?_ NB546_563.out _; refine qd_ ?_; refine a0c ?_ NB546_563.out _; refine qd_ ?_; refine a0c ?_ NB546_563.out _; refine qd_ ?_; refine a0c ?_ NB546_563.out _; refine qd_ ?_; refine a0c ?_ NB546_563.out _; refine qd_ ?_; exact BK546.out) hb); replace BK563 := am_ (a1k (g := gb563) (o := .cells #[.int .i64 t549, .int .i64 t550, .int .i64 t551, .slice Ao25 t552.length co25, .slice Ao26 t555.length co26, .slice Ao27 t558.length co27] 30 (0, 0)) (by refine qd_ ?_; refine a0g (cs := #[.int .i64 t549, .int .i64 t550, .int .i64 t551, .slice Ao25 t552.length co25, .slice Ao26 t555.length co26, .slice none 0 0]) ?_ 5 _ rfl; refine qd_ ?_; refine a0g (cs := #[.int .i64 t549, .int .i64 t550, .int .i64 t551, .slice Ao25 t552.length co25, .slice none 0 0, .slice none 0 0]) ?_ 4 _ rfl; refine qd_ ?_; refine a0g (cs := #[.int .i64 t549, .int .i64 t550, .int .i64 t551, .slice none 0 0, .slice none 0 0, .slice none 0 0]) ?_ 3 _ rfl; refine qd_ ?_; refine a0g (cs := #[.int .i64 t549, .int .i64 t550, .int .i64 0, .slice none 0 0, .slice none 0 0, .slice none 0 0]) ?_ 2 _ rfl; refine qd_ ?_; refine a0g (cs := #[.int .i64 t549, .int .i64 0, .int .i64 0, .slice none 0 0, .slice none 0 0, .slice none 0 0]) ?_ 1 _ rfl; refine qd_ ?_; refine a0g (cs := #[.int .i64 0, .int .i64 0, .int .i64 0, .slice none 0 0, .slice none 0 0, .slice none 0 0]) ?_ 0 _ rfl; refine qd_ ?_; exact BK563.out) hb); replace HB := qbs_ hb; (try clear hb); (try clear hb2); (try clear hk); (try clear hi); (try clear ho0); obtain ⟨z'31_0, z'31_1, z'31_2, z'31_3, z'31_4⟩ := qz5_ BK545; obtain ⟨y'31_0, y'31_1, y'31_2, y'31_3, y'31_4⟩ := qf5_ BK545; obtain ⟨z'32_0, z'32_1, z'32_2, z'32_3, z'32_4, z'32_5⟩ := qz6_ BK563; obtain ⟨y'32_0, y'32_1, y'32_2, y'32_3, y'32_4, y'32_5⟩ := qf6_ BK563) | (go_at_call 13; (with_reducible refine (a0y.calls k a0_0 a0_1 a0_2 a0_3 a0_4 t549 t550 t551 _ _ t552 _ _ t555 _ _ t558 t568 t571 _ ?s1 ?s2 ?s3 ?s4 ?s5 ?s6 A10.out).mono ?_); (case s1 => repeat (first | exact (Kd.a1q HO554.out).2.2 | (with_reducible refine Kd.a1z ?_ _) | (with_reducible refine Kd.a2a ?_ _) | (with_reducible refine Kd.a2h ?_))); (case s2 => exact (Kd.a1q HO554.out).2.1); (case s3 => repeat (first | exact (Kd.a1q HO557.out).2.2 | (with_reducible refine Kd.a1z ?_ _) | (with_reducible refine Kd.a2a ?_ _) | (with_reducible refine Kd.a2h ?_))); (case s4 => exact (Kd.a1q HO557.out).2.1); (case s5 => repeat (first | exact (Kd.a1q HO560.out).2.2 | (with_reducible refine Kd.a1z ?_ _) | (with_reducible refine Kd.a2a ?_ _) | (with_reducible refine Kd.a2h ?_))); (case s6 => exact (Kd.a1q HO560.out).2.1); rintro e w33 ⟨v569, rfl, ho0, hb⟩; replace HO554 := am_ (Kd.a3u (by (with_reducible repeat (first | apply Kd.V_alloc | apply Kd.a0d | apply Kd.a0e)); exact HO554.out) (Kd.a4l ho0) hb); replace HO557 := am_ (Kd.a3u (by (with_reducible repeat (first | apply Kd.V_alloc | apply Kd.a0d | apply Kd.a0e)); exact HO557.out) (Kd.a4l ho0) hb); replace HO560 := am_ (Kd.a3u (by (with_reducible repeat (first | apply Kd.V_alloc | apply Kd.a0d | apply Kd.a0e)); exact HO560.out) (Kd.a4l ho0) hb); have HO570 := am_ (Kd.a2d (Kd.a1d ho0 (Kd.R_lt (qr_ HO566))) (a0p qb_)); replace HO566 := qel_ HO566 ho0 hb; replace BK545 := qkb_ BK545 hb; replace BK546 := qkb_ BK546 hb; replace BK563 := qkb_ BK563 hb; replace HB := qbs_ hb; (try clear hb); (try clear hb2); (try clear hk); (try clear hi); (try clear ho0)))
   repeat (go_quiet (first | ((with_reducible refine a0h (N := 3) rfl ?_); (try (refine a1p (by rfl) ?_; dsimp only)); refine qev_ 3 #[.int .i64 a0_0, .int .i64 a0_1, .int .i64 a0_2, .int .i64 a0_3, .bool a0_4] 25 ?_; intro gb545 hg w12 hbox hb; have BK545 := am_ (hbox); have GW545 := qga_ hg; have GE545 := qga_ hg; replace HB := qbs_ hb; clear hb hbox hg) | ((with_reducible refine a0h (N := 4) rfl ?_); (try (refine a1p (by rfl) ?_; dsimp only)); refine qev_ 4 #[.int .i64 a1_0, .int .i64 a1_1, .int .i64 a1_2, .slice A1_3 l1_3.length c1_3, .slice A1_4 l1_4.length c1_4, .slice A1_5 l1_5.length c1_5] 30 ?_; intro gb546 hg w13 hbox hb; have BK546 := am_ (hbox); have GW546 := qga_ hg; have GE546 := qga_ hg; replace HB := qbs_ hb; have NB545_546 := am_ ((by rw [hg]; exact Nat.ne_of_lt (a0l (qk_ BK545)) : gb545 ≠ gb546)); have NB546_545 := am_ ((by rw [hg]; exact Nat.ne_of_gt (a0l (qk_ BK545)) : gb546 ≠ gb545)); replace BK545 := qkb_ BK545 hb; clear hb hbox hg) | (go_at_call 11; (with_reducible refine (a0m.calls k  t547 _ A4.out).mono ?_); rintro e w14 ⟨rfl, hb⟩; replace BK545 := qkb_ BK545 hb; replace BK546 := qkb_ BK546 hb; replace HB := qbs_ hb; (try clear hb); (try clear hb2); (try clear hk); (try clear hi); have hnb15 := NB545_546.out; have hnc15 := NB546_545.out; obtain ⟨z'16_0, z'16_1, z'16_2, z'16_3, z'16_4⟩ := qz5_ BK545; obtain ⟨y'16_0, y'16_1, y'16_2, y'16_3, y'16_4⟩ := qf5_ BK545; obtain ⟨z'17_0, z'17_1, z'17_2, z'17_3, z'17_4, z'17_5⟩ := qz6_ BK546; obtain ⟨y'17_0, y'17_1, y'17_2, y'17_3, y'17_4, y'17_5⟩ := qf6_ BK546) | (go_at_call 22; (with_reducible refine (a2v.calls k a0_0 a0_1 a0_2 a0_3 a0_4 a1_0 a1_1 a1_2 _ _ l1_3 _ _ l1_4 _ _ l1_5 true _ ?s1 ?s2 ?s3 ?s4 ?s5 ?s6 A5.out).mono ?_); (case s1 => exact qc_ HR1_3); (case s2 => exact HC1_3.out); (case s3 => exact qc_ HR1_4); (case s4 => exact HC1_4.out); (case s5 => exact qc_ HR1_5); (case s6 => exact HC1_5.out); rintro e w18 ⟨rfl, hb⟩; replace BK545 := qkb_ BK545 hb; replace BK546 := qkb_ BK546 hb; replace HB := qbs_ hb; (try clear hb); (try clear hb2); (try clear hk); (try clear hi); obtain ⟨z'19_0, z'19_1, z'19_2, z'19_3, z'19_4, z'19_5⟩ := qz6_ BK546; obtain ⟨y'19_0, y'19_1, y'19_2, y'19_3, y'19_4, y'19_5⟩ := qf6_ BK546) | (go_at_call 24; (with_reducible refine (a1j.calls k a1_0 a1_1 a1_2 (fun k_ => k_ < w.heap.size) _ _ l1_3 (fun k_ => k_ < w.heap.size) _ _ l1_4 (fun k_ => k_ < w.heap.size) _ _ l1_5 a2 t549 t550 t551 t552 t555 t558 t561 true _ ?s1 ?s2 ?s3 A7.out).mono ?_); (case s1 => exact Kd.V_mk HC1_3.out (Kd.a3t (Kd.C_F Kd.a5t HR1_3.out) qb_)); (case s2 => exact Kd.V_mk HC1_4.out (Kd.a3t (Kd.C_F a6n HR1_4.out) qb_)); (case s3 => exact Kd.V_mk HC1_5.out (Kd.a3t (Kd.C_F (Kd.a5r .i64) HR1_5.out) qb_)); rintro e w20 ⟨v553, v556, v559, rfl, ho0, ho1, ho2, hb⟩; have HO554 := am_ (Kd.a4h (Kd.a0i (ok' := fun k_ => k_ ≠ gb545 ∧ k_ ≠ gb546) ho0 (fun k_ hk_ => ⟨Or.elim hk_ (fun hs_ => Or.elim hs_ (fun hs_ => fun e_ => Nat.not_le.2 hs_ (by rw [e_]; exact GW545.out)) (fun hs_ => Or.elim hs_ (fun hs_ => fun e_ => Nat.not_le.2 hs_ (by rw [e_]; exact GW545.out)) (fun hs_ => fun e_ => Nat.not_le.2 hs_ (by rw [e_]; exact GW545.out)))) (fun hn_ => (Kd.a3a (g := gb545) (o := .cells #[.int .i64 a0_0, .int .i64 a0_1, .int .i64 a0_2, .int .i64 a0_3, .bool a0_4] 25 (0, 0)) (qk_ BK545) k_ hn_)), Or.elim hk_ (fun hs_ => Or.elim hs_ (fun hs_ => fun e_ => Nat.not_le.2 hs_ (by rw [e_]; exact GW546.out)) (fun hs_ => Or.elim hs_ (fun hs_ => fun e_ => Nat.not_le.2 hs_ (by rw [e_]; exact GW546.out)) (fun hs_ => fun e_ => Nat.not_le.2 hs_ (by rw [e_]; exact GW546.out)))) (fun hn_ => (Kd.a3a (g := gb546) (o := .cells #[.int .i64 a1_0, .int .i64 a1_1, .int .i64 a1_2, .slice A1_3 l1_3.length c1_3, .slice A1_4 l1_4.length c1_4, .slice A1_5 l1_5.length c1_5] 30 (0, 0)) (qk_ BK546) k_ hn_))⟩)) (a0p qb_)); have HO557 := am_ (Kd.a4h (Kd.a0i (ok' := fun k_ => k_ ≠ gb545 ∧ k_ ≠ gb546) ho1 (fun k_ hk_ => ⟨Or.elim hk_ (fun hs_ => Or.elim hs_ (fun hs_ => fun e_ => Nat.not_le.2 hs_ (by rw [e_]; exact GW545.out)) (fun hs_ => Or.elim hs_ (fun hs_ => fun e_ => Nat.not_le.2 hs_ (by rw [e_]; exact GW545.out)) (fun hs_ => fun e_ => Nat.not_le.2 hs_ (by rw [e_]; exact GW545.out)))) (fun hn_ => (Kd.a3a (g := gb545) (o := .cells #[.int .i64 a0_0, .int .i64 a0_1, .int .i64 a0_2, .int .i64 a0_3, .bool a0_4] 25 (0, 0)) (qk_ BK545) k_ hn_)), Or.elim hk_ (fun hs_ => Or.elim hs_ (fun hs_ => fun e_ => Nat.not_le.2 hs_ (by rw [e_]; exact GW546.out)) (fun hs_ => Or.elim hs_ (fun hs_ => fun e_ => Nat.not_le.2 hs_ (by rw [e_]; exact GW546.out)) (fun hs_ => fun e_ => Nat.not_le.2 hs_ (by rw [e_]; exact GW546.out)))) (fun hn_ => (Kd.a3a (g := gb546) (o := .cells #[.int .i64 a1_0, .int .i64 a1_1, .int .i64 a1_2, .slice A1_3 l1_3.length c1_3, .slice A1_4 l1_4.length c1_4, .slice A1_5 l1_5.length c1_5] 30 (0, 0)) (qk_ BK546) k_ hn_))⟩)) (a0p qb_)); have HO560 := am_ (Kd.a4h (Kd.a0i (ok' := fun k_ => k_ ≠ gb545 ∧ k_ ≠ gb546) ho2 (fun k_ hk_ => ⟨Or.elim hk_ (fun hs_ => Or.elim hs_ (fun hs_ => fun e_ => Nat.not_le.2 hs_ (by rw [e_]; exact GW545.out)) (fun hs_ => Or.elim hs_ (fun hs_ => fun e_ => Nat.not_le.2 hs_ (by rw [e_]; exact GW545.out)) (fun hs_ => fun e_ => Nat.not_le.2 hs_ (by rw [e_]; exact GW545.out)))) (fun hn_ => (Kd.a3a (g := gb545) (o := .cells #[.int .i64 a0_0, .int .i64 a0_1, .int .i64 a0_2, .int .i64 a0_3, .bool a0_4] 25 (0, 0)) (qk_ BK545) k_ hn_)), Or.elim hk_ (fun hs_ => Or.elim hs_ (fun hs_ => fun e_ => Nat.not_le.2 hs_ (by rw [e_]; exact GW546.out)) (fun hs_ => Or.elim hs_ (fun hs_ => fun e_ => Nat.not_le.2 hs_ (by rw [e_]; exact GW546.out)) (fun hs_ => fun e_ => Nat.not_le.2 hs_ (by rw [e_]; exact GW546.out)))) (fun hn_ => (Kd.a3a (g := gb546) (o := .cells #[.int .i64 a1_0, .int .i64 a1_1, .int .i64 a1_2, .slice A1_3 l1_3.length c1_3, .slice A1_4 l1_4.length c1_4, .slice A1_5 l1_5.length c1_5] 30 (0, 0)) (qk_ BK546) k_ hn_))⟩)) (a0p qb_)); replace BK545 := qkb_ BK545 hb; replace BK546 := qkb_ BK546 hb; replace HB := qbs_ hb; (try clear hb); (try clear hb2); (try clear hk); (try clear hi); (try clear ho0); (try clear ho1); (try clear ho2)) | ((with_reducible refine a0h (N := 8) rfl ?_); (try (refine a1p (by rfl) ?_; dsimp only)); refine qev_ 8 #[.int .i64 0, .int .i64 0, .int .i64 0, .slice none 0 0, .slice none 0 0, .slice none 0 0] 30 ?_; intro gb563 hg w21 hbox hb; replace HO554 := am_ (Kd.a1c (Kd.a1l (by (with_reducible repeat (first | apply Kd.V_alloc | apply Kd.a0d | apply Kd.a0e)); exact HO554.out) gb563 (Nat.le_of_eq hg.symm)) hb); replace HO557 := am_ (Kd.a1c (Kd.a1l (by (with_reducible repeat (first | apply Kd.V_alloc | apply Kd.a0d | apply Kd.a0e)); exact HO557.out) gb563 (Nat.le_of_eq hg.symm)) hb); replace HO560 := am_ (Kd.a1c (Kd.a1l (by (with_reducible repeat (first | apply Kd.V_alloc | apply Kd.a0d | apply Kd.a0e)); exact HO560.out) gb563 (Nat.le_of_eq hg.symm)) hb); have BK563 := am_ (hbox); have GW563 := qga_ hg; have GE563 := qga_ hg; replace HB := qbs_ hb; have NB545_563 := am_ ((by rw [hg]; exact Nat.ne_of_lt (a0l (qk_ BK545)) : gb545 ≠ gb563)); have NB563_545 := am_ ((by rw [hg]; exact Nat.ne_of_gt (a0l (qk_ BK545)) : gb563 ≠ gb545)); replace BK545 := qkb_ BK545 hb; have NB546_563 := am_ ((by rw [hg]; exact Nat.ne_of_lt (a0l (qk_ BK546)) : gb546 ≠ gb563)); have NB563_546 := am_ ((by rw [hg]; exact Nat.ne_of_gt (a0l (qk_ BK546)) : gb563 ≠ gb546)); replace BK546 := qkb_ BK546 hb; clear hb hbox hg; have hnb22 := NB563_545.out; have hnc22 := NB545_563.out; have hnb23 := NB563_546.out; have hnc23 := NB546_563.out; obtain ⟨z'24_0, z'24_1, z'24_2, z'24_3, z'24_4, z'24_5⟩ := qz6_ BK563; obtain ⟨y'24_0, y'24_1, y'24_2, y'24_3, y'24_4, y'24_5⟩ := qf6_ BK563; obtain ⟨Ao25, co25, eo25⟩ := Kd.a4g HO554.out; subst eo25; obtain ⟨Ao26, co26, eo26⟩ := Kd.a4g HO557.out; subst eo26; obtain ⟨Ao27, co27, eo27⟩ := Kd.a4g HO560.out; subst eo27; obtain ⟨z'28_0, z'28_1, z'28_2, z'28_3, z'28_4⟩ := qz5_ BK545; obtain ⟨y'28_0, y'28_1, y'28_2, y'28_3, y'28_4⟩ := qf5_ BK545; obtain ⟨z'29_0, z'29_1, z'29_2, z'29_3, z'29_4, z'29_5⟩ := qz6_ BK546; obtain ⟨y'29_0, y'29_1, y'29_2, y'29_3, y'29_4, y'29_5⟩ := qf6_ BK546) | (go_at_call 13; (with_reducible refine (a0y.calls k a0_0 a0_1 a0_2 a0_3 a0_4 a1_0 a1_1 a1_2 _ _ l1_3 _ _ l1_4 _ _ l1_5 t564 t567 _ ?s1 ?s2 ?s3 ?s4 ?s5 ?s6 A9.out).mono ?_); (case s1 => exact Kd.a1g HR1_3.out qb_); (case s2 => exact HC1_3.out); (case s3 => exact Kd.a1g HR1_4.out qb_); (case s4 => exact HC1_4.out); (case s5 => exact Kd.a1g HR1_5.out qb_); (case s6 => exact HC1_5.out); rintro e w30 ⟨v565, rfl, ho0, hb⟩; replace HO554 := am_ (Kd.a3u (by (with_reducible repeat (first | apply Kd.V_alloc | apply Kd.a0d | apply Kd.a0e)); exact (Kd.a0i (Kd.a0j (p := ⟨gb563, 5, none⟩) (Kd.a0j (p := ⟨gb563, 4, none⟩) (Kd.a0j (p := ⟨gb563, 3, none⟩) (Kd.a0j (p := ⟨gb563, 2, none⟩) (Kd.a0j (p := ⟨gb563, 1, none⟩) (Kd.a0j (p := ⟨gb563, 0, none⟩) (Kd.a0i HO554.out (fun k_ hk => (⟨hk, hk.2⟩ : _ ∧ k_ ≠ gb563))) (fun _ hk => hk.2) (.int .i64 t549)) (fun _ hk => hk.2) (.int .i64 t550)) (fun _ hk => hk.2) (.int .i64 t551)) (fun _ hk => hk.2) (.slice Ao25 t552.length co25)) (fun _ hk => hk.2) (.slice Ao26 t555.length co26)) (fun _ hk => hk.2) (.slice Ao27 t558.length co27)) (fun _ h_ => h_.1))) (Kd.a4l ho0) hb); replace HO557 := am_ (Kd.a3u (by (with_reducible repeat (first | apply Kd.V_alloc | apply Kd.a0d | apply Kd.a0e)); exact (Kd.a0i (Kd.a0j (p := ⟨gb563, 5, none⟩) (Kd.a0j (p := ⟨gb563, 4, none⟩) (Kd.a0j (p := ⟨gb563, 3, none⟩) (Kd.a0j (p := ⟨gb563, 2, none⟩) (Kd.a0j (p := ⟨gb563, 1, none⟩) (Kd.a0j (p := ⟨gb563, 0, none⟩) (Kd.a0i HO557.out (fun k_ hk => (⟨hk, hk.2⟩ : _ ∧ k_ ≠ gb563))) (fun _ hk => hk.2) (.int .i64 t549)) (fun _ hk => hk.2) (.int .i64 t550)) (fun _ hk => hk.2) (.int .i64 t551)) (fun _ hk => hk.2) (.slice Ao25 t552.length co25)) (fun _ hk => hk.2) (.slice Ao26 t555.length co26)) (fun _ hk => hk.2) (.slice Ao27 t558.length co27)) (fun _ h_ => h_.1))) (Kd.a4l ho0) hb); replace HO560 := am_ (Kd.a3u (by (with_reducible repeat (first | apply Kd.V_alloc | apply Kd.a0d | apply Kd.a0e)); exact (Kd.a0i (Kd.a0j (p := ⟨gb563, 5, none⟩) (Kd.a0j (p := ⟨gb563, 4, none⟩) (Kd.a0j (p := ⟨gb563, 3, none⟩) (Kd.a0j (p := ⟨gb563, 2, none⟩) (Kd.a0j (p := ⟨gb563, 1, none⟩) (Kd.a0j (p := ⟨gb563, 0, none⟩) (Kd.a0i HO560.out (fun k_ hk => (⟨hk, hk.2⟩ : _ ∧ k_ ≠ gb563))) (fun _ hk => hk.2) (.int .i64 t549)) (fun _ hk => hk.2) (.int .i64 t550)) (fun _ hk => hk.2) (.int .i64 t551)) (fun _ hk => hk.2) (.slice Ao25 t552.length co25)) (fun _ hk => hk.2) (.slice Ao26 t555.length co26)) (fun _ hk => hk.2) (.slice Ao27 t558.length co27)) (fun _ h_ => h_.1))) (Kd.a4l ho0) hb); have HO566 := am_ (Kd.a2d ho0 (a0p qb_)); replace BK545 := am_ (a1k (g := gb545) (o := .cells #[.int .i64 a0_0, .int .i64 a0_1, .int .i64 a0_2, .int .i64 a0_3, .bool a0_4] 25 (0, 0)) (by refine qd_ ?_; refine a0c ?_ NB545_563.out _; refine qd_ ?_; refine a0c ?_ NB545_563.out _; refine qd_ ?_; refine a0c ?_ NB545_563.out _; refine qd_ ?_; refine a0c ?_ NB545_563.out _; refine qd_ ?_; refine a0c ?_ NB545_563.out _; refine qd_ ?_; refine a0c ?_ NB545_563.out _; refine qd_ ?_; exact BK545.out) hb); replace BK546 := am_ (a1k (g := gb546) (o := .cells #[.int .i64 a1_0, .int .i64 a1_1, .int .i64 a1_2, .slice A1_3 l1_3.length c1_3, .slice A1_4 l1_4.length c1_4, .slice A1_5 l1_5.length c1_5] 30 (0, 0)) (by refine qd_ ?_; refine a0c ?_ NB546_563.out _; refine qd_ ?_; refine a0c ?_ NB546_563.out _; refine qd_ ?_; refine a0c ?_ NB546_563.out _; refine qd_ ?_; refine a0c ?_ NB546_563.out _; refine qd_ ?_; refine a0c ?_ NB546_563.out _; refine qd_ ?_; refine a0c ?_ NB546_563.out _; refine qd_ ?_; exact BK546.out) hb); replace BK563 := am_ (a1k (g := gb563) (o := .cells #[.int .i64 t549, .int .i64 t550, .int .i64 t551, .slice Ao25 t552.length co25, .slice Ao26 t555.length co26, .slice Ao27 t558.length co27] 30 (0, 0)) (by refine qd_ ?_; refine a0g (cs := #[.int .i64 t549, .int .i64 t550, .int .i64 t551, .slice Ao25 t552.length co25, .slice Ao26 t555.length co26, .slice none 0 0]) ?_ 5 _ rfl; refine qd_ ?_; refine a0g (cs := #[.int .i64 t549, .int .i64 t550, .int .i64 t551, .slice Ao25 t552.length co25, .slice none 0 0, .slice none 0 0]) ?_ 4 _ rfl; refine qd_ ?_; refine a0g (cs := #[.int .i64 t549, .int .i64 t550, .int .i64 t551, .slice none 0 0, .slice none 0 0, .slice none 0 0]) ?_ 3 _ rfl; refine qd_ ?_; refine a0g (cs := #[.int .i64 t549, .int .i64 t550, .int .i64 0, .slice none 0 0, .slice none 0 0, .slice none 0 0]) ?_ 2 _ rfl; refine qd_ ?_; refine a0g (cs := #[.int .i64 t549, .int .i64 0, .int .i64 0, .slice none 0 0, .slice none 0 0, .slice none 0 0]) ?_ 1 _ rfl; refine qd_ ?_; refine a0g (cs := #[.int .i64 0, .int .i64 0, .int .i64 0, .slice none 0 0, .slice none 0 0, .slice none 0 0]) ?_ 0 _ rfl; refine qd_ ?_; exact BK563.out) hb); replace HB := qbs_ hb; (try clear hb); (try clear hb2); (try clear hk); (try clear hi); (try clear ho0); obtain ⟨z'31_0, z'31_1, z'31_2, z'31_3, z'31_4⟩ := qz5_ BK545; obtain ⟨y'31_0, y'31_1, y'31_2, y'31_3, y'31_4⟩ := qf5_ BK545; obtain ⟨z'32_0, z'32_1, z'32_2, z'32_3, z'32_4, z'32_5⟩ := qz6_ BK563; obtain ⟨y'32_0, y'32_1, y'32_2, y'32_3, y'32_4, y'32_5⟩ := qf6_ BK563) | (go_at_call 13; (with_reducible refine (a0y.calls k a0_0 a0_1 a0_2 a0_3 a0_4 t549 t550 t551 _ _ t552 _ _ t555 _ _ t558 t568 t571 _ ?s1 ?s2 ?s3 ?s4 ?s5 ?s6 A10.out).mono ?_); (case s1 => repeat (first | exact (Kd.a1q HO554.out).2.2 | (with_reducible refine Kd.a1z ?_ _) | (with_reducible refine Kd.a2a ?_ _) | (with_reducible refine Kd.a2h ?_))); (case s2 => exact (Kd.a1q HO554.out).2.1); (case s3 => repeat (first | exact (Kd.a1q HO557.out).2.2 | (with_reducible refine Kd.a1z ?_ _) | (with_reducible refine Kd.a2a ?_ _) | (with_reducible refine Kd.a2h ?_))); (case s4 => exact (Kd.a1q HO557.out).2.1); (case s5 => repeat (first | exact (Kd.a1q HO560.out).2.2 | (with_reducible refine Kd.a1z ?_ _) | (with_reducible refine Kd.a2a ?_ _) | (with_reducible refine Kd.a2h ?_))); (case s6 => exact (Kd.a1q HO560.out).2.1); rintro e w33 ⟨v569, rfl, ho0, hb⟩; replace HO554 := am_ (Kd.a3u (by (with_reducible repeat (first | apply Kd.V_alloc | apply Kd.a0d | apply Kd.a0e)); exact HO554.out) (Kd.a4l ho0) hb); replace HO557 := am_ (Kd.a3u (by (with_reducible repeat (first | apply Kd.V_alloc | apply Kd.a0d | apply Kd.a0e)); exact HO557.out) (Kd.a4l ho0) hb); replace HO560 := am_ (Kd.a3u (by (with_reducible repeat (first | apply Kd.V_alloc | apply Kd.a0d | apply Kd.a0e)); exact HO560.out) (Kd.a4l ho0) hb); have HO570 := am_ (Kd.a2d (Kd.a1d ho0 (Kd.R_lt (qr_ HO566))) (a0p qb_)); replace HO566 := qel_ HO566 ho0 hb; replace BK545 := qkb_ BK545 hb; replace BK546 := qkb_ BK546 hb; replace BK563 := qkb_ BK563 hb; replace HB := qbs_ hb; (try clear hb); (try clear hb2); (try clear hk); (try clear hi); (try clear ho0))); go_upto_region 9 with (first | ((with_reducible refine a0h (N := 3) rfl ?_); (try (refine a1p (by rfl) ?_; dsimp only)); refine qev_ 3 #[.int .i64 a0_0, .int .i64 a0_1, .int .i64 a0_2, .int .i64 a0_3, .bool a0_4] 25 ?_; intro gb545 hg w12 hbox hb; have BK545 := am_ (hbox); have GW545 := qga_ hg; have GE545 := qga_ hg; replace HB := qbs_ hb; clear hb hbox hg) | ((with_reducible refine a0h (N := 4) rfl ?_); (try (refine a1p (by rfl) ?_; dsimp only)); refine qev_ 4 #[.int .i64 a1_0, .int .i64 a1_1, .int .i64 a1_2, .slice A1_3 l1_3.length c1_3, .slice A1_4 l1_4.length c1_4, .slice A1_5 l1_5.length c1_5] 30 ?_; intro gb546 hg w13 hbox hb; have BK546 := am_ (hbox); have GW546 := qga_ hg; have GE546 := qga_ hg; replace HB := qbs_ hb; have NB545_546 := am_ ((by rw [hg]; exact Nat.ne_of_lt (a0l (qk_ BK545)) : gb545 ≠ gb546)); have NB546_545 := am_ ((by rw [hg]; exact Nat.ne_of_gt (a0l (qk_ BK545)) : gb546 ≠ gb545)); replace BK545 := qkb_ BK545 hb; clear hb hbox hg) | (go_at_call 11; (with_reducible refine (a0m.calls k  t547 _ A4.out).mono ?_); rintro e w14 ⟨rfl, hb⟩; replace BK545 := qkb_ BK545 hb; replace BK546 := qkb_ BK546 hb; replace HB := qbs_ hb; (try clear hb); (try clear hb2); (try clear hk); (try clear hi); have hnb15 := NB545_546.out; have hnc15 := NB546_545.out; obtain ⟨z'16_0, z'16_1, z'16_2, z'16_3, z'16_4⟩ := qz5_ BK545; obtain ⟨y'16_0, y'16_1, y'16_2, y'16_3, y'16_4⟩ := qf5_ BK545; obtain ⟨z'17_0, z'17_1, z'17_2, z'17_3, z'17_4, z'17_5⟩ := qz6_ BK546; obtain ⟨y'17_0, y'17_1, y'17_2, y'17_3, y'17_4, y'17_5⟩ := qf6_ BK546) | (go_at_call 22; (with_reducible refine (a2v.calls k a0_0 a0_1 a0_2 a0_3 a0_4 a1_0 a1_1 a1_2 _ _ l1_3 _ _ l1_4 _ _ l1_5 true _ ?s1 ?s2 ?s3 ?s4 ?s5 ?s6 A5.out).mono ?_); (case s1 => exact qc_ HR1_3); (case s2 => exact HC1_3.out); (case s3 => exact qc_ HR1_4); (case s4 => exact HC1_4.out); (case s5 => exact qc_ HR1_5); (case s6 => exact HC1_5.out); rintro e w18 ⟨rfl, hb⟩; replace BK545 := qkb_ BK545 hb; replace BK546 := qkb_ BK546 hb; replace HB := qbs_ hb; (try clear hb); (try clear hb2); (try clear hk); (try clear hi); obtain ⟨z'19_0, z'19_1, z'19_2, z'19_3, z'19_4, z'19_5⟩ := qz6_ BK546; obtain ⟨y'19_0, y'19_1, y'19_2, y'19_3, y'19_4, y'19_5⟩ := qf6_ BK546) | (go_at_call 24; (with_reducible refine (a1j.calls k a1_0 a1_1 a1_2 (fun k_ => k_ < w.heap.size) _ _ l1_3 (fun k_ => k_ < w.heap.size) _ _ l1_4 (fun k_ => k_ < w.heap.size) _ _ l1_5 a2 t549 t550 t551 t552 t555 t558 t561 true _ ?s1 ?s2 ?s3 A7.out).mono ?_); (case s1 => exact Kd.V_mk HC1_3.out (Kd.a3t (Kd.C_F Kd.a5t HR1_3.out) qb_)); (case s2 => exact Kd.V_mk HC1_4.out (Kd.a3t (Kd.C_F a6n HR1_4.out) qb_)); (case s3 => exact Kd.V_mk HC1_5.out (Kd.a3t (Kd.C_F (Kd.a5r .i64) HR1_5.out) qb_)); rintro e w20 ⟨v553, v556, v559, rfl, ho0, ho1, ho2, hb⟩; have HO554 := am_ (Kd.a4h (Kd.a0i (ok' := fun k_ => k_ ≠ gb545 ∧ k_ ≠ gb546) ho0 (fun k_ hk_ => ⟨Or.elim hk_ (fun hs_ => Or.elim hs_ (fun hs_ => fun e_ => Nat.not_le.2 hs_ (by rw [e_]; exact GW545.out)) (fun hs_ => Or.elim hs_ (fun hs_ => fun e_ => Nat.not_le.2 hs_ (by rw [e_]; exact GW545.out)) (fun hs_ => fun e_ => Nat.not_le.2 hs_ (by rw [e_]; exact GW545.out)))) (fun hn_ => (Kd.a3a (g := gb545) (o := .cells #[.int .i64 a0_0, .int .i64 a0_1, .int .i64 a0_2, .int .i64 a0_3, .bool a0_4] 25 (0, 0)) (qk_ BK545) k_ hn_)), Or.elim hk_ (fun hs_ => Or.elim hs_ (fun hs_ => fun e_ => Nat.not_le.2 hs_ (by rw [e_]; exact GW546.out)) (fun hs_ => Or.elim hs_ (fun hs_ => fun e_ => Nat.not_le.2 hs_ (by rw [e_]; exact GW546.out)) (fun hs_ => fun e_ => Nat.not_le.2 hs_ (by rw [e_]; exact GW546.out)))) (fun hn_ => (Kd.a3a (g := gb546) (o := .cells #[.int .i64 a1_0, .int .i64 a1_1, .int .i64 a1_2, .slice A1_3 l1_3.length c1_3, .slice A1_4 l1_4.length c1_4, .slice A1_5 l1_5.length c1_5] 30 (0, 0)) (qk_ BK546) k_ hn_))⟩)) (a0p qb_)); have HO557 := am_ (Kd.a4h (Kd.a0i (ok' := fun k_ => k_ ≠ gb545 ∧ k_ ≠ gb546) ho1 (fun k_ hk_ => ⟨Or.elim hk_ (fun hs_ => Or.elim hs_ (fun hs_ => fun e_ => Nat.not_le.2 hs_ (by rw [e_]; exact GW545.out)) (fun hs_ => Or.elim hs_ (fun hs_ => fun e_ => Nat.not_le.2 hs_ (by rw [e_]; exact GW545.out)) (fun hs_ => fun e_ => Nat.not_le.2 hs_ (by rw [e_]; exact GW545.out)))) (fun hn_ => (Kd.a3a (g := gb545) (o := .cells #[.int .i64 a0_0, .int .i64 a0_1, .int .i64 a0_2, .int .i64 a0_3, .bool a0_4] 25 (0, 0)) (qk_ BK545) k_ hn_)), Or.elim hk_ (fun hs_ => Or.elim hs_ (fun hs_ => fun e_ => Nat.not_le.2 hs_ (by rw [e_]; exact GW546.out)) (fun hs_ => Or.elim hs_ (fun hs_ => fun e_ => Nat.not_le.2 hs_ (by rw [e_]; exact GW546.out)) (fun hs_ => fun e_ => Nat.not_le.2 hs_ (by rw [e_]; exact GW546.out)))) (fun hn_ => (Kd.a3a (g := gb546) (o := .cells #[.int .i64 a1_0, .int .i64 a1_1, .int .i64 a1_2, .slice A1_3 l1_3.length c1_3, .slice A1_4 l1_4.length c1_4, .slice A1_5 l1_5.length c1_5] 30 (0, 0)) (qk_ BK546) k_ hn_))⟩)) (a0p qb_)); have HO560 := am_ (Kd.a4h (Kd.a0i (ok' := fun k_ => k_ ≠ gb545 ∧ k_ ≠ gb546) ho2 (fun k_ hk_ => ⟨Or.elim hk_ (fun hs_ => Or.elim hs_ (fun hs_ => fun e_ => Nat.not_le.2 hs_ (by rw [e_]; exact GW545.out)) (fun hs_ => Or.elim hs_ (fun hs_ => fun e_ => Nat.not_le.2 hs_ (by rw [e_]; exact GW545.out)) (fun hs_ => fun e_ => Nat.not_le.2 hs_ (by rw [e_]; exact GW545.out)))) (fun hn_ => (Kd.a3a (g := gb545) (o := .cells #[.int .i64 a0_0, .int .i64 a0_1, .int .i64 a0_2, .int .i64 a0_3, .bool a0_4] 25 (0, 0)) (qk_ BK545) k_ hn_)), Or.elim hk_ (fun hs_ => Or.elim hs_ (fun hs_ => fun e_ => Nat.not_le.2 hs_ (by rw [e_]; exact GW546.out)) (fun hs_ => Or.elim hs_ (fun hs_ => fun e_ => Nat.not_le.2 hs_ (by rw [e_]; exact GW546.out)) (fun hs_ => fun e_ => Nat.not_le.2 hs_ (by rw [e_]; exact GW546.out)))) (fun hn_ => (Kd.a3a (g := gb546) (o := .cells #[.int .i64 a1_0, .int .i64 a1_1, .int .i64 a1_2, .slice A1_3 l1_3.length c1_3, .slice A1_4 l1_4.length c1_4, .slice A1_5 l1_5.length c1_5] 30 (0, 0)) (qk_ BK546) k_ hn_))⟩)) (a0p qb_)); replace BK545 := qkb_ BK545 hb; replace BK546 := qkb_ BK546 hb; replace HB := qbs_ hb; (try clear hb); (try clear hb2); (try clear hk); (try clear hi); (try clear ho0); (try clear ho1); (try clear ho2)) | ((with_reducible refine a0h (N := 8) rfl ?_); (try (refine a1p (by rfl) ?_; dsimp only)); refine qev_ 8 #[.int .i64 0, .int .i64 0, .int .i64 0, .slice none 0 0, .slice none 0 0, .slice none 0 0] 30 ?_; intro gb563 hg w21 hbox hb; replace HO554 := am_ (Kd.a1c (Kd.a1l (by (with_reducible repeat (first | apply Kd.V_alloc | apply Kd.a0d | apply Kd.a0e)); exact HO554.out) gb563 (Nat.le_of_eq hg.symm)) hb); replace HO557 := am_ (Kd.a1c (Kd.a1l (by (with_reducible repeat (first | apply Kd.V_alloc | apply Kd.a0d | apply Kd.a0e)); exact HO557.out) gb563 (Nat.le_of_eq hg.symm)) hb); replace HO560 := am_ (Kd.a1c (Kd.a1l (by (with_reducible repeat (first | apply Kd.V_alloc | apply Kd.a0d | apply Kd.a0e)); exact HO560.out) gb563 (Nat.le_of_eq hg.symm)) hb); have BK563 := am_ (hbox); have GW563 := qga_ hg; have GE563 := qga_ hg; replace HB := qbs_ hb; have NB545_563 := am_ ((by rw [hg]; exact Nat.ne_of_lt (a0l (qk_ BK545)) : gb545 ≠ gb563)); have NB563_545 := am_ ((by rw [hg]; exact Nat.ne_of_gt (a0l (qk_ BK545)) : gb563 ≠ gb545)); replace BK545 := qkb_ BK545 hb; have NB546_563 := am_ ((by rw [hg]; exact Nat.ne_of_lt (a0l (qk_ BK546)) : gb546 ≠ gb563)); have NB563_546 := am_ ((by rw [hg]; exact Nat.ne_of_gt (a0l (qk_ BK546)) : gb563 ≠ gb546)); replace BK546 := qkb_ BK546 hb; clear hb hbox hg; have hnb22 := NB563_545.out; have hnc22 := NB545_563.out; have hnb23 := NB563_546.out; have hnc23 := NB546_563.out; obtain ⟨z'24_0, z'24_1, z'24_2, z'24_3, z'24_4, z'24_5⟩ := qz6_ BK563; obtain ⟨y'24_0, y'24_1, y'24_2, y'24_3, y'24_4, y'24_5⟩ := qf6_ BK563; obtain ⟨Ao25, co25, eo25⟩ := Kd.a4g HO554.out; subst eo25; obtain ⟨Ao26, co26, eo26⟩ := Kd.a4g HO557.out; subst eo26; obtain ⟨Ao27, co27, eo27⟩ := Kd.a4g HO560.out; subst eo27; obtain ⟨z'28_0, z'28_1, z'28_2, z'28_3, z'28_4⟩ := qz5_ BK545; obtain ⟨y'28_0, y'28_1, y'28_2, y'28_3, y'28_4⟩ := qf5_ BK545; obtain ⟨z'29_0, z'29_1, z'29_2, z'29_3, z'29_4, z'29_5⟩ := qz6_ BK546; obtain ⟨y'29_0, y'29_1, y'29_2, y'29_3, y'29_4, y'29_5⟩ := qf6_ BK546) | (go_at_call 13; (with_reducible refine (a0y.calls k a0_0 a0_1 a0_2 a0_3 a0_4 a1_0 a1_1 a1_2 _ _ l1_3 _ _ l1_4 _ _ l1_5 t564 t567 _ ?s1 ?s2 ?s3 ?s4 ?s5 ?s6 A9.out).mono ?_); (case s1 => exact Kd.a1g HR1_3.out qb_); (case s2 => exact HC1_3.out); (case s3 => exact Kd.a1g HR1_4.out qb_); (case s4 => exact HC1_4.out); (case s5 => exact Kd.a1g HR1_5.out qb_); (case s6 => exact HC1_5.out); rintro e w30 ⟨v565, rfl, ho0, hb⟩; replace HO554 := am_ (Kd.a3u (by (with_reducible repeat (first | apply Kd.V_alloc | apply Kd.a0d | apply Kd.a0e)); exact (Kd.a0i (Kd.a0j (p := ⟨gb563, 5, none⟩) (Kd.a0j (p := ⟨gb563, 4, none⟩) (Kd.a0j (p := ⟨gb563, 3, none⟩) (Kd.a0j (p := ⟨gb563, 2, none⟩) (Kd.a0j (p := ⟨gb563, 1, none⟩) (Kd.a0j (p := ⟨gb563, 0, none⟩) (Kd.a0i HO554.out (fun k_ hk => (⟨hk, hk.2⟩ : _ ∧ k_ ≠ gb563))) (fun _ hk => hk.2) (.int .i64 t549)) (fun _ hk => hk.2) (.int .i64 t550)) (fun _ hk => hk.2) (.int .i64 t551)) (fun _ hk => hk.2) (.slice Ao25 t552.length co25)) (fun _ hk => hk.2) (.slice Ao26 t555.length co26)) (fun _ hk => hk.2) (.slice Ao27 t558.length co27)) (fun _ h_ => h_.1))) (Kd.a4l ho0) hb); replace HO557 := am_ (Kd.a3u (by (with_reducible repeat (first | apply Kd.V_alloc | apply Kd.a0d | apply Kd.a0e)); exact (Kd.a0i (Kd.a0j (p := ⟨gb563, 5, none⟩) (Kd.a0j (p := ⟨gb563, 4, none⟩) (Kd.a0j (p := ⟨gb563, 3, none⟩) (Kd.a0j (p := ⟨gb563, 2, none⟩) (Kd.a0j (p := ⟨gb563, 1, none⟩) (Kd.a0j (p := ⟨gb563, 0, none⟩) (Kd.a0i HO557.out (fun k_ hk => (⟨hk, hk.2⟩ : _ ∧ k_ ≠ gb563))) (fun _ hk => hk.2) (.int .i64 t549)) (fun _ hk => hk.2) (.int .i64 t550)) (fun _ hk => hk.2) (.int .i64 t551)) (fun _ hk => hk.2) (.slice Ao25 t552.length co25)) (fun _ hk => hk.2) (.slice Ao26 t555.length co26)) (fun _ hk => hk.2) (.slice Ao27 t558.length co27)) (fun _ h_ => h_.1))) (Kd.a4l ho0) hb); replace HO560 := am_ (Kd.a3u (by (with_reducible repeat (first | apply Kd.V_alloc | apply Kd.a0d | apply Kd.a0e)); exact (Kd.a0i (Kd.a0j (p := ⟨gb563, 5, none⟩) (Kd.a0j (p := ⟨gb563, 4, none⟩) (Kd.a0j (p := ⟨gb563, 3, none⟩) (Kd.a0j (p := ⟨gb563, 2, none⟩) (Kd.a0j (p := ⟨gb563, 1, none⟩) (Kd.a0j (p := ⟨gb563, 0, none⟩) (Kd.a0i HO560.out (fun k_ hk => (⟨hk, hk.2⟩ : _ ∧ k_ ≠ gb563))) (fun _ hk => hk.2) (.int .i64 t549)) (fun _ hk => hk.2) (.int .i64 t550)) (fun _ hk => hk.2) (.int .i64 t551)) (fun _ hk => hk.2) (.slice Ao25 t552.length co25)) (fun _ hk => hk.2) (.slice Ao26 t555.length co26)) (fun _ hk => hk.2) (.slice Ao27 t558.length co27)) (fun _ h_ => h_.1))) (Kd.a4l ho0) hb); have HO566 := am_ (Kd.a2d ho0 (a0p qb_)); replace BK545 := am_ (a1k (g := gb545) (o := .cells #[.int .i64 a0_0, .int .i64 a0_1, .int .i64 a0_2, .int .i64 a0_3, .bool a0_4] 25 (0, 0)) (by refine qd_ ?_; refine a0c ?_ NB545_563.out _; refine qd_ ?_; refine a0c ?_ NB545_563.out _; refine qd_ ?_; refine a0c ?_ NB545_563.out _; refine qd_ ?_; refine a0c ?_ NB545_563.out _; refine qd_ ?_; refine a0c ?_ NB545_563.out _; refine qd_ ?_; refine a0c ?_ NB545_563.out _; refine qd_ ?_; exact BK545.out) hb); replace BK546 := am_ (a1k (g := gb546) (o := .cells #[.int .i64 a1_0, .int .i64 a1_1, .int .i64 a1_2, .slice A1_3 l1_3.length c1_3, .slice A1_4 l1_4.length c1_4, .slice A1_5 l1_5.length c1_5] 30 (0, 0)) (by refine qd_ ?_; refine a0c ?_ NB546_563.out _; refine qd_ ?_; refine a0c ?_ NB546_563.out _; refine qd_ ?_; refine a0c ?_ NB546_563.out _; refine qd_ ?_; refine a0c ?_ NB546_563.out _; refine qd_ ?_; refine a0c ?_ NB546_563.out _; refine qd_ ?_; refine a0c ?_ NB546_563.out _; refine qd_ ?_; exact BK546.out) hb); replace BK563 := am_ (a1k (g := gb563) (o := .cells #[.int .i64 t549, .int .i64 t550, .int .i64 t551, .slice Ao25 t552.length co25, .slice Ao26 t555.length co26, .slice Ao27 t558.length co27] 30 (0, 0)) (by refine qd_ ?_; refine a0g (cs := #[.int .i64 t549, .int .i64 t550, .int .i64 t551, .slice Ao25 t552.length co25, .slice Ao26 t555.length co26, .slice none 0 0]) ?_ 5 _ rfl; refine qd_ ?_; refine a0g (cs := #[.int .i64 t549, .int .i64 t550, .int .i64 t551, .slice Ao25 t552.length co25, .slice none 0 0, .slice none 0 0]) ?_ 4 _ rfl; refine qd_ ?_; refine a0g (cs := #[.int .i64 t549, .int .i64 t550, .int .i64 t551, .slice none 0 0, .slice none 0 0, .slice none 0 0]) ?_ 3 _ rfl; refine qd_ ?_; refine a0g (cs := #[.int .i64 t549, .int .i64 t550, .int .i64 0, .slice none 0 0, .slice none 0 0, .slice none 0 0]) ?_ 2 _ rfl; refine qd_ ?_; refine a0g (cs := #[.int .i64 t549, .int .i64 0, .int .i64 0, .slice none 0 0, .slice none 0 0, .slice none 0 0]) ?_ 1 _ rfl; refine qd_ ?_; refine a0g (cs := #[.int .i64 0, .int .i64 0, .int .i64 0, .slice none 0 0, .slice none 0 0, .slice none 0 0]) ?_ 0 _ rfl; refine qd_ ?_; exact BK563.out) hb); replace HB := qbs_ hb; (try clear hb); (try clear hb2); (try clear hk); (try clear hi); (try clear ho0); obtain ⟨z'31_0, z'31_1, z'31_2, z'31_3, z'31_4⟩ := qz5_ BK545; obtain ⟨y'31_0, y'31_1, y'31_2, y'31_3, y'31_4⟩ := qf5_ BK545; obtain ⟨z'32_0, z'32_1, z'32_2, z'32_3, z'32_4, z'32_5⟩ := qz6_ BK563; obtain ⟨y'32_0, y'32_1, y'32_2, y'32_3, y'32_4, y'32_5⟩ := qf6_ BK563) | (go_at_call 13; (with_reducible refine (a0y.calls k a0_0 a0_1 a0_2 a0_3 a0_4 t549 t550 t551 _ _ t552 _ _ t555 _ _ t558 t568 t571 _ ?s1 ?s2 ?s3 ?s4 ?s5 ?s6 A10.out).mono ?_); (case s1 => repeat (first | exact (Kd.a1q HO554.out).2.2 | (with_reducible refine Kd.a1z ?_ _) | (with_reducible refine Kd.a2a ?_ _) | (with_reducible refine Kd.a2h ?_))); (case s2 => exact (Kd.a1q HO554.out).2.1); (case s3 => repeat (first | exact (Kd.a1q HO557.out).2.2 | (with_reducible refine Kd.a1z ?_ _) | (with_reducible refine Kd.a2a ?_ _) | (with_reducible refine Kd.a2h ?_))); (case s4 => exact (Kd.a1q HO557.out).2.1); (case s5 => repeat (first | exact (Kd.a1q HO560.out).2.2 | (with_reducible refine Kd.a1z ?_ _) | (with_reducible refine Kd.a2a ?_ _) | (with_reducible refine Kd.a2h ?_))); (case s6 => exact (Kd.a1q HO560.out).2.1); rintro e w33 ⟨v569, rfl, ho0, hb⟩; replace HO554 := am_ (Kd.a3u (by (with_reducible repeat (first | apply Kd.V_alloc | apply Kd.a0d | apply Kd.a0e)); exact HO554.out) (Kd.a4l ho0) hb); replace HO557 := am_ (Kd.a3u (by (with_reducible repeat (first | apply Kd.V_alloc | apply Kd.a0d | apply Kd.a0e)); exact HO557.out) (Kd.a4l ho0) hb); replace HO560 := am_ (Kd.a3u (by (with_reducible repeat (first | apply Kd.V_alloc | apply Kd.a0d | apply Kd.a0e)); exact HO560.out) (Kd.a4l ho0) hb); have HO570 := am_ (Kd.a2d (Kd.a1d ho0 (Kd.R_lt (qr_ HO566))) (a0p qb_)); replace HO566 := qel_ HO566 ho0 hb; replace BK545 := qkb_ BK545 hb; replace BK546 := qkb_ BK546 hb; replace BK563 := qkb_ BK563 hb; replace HB := qbs_ hb; (try clear hb); (try clear hb2); (try clear hk); (try clear hi); (try clear ho0))))
   (try simp only [Act.put, List.setIfInBounds_toArray, List.set_cons_zero, List.set_cons_succ])
   go_cut [71] (fun v71 wc => ∃ (kq : Nat) (x71_10 : Bool), v71 = .bool x71_10 ∧ Aside0 (a0b.j0 kq t547 t561 t564 t568 x71_10 a0_0 a0_1 a0_2 a0_3 a0_4 a1_0 a1_1 a1_2 l1_3 l1_4 l1_5 = some r) ∧ Aside0 (kq ≤ k) ∧ Aside0 (Kd.R (Kd.int .i64) 3 wc w.heap.size (fun k_ => some k_ ≠ (v569 : Value).ownBlock) v565 t564) ∧ Aside0 (Kd.R (Kd.int .i64) 3 wc w.heap.size (fun k_ => some k_ ≠ (v565 : Value).ownBlock) v569 t568) ∧ Aside0 (Kd.V Kd.string 9 wc w.heap.size (fun k_ => some k_ ≠ (v565 : Value).ownBlock ∧ some k_ ≠ (v569 : Value).ownBlock ∧ k_ ≠ gb545 ∧ k_ ≠ gb546 ∧ k_ ≠ gb563) (.slice Ao25 t552.length co25) t552) ∧ Aside0 (Kd.V k43 43 wc w.heap.size (fun k_ => some k_ ≠ (v565 : Value).ownBlock ∧ some k_ ≠ (v569 : Value).ownBlock ∧ k_ ≠ gb545 ∧ k_ ≠ gb546 ∧ k_ ≠ gb563) (.slice Ao26 t555.length co26) t555) ∧ Aside0 (Kd.V (Kd.int .i64) 3 wc w.heap.size (fun k_ => some k_ ≠ (v565 : Value).ownBlock ∧ some k_ ≠ (v569 : Value).ownBlock ∧ k_ ≠ gb545 ∧ k_ ≠ gb546 ∧ k_ ≠ gb563) (.slice Ao27 t558.length co27) t558) ∧ Aside0 (wc.heap[gb545]? = some (.cells #[.int .i64 a0_0, .int .i64 a0_1, .int .i64 a0_2, .int .i64 a0_3, .bool a0_4] 25 (0, 0))) ∧ Aside0 (wc.heap[gb546]? = some (.cells #[.int .i64 a1_0, .int .i64 a1_1, .int .i64 a1_2, (.slice A1_3 l1_3.length c1_3), (.slice A1_4 l1_4.length c1_4), (.slice A1_5 l1_5.length c1_5)] 30 (0, 0))) ∧ Aside0 (wc.heap[gb563]? = some (.cells #[.int .i64 t549, .int .i64 t550, .int .i64 t551, (.slice Ao25 t552.length co25), (.slice Ao26 t555.length co26), (.slice Ao27 t558.length co27)] 30 (0, 0))) ∧ Aside0 (Below w.heap.size w wc))
   case first =>
    have H := HC11.out
    clear HC11
    by_cases c34 : t567 = 0
    ·rw [if_pos c34] at H
     have c34b0 : (t567 == 0) = true := beq_iff_eq.mpr c34
     have c34b1 : (t567 != 0) = false := bne_eq_false_iff_eq.mpr c34
     clear c34
     (first | rw [c34b0] | (simp only [a3b, a3n]; rw [c34b0]) | skip)
     by_cases c35 : t571 = 0
     ·rw [if_pos c35] at H
      have c35b0 : (t571 == 0) = true := beq_iff_eq.mpr c35
      have c35b1 : (t571 != 0) = false := bne_eq_false_iff_eq.mpr c35
      clear c35
      by_cases c36 : (t564.length : Int) = (l1_4.length : Int)
      ·rw [if_pos c36] at H
       have c36b0 : ((t564.length : Int) == (l1_4.length : Int)) = true := beq_iff_eq.mpr c36
       have c36b1 : ((t564.length : Int) != (l1_4.length : Int)) = false := bne_eq_false_iff_eq.mpr c36
       have c36b2 : (t564.length == l1_4.length) = true := by first | simpa using c36 | (simp at c36 ⊢; omega)
       clear c36
       have H' := am_ H
       clear H
       obtain ⟨Ao37, co37, eo37⟩ := Kd.a1r HO566.out
       subst eo37
       have hnb38 := NB546_545.out
       have hnc38 := NB545_546.out
       have hnb39 := NB546_563.out
       have hnc39 := NB563_546.out
       obtain ⟨z'40_0, z'40_1, z'40_2, z'40_3, z'40_4, z'40_5⟩ := qz6_ BK546; obtain ⟨y'40_0, y'40_1, y'40_2, y'40_3, y'40_4, y'40_5⟩ := qf6_ BK546
       obtain ⟨Ao41, co41, eo41⟩ := Kd.a1r HO570.out
       subst eo41
       go_wp2
       repeat (go_quiet (fail); try go_wp2)
       go_meet
       case rel => exact ⟨_, (((t568.length : Int) != (l1_4.length : Int))), qs_, H', ⟨qo_⟩, ⟨by (with_reducible repeat (first | apply Kd.a0u | apply Kd.a0v | apply Kd.a0q)); exact Kd.a2b HO566.out (fun _ hk => hk.2)⟩, ⟨by (with_reducible repeat (first | apply Kd.a0u | apply Kd.a0v | apply Kd.a0q)); exact Kd.a2b HO570.out (fun _ hk => hk.2)⟩, ⟨by (with_reducible repeat (first | apply Kd.V_alloc | apply Kd.a0d | apply Kd.a0e)); exact Kd.a0i HO554.out (fun _ hk => ⟨hk.1.2, ⟨hk.2, ⟨hk.1.1.1.1, ⟨hk.1.1.1.2, hk.1.1.2⟩⟩⟩⟩)⟩, ⟨by (with_reducible repeat (first | apply Kd.V_alloc | apply Kd.a0d | apply Kd.a0e)); exact Kd.a0i HO557.out (fun _ hk => ⟨hk.1.2, ⟨hk.2, ⟨hk.1.1.1.1, ⟨hk.1.1.1.2, hk.1.1.2⟩⟩⟩⟩)⟩, ⟨by (with_reducible repeat (first | apply Kd.V_alloc | apply Kd.a0d | apply Kd.a0e)); exact Kd.a0i HO560.out (fun _ hk => ⟨hk.1.2, ⟨hk.2, ⟨hk.1.1.1.1, ⟨hk.1.1.1.2, hk.1.1.2⟩⟩⟩⟩)⟩, ⟨qk_ BK545⟩, ⟨qk_ BK546⟩, ⟨qk_ BK563⟩, ⟨qb_⟩⟩
      ·rw [if_neg c36] at H
       have c36b0 : ((t564.length : Int) == (l1_4.length : Int)) = false := beq_eq_false_iff_ne.mpr c36
       have c36b1 : ((t564.length : Int) != (l1_4.length : Int)) = true := bne_iff_ne.mpr c36
       have c36b2 : (t564.length == l1_4.length) = false := by first | simpa using c36 | (simp at c36 ⊢; omega)
       have H' := am_ H
       clear H
       obtain ⟨Ao42, co42, eo42⟩ := Kd.a1r HO566.out
       subst eo42
       have hnb43 := NB546_545.out
       have hnc43 := NB545_546.out
       have hnb44 := NB546_563.out
       have hnc44 := NB563_546.out
       obtain ⟨z'45_0, z'45_1, z'45_2, z'45_3, z'45_4, z'45_5⟩ := qz6_ BK546; obtain ⟨y'45_0, y'45_1, y'45_2, y'45_3, y'45_4, y'45_5⟩ := qf6_ BK546
       go_wp2
       repeat (go_quiet (fail); try go_wp2)
       go_meet
       case rel => exact ⟨_, (true), qs_, H', ⟨qo_⟩, ⟨by (with_reducible repeat (first | apply Kd.a0u | apply Kd.a0v | apply Kd.a0q)); exact Kd.a2b HO566.out (fun _ hk => hk.2)⟩, ⟨by (with_reducible repeat (first | apply Kd.a0u | apply Kd.a0v | apply Kd.a0q)); exact Kd.a2b HO570.out (fun _ hk => hk.2)⟩, ⟨by (with_reducible repeat (first | apply Kd.V_alloc | apply Kd.a0d | apply Kd.a0e)); exact Kd.a0i HO554.out (fun _ hk => ⟨hk.1.2, ⟨hk.2, ⟨hk.1.1.1.1, ⟨hk.1.1.1.2, hk.1.1.2⟩⟩⟩⟩)⟩, ⟨by (with_reducible repeat (first | apply Kd.V_alloc | apply Kd.a0d | apply Kd.a0e)); exact Kd.a0i HO557.out (fun _ hk => ⟨hk.1.2, ⟨hk.2, ⟨hk.1.1.1.1, ⟨hk.1.1.1.2, hk.1.1.2⟩⟩⟩⟩)⟩, ⟨by (with_reducible repeat (first | apply Kd.V_alloc | apply Kd.a0d | apply Kd.a0e)); exact Kd.a0i HO560.out (fun _ hk => ⟨hk.1.2, ⟨hk.2, ⟨hk.1.1.1.1, ⟨hk.1.1.1.2, hk.1.1.2⟩⟩⟩⟩)⟩, ⟨qk_ BK545⟩, ⟨qk_ BK546⟩, ⟨qk_ BK563⟩, ⟨qb_⟩⟩
     ·rw [if_neg c35] at H
      have c35b0 : (t571 == 0) = false := beq_eq_false_iff_ne.mpr c35
      have c35b1 : (t571 != 0) = true := bne_iff_ne.mpr c35
      have H' := am_ H
      clear H
      go_wp2
      repeat (go_quiet (fail); try go_wp2)
      go_meet
      case rel => exact ⟨_, (true), qs_, H', ⟨qo_⟩, ⟨by (with_reducible repeat (first | apply Kd.a0u | apply Kd.a0v | apply Kd.a0q)); exact Kd.a2b HO566.out (fun _ hk => hk.2)⟩, ⟨by (with_reducible repeat (first | apply Kd.a0u | apply Kd.a0v | apply Kd.a0q)); exact Kd.a2b HO570.out (fun _ hk => hk.2)⟩, ⟨by (with_reducible repeat (first | apply Kd.V_alloc | apply Kd.a0d | apply Kd.a0e)); exact Kd.a0i HO554.out (fun _ hk => ⟨hk.1.2, ⟨hk.2, ⟨hk.1.1.1.1, ⟨hk.1.1.1.2, hk.1.1.2⟩⟩⟩⟩)⟩, ⟨by (with_reducible repeat (first | apply Kd.V_alloc | apply Kd.a0d | apply Kd.a0e)); exact Kd.a0i HO557.out (fun _ hk => ⟨hk.1.2, ⟨hk.2, ⟨hk.1.1.1.1, ⟨hk.1.1.1.2, hk.1.1.2⟩⟩⟩⟩)⟩, ⟨by (with_reducible repeat (first | apply Kd.V_alloc | apply Kd.a0d | apply Kd.a0e)); exact Kd.a0i HO560.out (fun _ hk => ⟨hk.1.2, ⟨hk.2, ⟨hk.1.1.1.1, ⟨hk.1.1.1.2, hk.1.1.2⟩⟩⟩⟩)⟩, ⟨qk_ BK545⟩, ⟨qk_ BK546⟩, ⟨qk_ BK563⟩, ⟨qb_⟩⟩
    ·rw [if_neg c34] at H
     have c34b0 : (t567 == 0) = false := beq_eq_false_iff_ne.mpr c34
     have c34b1 : (t567 != 0) = true := bne_iff_ne.mpr c34
     (first | rw [c34b0] | (simp only [a3b, a3n]; rw [c34b0]) | skip)
     have H' := am_ H
     clear H
     go_wp2
     repeat (go_quiet (fail); try go_wp2)
     go_meet
     case rel => exact ⟨_, (true), qs_, H', ⟨qo_⟩, ⟨by (with_reducible repeat (first | apply Kd.a0u | apply Kd.a0v | apply Kd.a0q)); exact Kd.a2b HO566.out (fun _ hk => hk.2)⟩, ⟨by (with_reducible repeat (first | apply Kd.a0u | apply Kd.a0v | apply Kd.a0q)); exact Kd.a2b HO570.out (fun _ hk => hk.2)⟩, ⟨by (with_reducible repeat (first | apply Kd.V_alloc | apply Kd.a0d | apply Kd.a0e)); exact Kd.a0i HO554.out (fun _ hk => ⟨hk.1.2, ⟨hk.2, ⟨hk.1.1.1.1, ⟨hk.1.1.1.2, hk.1.1.2⟩⟩⟩⟩)⟩, ⟨by (with_reducible repeat (first | apply Kd.V_alloc | apply Kd.a0d | apply Kd.a0e)); exact Kd.a0i HO557.out (fun _ hk => ⟨hk.1.2, ⟨hk.2, ⟨hk.1.1.1.1, ⟨hk.1.1.1.2, hk.1.1.2⟩⟩⟩⟩)⟩, ⟨by (with_reducible repeat (first | apply Kd.V_alloc | apply Kd.a0d | apply Kd.a0e)); exact Kd.a0i HO560.out (fun _ hk => ⟨hk.1.2, ⟨hk.2, ⟨hk.1.1.1.1, ⟨hk.1.1.1.2, hk.1.1.2⟩⟩⟩⟩)⟩, ⟨qk_ BK545⟩, ⟨qk_ BK546⟩, ⟨qk_ BK563⟩, ⟨qb_⟩⟩
   case rest =>
    clear HC11
    try clear c1
    try clear c2
    try clear p2
    try clear c3
    try clear c4
    try clear c5
    try clear c6
    try clear c8
    try clear c15
    try clear c22
    try clear c23
    try clear c34
    try clear c34b0
    try clear c34b1
    try clear c35
    try clear c35b0
    try clear c35b1
    try clear c36
    try clear c36b0
    try clear c36b1
    try clear c36b2
    try clear c38
    try clear c39
    try clear c43
    try clear c44
    try clear z'16_0 z'16_1 z'16_2 z'16_3 z'16_4
    try clear z'17_0 z'17_1 z'17_2 z'17_3 z'17_4 z'17_5
    try clear z'19_0 z'19_1 z'19_2 z'19_3 z'19_4 z'19_5
    try clear z'24_0 z'24_1 z'24_2 z'24_3 z'24_4 z'24_5
    try clear z'28_0 z'28_1 z'28_2 z'28_3 z'28_4
    try clear z'29_0 z'29_1 z'29_2 z'29_3 z'29_4 z'29_5
    try clear z'31_0 z'31_1 z'31_2 z'31_3 z'31_4
    try clear z'32_0 z'32_1 z'32_2 z'32_3 z'32_4 z'32_5
    try clear z'40_0 z'40_1 z'40_2 z'40_3 z'40_4 z'40_5
    try clear z'45_0 z'45_1 z'45_2 z'45_3 z'45_4 z'45_5
    try clear y'16_0 y'16_1 y'16_2 y'16_3 y'16_4
    try clear y'17_0 y'17_1 y'17_2 y'17_3 y'17_4 y'17_5
    try clear y'19_0 y'19_1 y'19_2 y'19_3 y'19_4 y'19_5
    try clear y'24_0 y'24_1 y'24_2 y'24_3 y'24_4 y'24_5
    try clear y'28_0 y'28_1 y'28_2 y'28_3 y'28_4
    try clear y'29_0 y'29_1 y'29_2 y'29_3 y'29_4 y'29_5
    try clear y'31_0 y'31_1 y'31_2 y'31_3 y'31_4
    try clear y'32_0 y'32_1 y'32_2 y'32_3 y'32_4 y'32_5
    try clear y'40_0 y'40_1 y'40_2 y'40_3 y'40_4 y'40_5
    try clear y'45_0 y'45_1 y'45_2 y'45_3 y'45_4 y'45_5
    obtain ⟨kq, x71_10, rfl, HA, HJ10, HO_11, HO_13, HO_564003, HO_564004, HO_564005, BK545, BK546, BK563, HB⟩ := hcut
    cases kq with
    | zero => exact absurd HA.out (by simp [a0b.j0])
    | succ kj10 =>
     have H := HA.out
     clear HA
     simp only [a0b.j0] at H
     by_cases c46 : x71_10 = true
     ·subst c46
      have H1 : (some false) = some r := by rw [if_pos rfl] at H; exact H
      clear H
      have H := H1
      clear H1
      obtain rfl := si_ H
      go_wp2
      repeat (go_quiet (fail); try go_wp2)
      go_ret
      exact ⟨qx_, qb_⟩
     ·replace c46 := be_ c46
      subst c46
      have H1 : (if 0 ≤ t561 then (if t561 < (l1_4.length : Int) then (if a0_4 = true then (a0b.j1 kj10 t547 t561 t564 t568 1 a1_0 a1_1 a1_2 l1_3 l1_4 l1_5 ((a0a l1_4 t561).f0) ((a0a l1_4 t561).f1) ((a0a l1_4 t561).f2)) else (a0b.j1 kj10 t547 t561 t564 t568 ((a0a l1_4 t561).f1) a1_0 a1_1 a1_2 l1_3 l1_4 l1_5 ((a0a l1_4 t561).f0) ((a0a l1_4 t561).f1) ((a0a l1_4 t561).f2))) else (none)) else (none)) = some r := by rw [if_neg (show ¬ (false = true) by decide)] at H; exact H
      clear H
      have H := H1
      clear H1
      by_cases c47 : 0 ≤ t561
      ·rw [if_pos c47] at H
       have c47b0 : decide (0 ≤ t561) = true := decide_eq_true c47
       clear c47
       by_cases c48 : t561 < (l1_4.length : Int)
       ·rw [if_pos c48] at H
        have c48b0 : decide (t561 < (l1_4.length : Int)) = true := decide_eq_true c48
        clear c48
        have HC49 := am_ H
        clear H
        have hnb50 := NB546_545.out
        have hnc50 := NB545_546.out
        have hnb51 := NB546_563.out
        have hnc51 := NB563_546.out
        obtain ⟨z'52_0, z'52_1, z'52_2, z'52_3, z'52_4, z'52_5⟩ := qz6_ BK546; obtain ⟨y'52_0, y'52_1, y'52_2, y'52_3, y'52_4, y'52_5⟩ := qf6_ BK546
        have p572 : 0 ≤ (t561 : Int) := ot_
        have q572 : t561 < (l1_4.length : Int) := ot_
        obtain ⟨ad572, e572, hx572_0, hx572_1, hx572_2⟩ := a2r HR1_4.out t561 p572 q572
        cases e572
        replace hx572_0 := qh_ HB hx572_0
        replace hx572_1 := qh_ HB hx572_1
        replace hx572_2 := qh_ HB hx572_2
        replace p572 := eq_true p572
        replace q572 := eq_true q572
        go_upto_if 80 with (first | ((with_reducible refine a0h (N := 15) rfl ?_); (try (refine a1p (by rfl) ?_; dsimp only)); refine qev_ 15 #[.int .i64 0, .int .i64 0, .int .i64 0] 43 ?_; intro gb573 hg w53 hbox hb; replace HO_11 := qrb_ HO_11 hb; replace HO_13 := qrb_ HO_13 hb; replace HO_564003 := am_ (Kd.a1c (Kd.a1l (by (with_reducible repeat (first | apply Kd.V_alloc | apply Kd.a0d | apply Kd.a0e)); exact HO_564003.out) gb573 (Nat.le_of_eq hg.symm)) hb); replace HO_564004 := am_ (Kd.a1c (Kd.a1l (by (with_reducible repeat (first | apply Kd.V_alloc | apply Kd.a0d | apply Kd.a0e)); exact HO_564004.out) gb573 (Nat.le_of_eq hg.symm)) hb); replace HO_564005 := am_ (Kd.a1c (Kd.a1l (by (with_reducible repeat (first | apply Kd.V_alloc | apply Kd.a0d | apply Kd.a0e)); exact HO_564005.out) gb573 (Nat.le_of_eq hg.symm)) hb); have BK573 := am_ (hbox); have GW573 := qga_ hg; have GE573 := qga_ hg; replace HB := qbs_ hb; have NB545_573 := am_ ((by rw [hg]; exact Nat.ne_of_lt (a0l (qk_ BK545)) : gb545 ≠ gb573)); have NB573_545 := am_ ((by rw [hg]; exact Nat.ne_of_gt (a0l (qk_ BK545)) : gb573 ≠ gb545)); replace BK545 := qkb_ BK545 hb; have NB546_573 := am_ ((by rw [hg]; exact Nat.ne_of_lt (a0l (qk_ BK546)) : gb546 ≠ gb573)); have NB573_546 := am_ ((by rw [hg]; exact Nat.ne_of_gt (a0l (qk_ BK546)) : gb573 ≠ gb546)); replace BK546 := qkb_ BK546 hb; have NB563_573 := am_ ((by rw [hg]; exact Nat.ne_of_lt (a0l (qk_ BK563)) : gb563 ≠ gb573)); have NB573_563 := am_ ((by rw [hg]; exact Nat.ne_of_gt (a0l (qk_ BK563)) : gb573 ≠ gb563)); replace BK563 := qkb_ BK563 hb; clear hb hbox hg; have hnb54 := NB573_545.out; have hnc54 := NB545_573.out; have hnb55 := NB573_546.out; have hnc55 := NB546_573.out; have hnb56 := NB573_563.out; have hnc56 := NB563_573.out; obtain ⟨z'57_0, z'57_1, z'57_2⟩ := qz3_ BK573; obtain ⟨y'57_0, y'57_1, y'57_2⟩ := qf3_ BK573; have hnb58 := NB545_563.out; have hnc58 := NB563_545.out; obtain ⟨z'59_0, z'59_1, z'59_2, z'59_3, z'59_4⟩ := qz5_ BK545; obtain ⟨y'59_0, y'59_1, y'59_2, y'59_3, y'59_4⟩ := qf5_ BK545))
        repeat (go_quiet (first | ((with_reducible refine a0h (N := 15) rfl ?_); (try (refine a1p (by rfl) ?_; dsimp only)); refine qev_ 15 #[.int .i64 0, .int .i64 0, .int .i64 0] 43 ?_; intro gb573 hg w53 hbox hb; replace HO_11 := qrb_ HO_11 hb; replace HO_13 := qrb_ HO_13 hb; replace HO_564003 := am_ (Kd.a1c (Kd.a1l (by (with_reducible repeat (first | apply Kd.V_alloc | apply Kd.a0d | apply Kd.a0e)); exact HO_564003.out) gb573 (Nat.le_of_eq hg.symm)) hb); replace HO_564004 := am_ (Kd.a1c (Kd.a1l (by (with_reducible repeat (first | apply Kd.V_alloc | apply Kd.a0d | apply Kd.a0e)); exact HO_564004.out) gb573 (Nat.le_of_eq hg.symm)) hb); replace HO_564005 := am_ (Kd.a1c (Kd.a1l (by (with_reducible repeat (first | apply Kd.V_alloc | apply Kd.a0d | apply Kd.a0e)); exact HO_564005.out) gb573 (Nat.le_of_eq hg.symm)) hb); have BK573 := am_ (hbox); have GW573 := qga_ hg; have GE573 := qga_ hg; replace HB := qbs_ hb; have NB545_573 := am_ ((by rw [hg]; exact Nat.ne_of_lt (a0l (qk_ BK545)) : gb545 ≠ gb573)); have NB573_545 := am_ ((by rw [hg]; exact Nat.ne_of_gt (a0l (qk_ BK545)) : gb573 ≠ gb545)); replace BK545 := qkb_ BK545 hb; have NB546_573 := am_ ((by rw [hg]; exact Nat.ne_of_lt (a0l (qk_ BK546)) : gb546 ≠ gb573)); have NB573_546 := am_ ((by rw [hg]; exact Nat.ne_of_gt (a0l (qk_ BK546)) : gb573 ≠ gb546)); replace BK546 := qkb_ BK546 hb; have NB563_573 := am_ ((by rw [hg]; exact Nat.ne_of_lt (a0l (qk_ BK563)) : gb563 ≠ gb573)); have NB573_563 := am_ ((by rw [hg]; exact Nat.ne_of_gt (a0l (qk_ BK563)) : gb573 ≠ gb563)); replace BK563 := qkb_ BK563 hb; clear hb hbox hg; have hnb54 := NB573_545.out; have hnc54 := NB545_573.out; have hnb55 := NB573_546.out; have hnc55 := NB546_573.out; have hnb56 := NB573_563.out; have hnc56 := NB563_573.out; obtain ⟨z'57_0, z'57_1, z'57_2⟩ := qz3_ BK573; obtain ⟨y'57_0, y'57_1, y'57_2⟩ := qf3_ BK573; have hnb58 := NB545_563.out; have hnc58 := NB563_545.out; obtain ⟨z'59_0, z'59_1, z'59_2, z'59_3, z'59_4⟩ := qz5_ BK545; obtain ⟨y'59_0, y'59_1, y'59_2, y'59_3, y'59_4⟩ := qf5_ BK545)); go_upto_if 80 with (first | ((with_reducible refine a0h (N := 15) rfl ?_); (try (refine a1p (by rfl) ?_; dsimp only)); refine qev_ 15 #[.int .i64 0, .int .i64 0, .int .i64 0] 43 ?_; intro gb573 hg w53 hbox hb; replace HO_11 := qrb_ HO_11 hb; replace HO_13 := qrb_ HO_13 hb; replace HO_564003 := am_ (Kd.a1c (Kd.a1l (by (with_reducible repeat (first | apply Kd.V_alloc | apply Kd.a0d | apply Kd.a0e)); exact HO_564003.out) gb573 (Nat.le_of_eq hg.symm)) hb); replace HO_564004 := am_ (Kd.a1c (Kd.a1l (by (with_reducible repeat (first | apply Kd.V_alloc | apply Kd.a0d | apply Kd.a0e)); exact HO_564004.out) gb573 (Nat.le_of_eq hg.symm)) hb); replace HO_564005 := am_ (Kd.a1c (Kd.a1l (by (with_reducible repeat (first | apply Kd.V_alloc | apply Kd.a0d | apply Kd.a0e)); exact HO_564005.out) gb573 (Nat.le_of_eq hg.symm)) hb); have BK573 := am_ (hbox); have GW573 := qga_ hg; have GE573 := qga_ hg; replace HB := qbs_ hb; have NB545_573 := am_ ((by rw [hg]; exact Nat.ne_of_lt (a0l (qk_ BK545)) : gb545 ≠ gb573)); have NB573_545 := am_ ((by rw [hg]; exact Nat.ne_of_gt (a0l (qk_ BK545)) : gb573 ≠ gb545)); replace BK545 := qkb_ BK545 hb; have NB546_573 := am_ ((by rw [hg]; exact Nat.ne_of_lt (a0l (qk_ BK546)) : gb546 ≠ gb573)); have NB573_546 := am_ ((by rw [hg]; exact Nat.ne_of_gt (a0l (qk_ BK546)) : gb573 ≠ gb546)); replace BK546 := qkb_ BK546 hb; have NB563_573 := am_ ((by rw [hg]; exact Nat.ne_of_lt (a0l (qk_ BK563)) : gb563 ≠ gb573)); have NB573_563 := am_ ((by rw [hg]; exact Nat.ne_of_gt (a0l (qk_ BK563)) : gb573 ≠ gb563)); replace BK563 := qkb_ BK563 hb; clear hb hbox hg; have hnb54 := NB573_545.out; have hnc54 := NB545_573.out; have hnb55 := NB573_546.out; have hnc55 := NB546_573.out; have hnb56 := NB573_563.out; have hnc56 := NB563_573.out; obtain ⟨z'57_0, z'57_1, z'57_2⟩ := qz3_ BK573; obtain ⟨y'57_0, y'57_1, y'57_2⟩ := qf3_ BK573; have hnb58 := NB545_563.out; have hnc58 := NB563_545.out; obtain ⟨z'59_0, z'59_1, z'59_2, z'59_3, z'59_4⟩ := qz5_ BK545; obtain ⟨y'59_0, y'59_1, y'59_2, y'59_3, y'59_4⟩ := qf5_ BK545)))
        (try simp only [Act.put, List.setIfInBounds_toArray, List.set_cons_zero, List.set_cons_succ])
        go_cut [16] (fun v16 wc => ∃ (kq : Nat) (x16_48 : Int), v16 = .int .i64 x16_48 ∧ Aside0 (a0b.j1 kq t547 t561 t564 t568 x16_48 a1_0 a1_1 a1_2 l1_3 l1_4 l1_5 ((a0a l1_4 t561).f0) ((a0a l1_4 t561).f1) ((a0a l1_4 t561).f2) = some r) ∧ Aside0 (kq ≤ kj10) ∧ Aside0 (Kd.R (Kd.int .i64) 3 wc w.heap.size (fun k_ => some k_ ≠ (v569 : Value).ownBlock) v565 t564) ∧ Aside0 (Kd.R (Kd.int .i64) 3 wc w.heap.size (fun k_ => some k_ ≠ (v565 : Value).ownBlock) v569 t568) ∧ Aside0 (Kd.V Kd.string 9 wc w.heap.size (fun k_ => some k_ ≠ (v565 : Value).ownBlock ∧ some k_ ≠ (v569 : Value).ownBlock ∧ k_ ≠ gb545 ∧ k_ ≠ gb546 ∧ k_ ≠ gb563 ∧ k_ ≠ gb573) (.slice Ao25 t552.length co25) t552) ∧ Aside0 (Kd.V k43 43 wc w.heap.size (fun k_ => some k_ ≠ (v565 : Value).ownBlock ∧ some k_ ≠ (v569 : Value).ownBlock ∧ k_ ≠ gb545 ∧ k_ ≠ gb546 ∧ k_ ≠ gb563 ∧ k_ ≠ gb573) (.slice Ao26 t555.length co26) t555) ∧ Aside0 (Kd.V (Kd.int .i64) 3 wc w.heap.size (fun k_ => some k_ ≠ (v565 : Value).ownBlock ∧ some k_ ≠ (v569 : Value).ownBlock ∧ k_ ≠ gb545 ∧ k_ ≠ gb546 ∧ k_ ≠ gb563 ∧ k_ ≠ gb573) (.slice Ao27 t558.length co27) t558) ∧ Aside0 (wc.heap[gb545]? = some (.cells #[.int .i64 a0_0, .int .i64 a0_1, .int .i64 a0_2, .int .i64 a0_3, .bool a0_4] 25 (0, 0))) ∧ Aside0 (wc.heap[gb546]? = some (.cells #[.int .i64 a1_0, .int .i64 a1_1, .int .i64 a1_2, (.slice A1_3 l1_3.length c1_3), (.slice (some ad572) l1_4.length c1_4), (.slice A1_5 l1_5.length c1_5)] 30 (0, 0))) ∧ Aside0 (wc.heap[gb563]? = some (.cells #[.int .i64 t549, .int .i64 t550, .int .i64 t551, (.slice Ao25 t552.length co25), (.slice Ao26 t555.length co26), (.slice Ao27 t558.length co27)] 30 (0, 0))) ∧ Aside0 (wc.heap[gb573]? = some (.cells #[.int .i64 ((a0a l1_4 t561).f0), .int .i64 ((a0a l1_4 t561).f1), .int .i64 ((a0a l1_4 t561).f2)] 43 (0, 0))) ∧ Aside0 (Below w.heap.size w wc))
        case first =>
         have H := HC49.out
         clear HC49
         by_cases c60 : a0_4 = true
         ·subst c60
          have H1 : (a0b.j1 kj10 t547 t561 t564 t568 1 a1_0 a1_1 a1_2 l1_3 l1_4 l1_5 ((a0a l1_4 t561).f0) ((a0a l1_4 t561).f1) ((a0a l1_4 t561).f2)) = some r := by rw [if_pos rfl] at H; exact H
          clear H
          have H := H1
          clear H1
          have H' := am_ H
          clear H
          go_wp2
          repeat (go_quiet (fail); try go_wp2)
          go_meet
          case rel => exact ⟨_, (1), qs_, H', ⟨by have := HJ10.out; first | omega | exact Nat.le_refl _⟩, ⟨by (with_reducible repeat (first | apply Kd.a0u | apply Kd.a0v | apply Kd.a0q)); exact Kd.a2b (Kd.a1b (p := ⟨gb573, 2, none⟩) (Kd.a1b (p := ⟨gb573, 1, none⟩) (Kd.a1b (p := ⟨gb573, 0, none⟩) (Kd.a2u HO_11.out BK573.out (by decide)) (fun _ hk => hk.2) (.int .i64 ((a0a l1_4 t561).f0))) (fun _ hk => hk.2) (.int .i64 ((a0a l1_4 t561).f1))) (fun _ hk => hk.2) (.int .i64 ((a0a l1_4 t561).f2))) (fun _ hk => hk.1)⟩, ⟨by (with_reducible repeat (first | apply Kd.a0u | apply Kd.a0v | apply Kd.a0q)); exact Kd.a2b (Kd.a1b (p := ⟨gb573, 2, none⟩) (Kd.a1b (p := ⟨gb573, 1, none⟩) (Kd.a1b (p := ⟨gb573, 0, none⟩) (Kd.a2u HO_13.out BK573.out (by decide)) (fun _ hk => hk.2) (.int .i64 ((a0a l1_4 t561).f0))) (fun _ hk => hk.2) (.int .i64 ((a0a l1_4 t561).f1))) (fun _ hk => hk.2) (.int .i64 ((a0a l1_4 t561).f2))) (fun _ hk => hk.1)⟩, ⟨by (with_reducible repeat (first | apply Kd.V_alloc | apply Kd.a0d | apply Kd.a0e)); exact Kd.a0i (Kd.a0j (p := ⟨gb573, 2, none⟩) (Kd.a0j (p := ⟨gb573, 1, none⟩) (Kd.a0j (p := ⟨gb573, 0, none⟩) (Kd.a0i HO_564003.out (fun k_ hk => (⟨hk, hk.2⟩ : _ ∧ k_ ≠ gb573))) (fun _ hk => hk.2) (.int .i64 ((a0a l1_4 t561).f0))) (fun _ hk => hk.2) (.int .i64 ((a0a l1_4 t561).f1))) (fun _ hk => hk.2) (.int .i64 ((a0a l1_4 t561).f2))) (fun _ hk => ⟨hk.1.1.1, ⟨hk.1.1.2.1, ⟨hk.1.1.2.2.1, ⟨hk.1.1.2.2.2.1, ⟨hk.1.1.2.2.2.2, hk.1.2⟩⟩⟩⟩⟩)⟩, ⟨by (with_reducible repeat (first | apply Kd.V_alloc | apply Kd.a0d | apply Kd.a0e)); exact Kd.a0i (Kd.a0j (p := ⟨gb573, 2, none⟩) (Kd.a0j (p := ⟨gb573, 1, none⟩) (Kd.a0j (p := ⟨gb573, 0, none⟩) (Kd.a0i HO_564004.out (fun k_ hk => (⟨hk, hk.2⟩ : _ ∧ k_ ≠ gb573))) (fun _ hk => hk.2) (.int .i64 ((a0a l1_4 t561).f0))) (fun _ hk => hk.2) (.int .i64 ((a0a l1_4 t561).f1))) (fun _ hk => hk.2) (.int .i64 ((a0a l1_4 t561).f2))) (fun _ hk => ⟨hk.1.1.1, ⟨hk.1.1.2.1, ⟨hk.1.1.2.2.1, ⟨hk.1.1.2.2.2.1, ⟨hk.1.1.2.2.2.2, hk.1.2⟩⟩⟩⟩⟩)⟩, ⟨by (with_reducible repeat (first | apply Kd.V_alloc | apply Kd.a0d | apply Kd.a0e)); exact Kd.a0i (Kd.a0j (p := ⟨gb573, 2, none⟩) (Kd.a0j (p := ⟨gb573, 1, none⟩) (Kd.a0j (p := ⟨gb573, 0, none⟩) (Kd.a0i HO_564005.out (fun k_ hk => (⟨hk, hk.2⟩ : _ ∧ k_ ≠ gb573))) (fun _ hk => hk.2) (.int .i64 ((a0a l1_4 t561).f0))) (fun _ hk => hk.2) (.int .i64 ((a0a l1_4 t561).f1))) (fun _ hk => hk.2) (.int .i64 ((a0a l1_4 t561).f2))) (fun _ hk => ⟨hk.1.1.1, ⟨hk.1.1.2.1, ⟨hk.1.1.2.2.1, ⟨hk.1.1.2.2.2.1, ⟨hk.1.1.2.2.2.2, hk.1.2⟩⟩⟩⟩⟩)⟩, ⟨by refine qd_ ?_; refine a0c ?_ NB545_573.out _; refine qd_ ?_; refine a0c ?_ NB545_573.out _; refine qd_ ?_; refine a0c ?_ NB545_573.out _; refine qd_ ?_; exact BK545.out⟩, ⟨by refine qd_ ?_; refine a0c ?_ NB546_573.out _; refine qd_ ?_; refine a0c ?_ NB546_573.out _; refine qd_ ?_; refine a0c ?_ NB546_573.out _; refine qd_ ?_; exact BK546.out⟩, ⟨by refine qd_ ?_; refine a0c ?_ NB563_573.out _; refine qd_ ?_; refine a0c ?_ NB563_573.out _; refine qd_ ?_; refine a0c ?_ NB563_573.out _; refine qd_ ?_; exact BK563.out⟩, ⟨by refine qd_ ?_; refine a0g (cs := #[.int .i64 ((a0a l1_4 t561).f0), .int .i64 ((a0a l1_4 t561).f1), .int .i64 0]) ?_ 2 _ rfl; refine qd_ ?_; refine a0g (cs := #[.int .i64 ((a0a l1_4 t561).f0), .int .i64 0, .int .i64 0]) ?_ 1 _ rfl; refine qd_ ?_; refine a0g (cs := #[.int .i64 0, .int .i64 0, .int .i64 0]) ?_ 0 _ rfl; refine qd_ ?_; exact BK573.out⟩, ⟨qb_⟩⟩
         ·replace c60 := be_ c60
          subst c60
          have H1 : (a0b.j1 kj10 t547 t561 t564 t568 ((a0a l1_4 t561).f1) a1_0 a1_1 a1_2 l1_3 l1_4 l1_5 ((a0a l1_4 t561).f0) ((a0a l1_4 t561).f1) ((a0a l1_4 t561).f2)) = some r := by rw [if_neg (show ¬ (false = true) by decide)] at H; exact H
          clear H
          have H := H1
          clear H1
          have H' := am_ H
          clear H
          go_wp2
          repeat (go_quiet (fail); try go_wp2)
          go_meet
          case rel => exact ⟨_, ((a0a l1_4 t561).f1), qs_, H', ⟨by have := HJ10.out; first | omega | exact Nat.le_refl _⟩, ⟨by (with_reducible repeat (first | apply Kd.a0u | apply Kd.a0v | apply Kd.a0q)); exact Kd.a2b (Kd.a1b (p := ⟨gb573, 2, none⟩) (Kd.a1b (p := ⟨gb573, 1, none⟩) (Kd.a1b (p := ⟨gb573, 0, none⟩) (Kd.a2u HO_11.out BK573.out (by decide)) (fun _ hk => hk.2) (.int .i64 ((a0a l1_4 t561).f0))) (fun _ hk => hk.2) (.int .i64 ((a0a l1_4 t561).f1))) (fun _ hk => hk.2) (.int .i64 ((a0a l1_4 t561).f2))) (fun _ hk => hk.1)⟩, ⟨by (with_reducible repeat (first | apply Kd.a0u | apply Kd.a0v | apply Kd.a0q)); exact Kd.a2b (Kd.a1b (p := ⟨gb573, 2, none⟩) (Kd.a1b (p := ⟨gb573, 1, none⟩) (Kd.a1b (p := ⟨gb573, 0, none⟩) (Kd.a2u HO_13.out BK573.out (by decide)) (fun _ hk => hk.2) (.int .i64 ((a0a l1_4 t561).f0))) (fun _ hk => hk.2) (.int .i64 ((a0a l1_4 t561).f1))) (fun _ hk => hk.2) (.int .i64 ((a0a l1_4 t561).f2))) (fun _ hk => hk.1)⟩, ⟨by (with_reducible repeat (first | apply Kd.V_alloc | apply Kd.a0d | apply Kd.a0e)); exact Kd.a0i (Kd.a0j (p := ⟨gb573, 2, none⟩) (Kd.a0j (p := ⟨gb573, 1, none⟩) (Kd.a0j (p := ⟨gb573, 0, none⟩) (Kd.a0i HO_564003.out (fun k_ hk => (⟨hk, hk.2⟩ : _ ∧ k_ ≠ gb573))) (fun _ hk => hk.2) (.int .i64 ((a0a l1_4 t561).f0))) (fun _ hk => hk.2) (.int .i64 ((a0a l1_4 t561).f1))) (fun _ hk => hk.2) (.int .i64 ((a0a l1_4 t561).f2))) (fun _ hk => ⟨hk.1.1.1, ⟨hk.1.1.2.1, ⟨hk.1.1.2.2.1, ⟨hk.1.1.2.2.2.1, ⟨hk.1.1.2.2.2.2, hk.1.2⟩⟩⟩⟩⟩)⟩, ⟨by (with_reducible repeat (first | apply Kd.V_alloc | apply Kd.a0d | apply Kd.a0e)); exact Kd.a0i (Kd.a0j (p := ⟨gb573, 2, none⟩) (Kd.a0j (p := ⟨gb573, 1, none⟩) (Kd.a0j (p := ⟨gb573, 0, none⟩) (Kd.a0i HO_564004.out (fun k_ hk => (⟨hk, hk.2⟩ : _ ∧ k_ ≠ gb573))) (fun _ hk => hk.2) (.int .i64 ((a0a l1_4 t561).f0))) (fun _ hk => hk.2) (.int .i64 ((a0a l1_4 t561).f1))) (fun _ hk => hk.2) (.int .i64 ((a0a l1_4 t561).f2))) (fun _ hk => ⟨hk.1.1.1, ⟨hk.1.1.2.1, ⟨hk.1.1.2.2.1, ⟨hk.1.1.2.2.2.1, ⟨hk.1.1.2.2.2.2, hk.1.2⟩⟩⟩⟩⟩)⟩, ⟨by (with_reducible repeat (first | apply Kd.V_alloc | apply Kd.a0d | apply Kd.a0e)); exact Kd.a0i (Kd.a0j (p := ⟨gb573, 2, none⟩) (Kd.a0j (p := ⟨gb573, 1, none⟩) (Kd.a0j (p := ⟨gb573, 0, none⟩) (Kd.a0i HO_564005.out (fun k_ hk => (⟨hk, hk.2⟩ : _ ∧ k_ ≠ gb573))) (fun _ hk => hk.2) (.int .i64 ((a0a l1_4 t561).f0))) (fun _ hk => hk.2) (.int .i64 ((a0a l1_4 t561).f1))) (fun _ hk => hk.2) (.int .i64 ((a0a l1_4 t561).f2))) (fun _ hk => ⟨hk.1.1.1, ⟨hk.1.1.2.1, ⟨hk.1.1.2.2.1, ⟨hk.1.1.2.2.2.1, ⟨hk.1.1.2.2.2.2, hk.1.2⟩⟩⟩⟩⟩)⟩, ⟨by refine qd_ ?_; refine a0c ?_ NB545_573.out _; refine qd_ ?_; refine a0c ?_ NB545_573.out _; refine qd_ ?_; refine a0c ?_ NB545_573.out _; refine qd_ ?_; exact BK545.out⟩, ⟨by refine qd_ ?_; refine a0c ?_ NB546_573.out _; refine qd_ ?_; refine a0c ?_ NB546_573.out _; refine qd_ ?_; refine a0c ?_ NB546_573.out _; refine qd_ ?_; exact BK546.out⟩, ⟨by refine qd_ ?_; refine a0c ?_ NB563_573.out _; refine qd_ ?_; refine a0c ?_ NB563_573.out _; refine qd_ ?_; refine a0c ?_ NB563_573.out _; refine qd_ ?_; exact BK563.out⟩, ⟨by refine qd_ ?_; refine a0g (cs := #[.int .i64 ((a0a l1_4 t561).f0), .int .i64 ((a0a l1_4 t561).f1), .int .i64 0]) ?_ 2 _ rfl; refine qd_ ?_; refine a0g (cs := #[.int .i64 ((a0a l1_4 t561).f0), .int .i64 0, .int .i64 0]) ?_ 1 _ rfl; refine qd_ ?_; refine a0g (cs := #[.int .i64 0, .int .i64 0, .int .i64 0]) ?_ 0 _ rfl; refine qd_ ?_; exact BK573.out⟩, ⟨qb_⟩⟩
        case rest =>
         clear HC49
         try clear c1
         try clear c2
         try clear p2
         try clear c3
         try clear c4
         try clear c5
         try clear p5
         try clear q5
         try clear hx5
         try clear c6
         try clear c8
         try clear c15
         try clear c22
         try clear c23
         try clear c34
         try clear c34b0
         try clear c34b1
         try clear c35
         try clear c35b0
         try clear c35b1
         try clear c36
         try clear c36b0
         try clear c36b1
         try clear c36b2
         try clear c38
         try clear c39
         try clear c43
         try clear c44
         try clear c46
         try clear c47
         try clear c47b0
         try clear c48
         try clear c48b0
         try clear c50
         try clear c51
         try clear c54
         try clear c55
         try clear c56
         try clear p57
         try clear q57
         try clear hx57
         try clear c58
         try clear c60
         try clear z'16_0 z'16_1 z'16_2 z'16_3 z'16_4
         try clear z'17_0 z'17_1 z'17_2 z'17_3 z'17_4 z'17_5
         try clear z'19_0 z'19_1 z'19_2 z'19_3 z'19_4 z'19_5
         try clear z'24_0 z'24_1 z'24_2 z'24_3 z'24_4 z'24_5
         try clear z'28_0 z'28_1 z'28_2 z'28_3 z'28_4
         try clear z'29_0 z'29_1 z'29_2 z'29_3 z'29_4 z'29_5
         try clear z'31_0 z'31_1 z'31_2 z'31_3 z'31_4
         try clear z'32_0 z'32_1 z'32_2 z'32_3 z'32_4 z'32_5
         try clear z'40_0 z'40_1 z'40_2 z'40_3 z'40_4 z'40_5
         try clear z'45_0 z'45_1 z'45_2 z'45_3 z'45_4 z'45_5
         try clear z'52_0 z'52_1 z'52_2 z'52_3 z'52_4 z'52_5
         try clear z'57_0 z'57_1 z'57_2
         try clear z'59_0 z'59_1 z'59_2 z'59_3 z'59_4
         try clear y'16_0 y'16_1 y'16_2 y'16_3 y'16_4
         try clear y'17_0 y'17_1 y'17_2 y'17_3 y'17_4 y'17_5
         try clear y'19_0 y'19_1 y'19_2 y'19_3 y'19_4 y'19_5
         try clear y'24_0 y'24_1 y'24_2 y'24_3 y'24_4 y'24_5
         try clear y'28_0 y'28_1 y'28_2 y'28_3 y'28_4
         try clear y'29_0 y'29_1 y'29_2 y'29_3 y'29_4 y'29_5
         try clear y'31_0 y'31_1 y'31_2 y'31_3 y'31_4
         try clear y'32_0 y'32_1 y'32_2 y'32_3 y'32_4 y'32_5
         try clear y'40_0 y'40_1 y'40_2 y'40_3 y'40_4 y'40_5
         try clear y'45_0 y'45_1 y'45_2 y'45_3 y'45_4 y'45_5
         try clear y'52_0 y'52_1 y'52_2 y'52_3 y'52_4 y'52_5
         try clear y'57_0 y'57_1 y'57_2
         try clear y'59_0 y'59_1 y'59_2 y'59_3 y'59_4
         try clear hx572_0
         try clear hx572_1
         try clear hx572_2
         try clear p2
         try clear p572
         try clear q572
         obtain ⟨kq, x16_48, rfl, HA, HJ48, HO_11, HO_13, HO_564003, HO_564004, HO_564005, BK545, BK546, BK563, BK573, HB⟩ := hcut
         cases kq with
         | zero => exact absurd HA.out (by simp [a0b.j1])
         | succ kj48 =>
          have H := HA.out
          clear HA
          simp only [a0b.j1] at H
          have H' := am_ H
          clear H
          have hnb61 := NB546_545.out
          have hnc61 := NB545_546.out
          have hnb62 := NB546_563.out
          have hnc62 := NB563_546.out
          have hnb63 := NB546_573.out
          have hnc63 := NB573_546.out
          obtain ⟨z'64_0, z'64_1, z'64_2, z'64_3, z'64_4, z'64_5⟩ := qz6_ BK546; obtain ⟨y'64_0, y'64_1, y'64_2, y'64_3, y'64_4, y'64_5⟩ := qf6_ BK546
          go_wp2
          repeat (go_quiet (fail); try go_wp2)
          go_loopg [17, 18, 84] kj48 (fun kq v17 v18 v84 w' => ∃ (x17_3 : Int) (x18_3 : Int) (x84_3 : Int), v17 = .int .i64 x17_3 ∧ v18 = .int .i64 x18_3 ∧ v84 = .int .i64 x84_3 ∧ Aside0 (a0b.l0 kq t547 t561 t564 t568 x16_48 x17_3 x18_3 l1_4 (l1_4.length : Int) x84_3 a1_0 a1_1 a1_2 l1_3 l1_4 l1_5 ((a0a l1_4 t561).f0) ((a0a l1_4 t561).f1) ((a0a l1_4 t561).f2) = some r) ∧ Aside0 (kq ≤ kj48) ∧ Aside0 (Kd.R (Kd.int .i64) 3 w' w.heap.size (fun k_ => some k_ ≠ (v569 : Value).ownBlock) v565 t564) ∧ Aside0 (Kd.R (Kd.int .i64) 3 w' w.heap.size (fun k_ => some k_ ≠ (v565 : Value).ownBlock) v569 t568) ∧ Aside0 (Kd.V Kd.string 9 w' w.heap.size (fun k_ => some k_ ≠ (v565 : Value).ownBlock ∧ some k_ ≠ (v569 : Value).ownBlock ∧ k_ ≠ gb545 ∧ k_ ≠ gb546 ∧ k_ ≠ gb563 ∧ k_ ≠ gb573) (.slice Ao25 t552.length co25) t552) ∧ Aside0 (Kd.V k43 43 w' w.heap.size (fun k_ => some k_ ≠ (v565 : Value).ownBlock ∧ some k_ ≠ (v569 : Value).ownBlock ∧ k_ ≠ gb545 ∧ k_ ≠ gb546 ∧ k_ ≠ gb563 ∧ k_ ≠ gb573) (.slice Ao26 t555.length co26) t555) ∧ Aside0 (Kd.V (Kd.int .i64) 3 w' w.heap.size (fun k_ => some k_ ≠ (v565 : Value).ownBlock ∧ some k_ ≠ (v569 : Value).ownBlock ∧ k_ ≠ gb545 ∧ k_ ≠ gb546 ∧ k_ ≠ gb563 ∧ k_ ≠ gb573) (.slice Ao27 t558.length co27) t558) ∧ Aside0 (w'.heap[gb545]? = some (.cells #[.int .i64 a0_0, .int .i64 a0_1, .int .i64 a0_2, .int .i64 a0_3, .bool a0_4] 25 (0, 0))) ∧ Aside0 (w'.heap[gb546]? = some (.cells #[.int .i64 a1_0, .int .i64 a1_1, .int .i64 a1_2, (.slice A1_3 l1_3.length c1_3), (.slice (some ad572) l1_4.length c1_4), (.slice A1_5 l1_5.length c1_5)] 30 (0, 0))) ∧ Aside0 (w'.heap[gb563]? = some (.cells #[.int .i64 t549, .int .i64 t550, .int .i64 t551, (.slice Ao25 t552.length co25), (.slice Ao26 t555.length co26), (.slice Ao27 t558.length co27)] 30 (0, 0))) ∧ Aside0 (w'.heap[gb573]? = some (.cells #[.int .i64 ((a0a l1_4 t561).f0), .int .i64 ((a0a l1_4 t561).f1), .int .i64 ((a0a l1_4 t561).f2)] 43 (0, 0))) ∧ Aside0 (Below w.heap.size w w'))
          case atStart => exact ⟨(0), (0), (0), qs_, qs_, qs_, H', ⟨Nat.le_refl _⟩, ⟨by (with_reducible repeat (first | apply Kd.a0u | apply Kd.a0v | apply Kd.a0q)); exact HO_11.out⟩, ⟨by (with_reducible repeat (first | apply Kd.a0u | apply Kd.a0v | apply Kd.a0q)); exact HO_13.out⟩, ⟨by (with_reducible repeat (first | apply Kd.V_alloc | apply Kd.a0d | apply Kd.a0e)); exact HO_564003.out⟩, ⟨by (with_reducible repeat (first | apply Kd.V_alloc | apply Kd.a0d | apply Kd.a0e)); exact HO_564004.out⟩, ⟨by (with_reducible repeat (first | apply Kd.V_alloc | apply Kd.a0d | apply Kd.a0e)); exact HO_564005.out⟩, ⟨qk_ BK545⟩, ⟨qk_ BK546⟩, ⟨qk_ BK563⟩, ⟨qk_ BK573⟩, ⟨qb_⟩⟩
          case round =>
           clear H'
           try clear c1
           try clear c2
           try clear p2
           try clear c3
           try clear c4
           try clear c5
           try clear p5
           try clear q5
           try clear hx5
           try clear c6
           try clear c8
           try clear c15
           try clear c22
           try clear c23
           try clear c34
           try clear c34b0
           try clear c34b1
           try clear c35
           try clear c35b0
           try clear c35b1
           try clear c36
           try clear c36b0
           try clear c36b1
           try clear c36b2
           try clear c38
           try clear c39
           try clear c43
           try clear c44
           try clear c46
           try clear c47
           try clear c47b0
           try clear c48
           try clear c48b0
           try clear c50
           try clear c51
           try clear c54
           try clear c55
           try clear c56
           try clear p57
           try clear q57
           try clear hx57
           try clear c58
           try clear c60
           try clear c61
           try clear c62
           try clear c63
           try clear z'16_0 z'16_1 z'16_2 z'16_3 z'16_4
           try clear z'17_0 z'17_1 z'17_2 z'17_3 z'17_4 z'17_5
           try clear z'19_0 z'19_1 z'19_2 z'19_3 z'19_4 z'19_5
           try clear z'24_0 z'24_1 z'24_2 z'24_3 z'24_4 z'24_5
           try clear z'28_0 z'28_1 z'28_2 z'28_3 z'28_4
           try clear z'29_0 z'29_1 z'29_2 z'29_3 z'29_4 z'29_5
           try clear z'31_0 z'31_1 z'31_2 z'31_3 z'31_4
           try clear z'32_0 z'32_1 z'32_2 z'32_3 z'32_4 z'32_5
           try clear z'40_0 z'40_1 z'40_2 z'40_3 z'40_4 z'40_5
           try clear z'45_0 z'45_1 z'45_2 z'45_3 z'45_4 z'45_5
           try clear z'52_0 z'52_1 z'52_2 z'52_3 z'52_4 z'52_5
           try clear z'57_0 z'57_1 z'57_2
           try clear z'59_0 z'59_1 z'59_2 z'59_3 z'59_4
           try clear z'64_0 z'64_1 z'64_2 z'64_3 z'64_4 z'64_5
           try clear y'16_0 y'16_1 y'16_2 y'16_3 y'16_4
           try clear y'17_0 y'17_1 y'17_2 y'17_3 y'17_4 y'17_5
           try clear y'19_0 y'19_1 y'19_2 y'19_3 y'19_4 y'19_5
           try clear y'24_0 y'24_1 y'24_2 y'24_3 y'24_4 y'24_5
           try clear y'28_0 y'28_1 y'28_2 y'28_3 y'28_4
           try clear y'29_0 y'29_1 y'29_2 y'29_3 y'29_4 y'29_5
           try clear y'31_0 y'31_1 y'31_2 y'31_3 y'31_4
           try clear y'32_0 y'32_1 y'32_2 y'32_3 y'32_4 y'32_5
           try clear y'40_0 y'40_1 y'40_2 y'40_3 y'40_4 y'40_5
           try clear y'45_0 y'45_1 y'45_2 y'45_3 y'45_4 y'45_5
           try clear y'52_0 y'52_1 y'52_2 y'52_3 y'52_4 y'52_5
           try clear y'57_0 y'57_1 y'57_2
           try clear y'59_0 y'59_1 y'59_2 y'59_3 y'59_4
           try clear y'64_0 y'64_1 y'64_2 y'64_3 y'64_4 y'64_5
           try clear hx572_0
           try clear hx572_1
           try clear hx572_2
           try clear p2
           try clear p5
           try clear p57
           try clear p572
           try clear q5
           try clear q57
           try clear q572
           obtain ⟨x17_3, x18_3, x84_3, rfl, rfl, rfl, HA, HK3, HO_11, HO_13, HO_564003, HO_564004, HO_564005, BK545, BK546, BK563, BK573, HB⟩ := hrel
           cases gk with
           | zero => exact absurd HA.out (by simp [a0b.l0])
           | succ k3 =>
            have H := HA.out
            clear HA
            simp only [a0b.l0] at H
            by_cases c65 : x84_3 < (l1_4.length : Int)
            ·rw [if_pos c65] at H
             have c65b0 : decide (x84_3 < (l1_4.length : Int)) = true := decide_eq_true c65
             clear c65
             by_cases c66 : 0 ≤ x84_3
             ·rw [if_pos c66] at H
              have c66b0 : decide (0 ≤ x84_3) = true := decide_eq_true c66
              clear c66
              by_cases c67 : x84_3 < (l1_4.length : Int)
              ·rw [if_pos c67] at H
               have c67b0 : decide (x84_3 < (l1_4.length : Int)) = true := decide_eq_true c67
               clear c67
               by_cases c68 : x84_3 < (t564.length : Int)
               ·rw [if_pos c68] at H
                have c68b0 : decide (x84_3 < (t564.length : Int)) = true := decide_eq_true c68
                clear c68
                by_cases c69 : x84_3 < (t568.length : Int)
                ·rw [if_pos c69] at H
                 have c69b0 : decide (x84_3 < (t568.length : Int)) = true := decide_eq_true c69
                 clear c69
                 have HC70 := am_ H
                 clear H
                 have p574 : 0 ≤ (x84_3 : Int) := ot_
                 have q574 : x84_3 < (l1_4.length : Int) := ot_
                 obtain ⟨ad574, e574, hx574_0, hx574_1, hx574_2⟩ := a2r HR1_4.out x84_3 p574 q574
                 obtain rfl : ad572 = ad574 := (by injection e574)
                 replace hx574_0 := qh_ HB hx574_0
                 replace hx574_1 := qh_ HB hx574_1
                 replace hx574_2 := qh_ HB hx574_2
                 replace p574 := eq_true p574
                 replace q574 := eq_true q574
                 go_upto_region 22 with (first | ((with_reducible refine a0h (N := 20) rfl ?_); (try (refine a1p (by rfl) ?_; dsimp only)); refine qev_ 20 #[.int .i64 0, .int .i64 0, .int .i64 0] 43 ?_; intro gb575 hg w71 hbox hb; replace HO_11 := qrb_ HO_11 hb; replace HO_13 := qrb_ HO_13 hb; replace HO_564003 := am_ (Kd.a1c (Kd.a1l (by (with_reducible repeat (first | apply Kd.V_alloc | apply Kd.a0d | apply Kd.a0e)); exact HO_564003.out) gb575 (Nat.le_of_eq hg.symm)) hb); replace HO_564004 := am_ (Kd.a1c (Kd.a1l (by (with_reducible repeat (first | apply Kd.V_alloc | apply Kd.a0d | apply Kd.a0e)); exact HO_564004.out) gb575 (Nat.le_of_eq hg.symm)) hb); replace HO_564005 := am_ (Kd.a1c (Kd.a1l (by (with_reducible repeat (first | apply Kd.V_alloc | apply Kd.a0d | apply Kd.a0e)); exact HO_564005.out) gb575 (Nat.le_of_eq hg.symm)) hb); have BK575 := am_ (hbox); have GW575 := qga_ hg; have GE575 := qga_ hg; replace HB := qbs_ hb; have NB545_575 := am_ ((by rw [hg]; exact Nat.ne_of_lt (a0l (qk_ BK545)) : gb545 ≠ gb575)); have NB575_545 := am_ ((by rw [hg]; exact Nat.ne_of_gt (a0l (qk_ BK545)) : gb575 ≠ gb545)); replace BK545 := qkb_ BK545 hb; have NB546_575 := am_ ((by rw [hg]; exact Nat.ne_of_lt (a0l (qk_ BK546)) : gb546 ≠ gb575)); have NB575_546 := am_ ((by rw [hg]; exact Nat.ne_of_gt (a0l (qk_ BK546)) : gb575 ≠ gb546)); replace BK546 := qkb_ BK546 hb; have NB563_575 := am_ ((by rw [hg]; exact Nat.ne_of_lt (a0l (qk_ BK563)) : gb563 ≠ gb575)); have NB575_563 := am_ ((by rw [hg]; exact Nat.ne_of_gt (a0l (qk_ BK563)) : gb575 ≠ gb563)); replace BK563 := qkb_ BK563 hb; have NB573_575 := am_ ((by rw [hg]; exact Nat.ne_of_lt (a0l (qk_ BK573)) : gb573 ≠ gb575)); have NB575_573 := am_ ((by rw [hg]; exact Nat.ne_of_gt (a0l (qk_ BK573)) : gb575 ≠ gb573)); replace BK573 := qkb_ BK573 hb; clear hb hbox hg; have hnb72 := NB575_545.out; have hnc72 := NB545_575.out; have hnb73 := NB575_546.out; have hnc73 := NB546_575.out; have hnb74 := NB575_563.out; have hnc74 := NB563_575.out; have hnb75 := NB575_573.out; have hnc75 := NB573_575.out; obtain ⟨z'76_0, z'76_1, z'76_2⟩ := qz3_ BK575; obtain ⟨y'76_0, y'76_1, y'76_2⟩ := qf3_ BK575; obtain ⟨Ao77, co77, eo77⟩ := Kd.a1r HO_11.out; subst eo77; have p576 : 0 ≤ (x84_3 : Int) := ot_; have q576 : x84_3 < (t564.length : Int) := ot_; obtain ⟨ad576, e576, hx576_0⟩ := Kd.a2i (Kd.a0s HO_11.out).2.2 x84_3 p576 q576; cases e576; have hn576_0 : ad576.block ≠ gb575 := Kd.a4c (Kd.R_ne HO_11.out BK575.out (by decide)); have hn576_1 : ad576.block ≠ gb575 := Kd.a4c (Kd.R_ne HO_11.out BK575.out (by decide)); have hn576_2 : ad576.block ≠ gb575 := Kd.a4c (Kd.R_ne HO_11.out BK575.out (by decide)); replace hx576_0 := (cell_far (p := ⟨gb575, 0, none⟩) (qn_ hn576_0) (.int .i64 ((a0a l1_4 x84_3).f0))).trans hx576_0; replace hx576_0 := (cell_far (p := ⟨gb575, 1, none⟩) (qn_ hn576_1) (.int .i64 ((a0a l1_4 x84_3).f1))).trans hx576_0; replace hx576_0 := (cell_far (p := ⟨gb575, 2, none⟩) (qn_ hn576_2) (.int .i64 ((a0a l1_4 x84_3).f2))).trans hx576_0; (try have hy576_0 := fun (n_ : Nat) => (show (((((w71.drewN n_).setCell ⟨gb575, 0, none⟩ (.int .i64 ((a0a l1_4 x84_3).f0))).setCell ⟨gb575, 1, none⟩ (.int .i64 ((a0a l1_4 x84_3).f1))).setCell ⟨gb575, 2, none⟩ (.int .i64 ((a0a l1_4 x84_3).f2)))).cell? _ = some _ from hx576_0)); clear hn576_0 hn576_1 hn576_2; replace p576 := eq_true p576; replace q576 := eq_true q576; obtain ⟨Ao78, co78, eo78⟩ := Kd.a1r HO_13.out; subst eo78; have p577 : 0 ≤ (x84_3 : Int) := ot_; have q577 : x84_3 < (t568.length : Int) := ot_; obtain ⟨ad577, e577, hx577_0⟩ := Kd.a2i (Kd.a0s HO_13.out).2.2 x84_3 p577 q577; cases e577; have hn577_0 : ad577.block ≠ gb575 := Kd.a4c (Kd.R_ne HO_13.out BK575.out (by decide)); have hn577_1 : ad577.block ≠ gb575 := Kd.a4c (Kd.R_ne HO_13.out BK575.out (by decide)); have hn577_2 : ad577.block ≠ gb575 := Kd.a4c (Kd.R_ne HO_13.out BK575.out (by decide)); replace hx577_0 := (cell_far (p := ⟨gb575, 0, none⟩) (qn_ hn577_0) (.int .i64 ((a0a l1_4 x84_3).f0))).trans hx577_0; replace hx577_0 := (cell_far (p := ⟨gb575, 1, none⟩) (qn_ hn577_1) (.int .i64 ((a0a l1_4 x84_3).f1))).trans hx577_0; replace hx577_0 := (cell_far (p := ⟨gb575, 2, none⟩) (qn_ hn577_2) (.int .i64 ((a0a l1_4 x84_3).f2))).trans hx577_0; (try have hy577_0 := fun (n_ : Nat) => (show (((((w71.drewN n_).setCell ⟨gb575, 0, none⟩ (.int .i64 ((a0a l1_4 x84_3).f0))).setCell ⟨gb575, 1, none⟩ (.int .i64 ((a0a l1_4 x84_3).f1))).setCell ⟨gb575, 2, none⟩ (.int .i64 ((a0a l1_4 x84_3).f2)))).cell? _ = some _ from hx577_0)); clear hn577_0 hn577_1 hn577_2; replace p577 := eq_true p577; replace q577 := eq_true q577))
                 repeat (go_quiet (first | ((with_reducible refine a0h (N := 20) rfl ?_); (try (refine a1p (by rfl) ?_; dsimp only)); refine qev_ 20 #[.int .i64 0, .int .i64 0, .int .i64 0] 43 ?_; intro gb575 hg w71 hbox hb; replace HO_11 := qrb_ HO_11 hb; replace HO_13 := qrb_ HO_13 hb; replace HO_564003 := am_ (Kd.a1c (Kd.a1l (by (with_reducible repeat (first | apply Kd.V_alloc | apply Kd.a0d | apply Kd.a0e)); exact HO_564003.out) gb575 (Nat.le_of_eq hg.symm)) hb); replace HO_564004 := am_ (Kd.a1c (Kd.a1l (by (with_reducible repeat (first | apply Kd.V_alloc | apply Kd.a0d | apply Kd.a0e)); exact HO_564004.out) gb575 (Nat.le_of_eq hg.symm)) hb); replace HO_564005 := am_ (Kd.a1c (Kd.a1l (by (with_reducible repeat (first | apply Kd.V_alloc | apply Kd.a0d | apply Kd.a0e)); exact HO_564005.out) gb575 (Nat.le_of_eq hg.symm)) hb); have BK575 := am_ (hbox); have GW575 := qga_ hg; have GE575 := qga_ hg; replace HB := qbs_ hb; have NB545_575 := am_ ((by rw [hg]; exact Nat.ne_of_lt (a0l (qk_ BK545)) : gb545 ≠ gb575)); have NB575_545 := am_ ((by rw [hg]; exact Nat.ne_of_gt (a0l (qk_ BK545)) : gb575 ≠ gb545)); replace BK545 := qkb_ BK545 hb; have NB546_575 := am_ ((by rw [hg]; exact Nat.ne_of_lt (a0l (qk_ BK546)) : gb546 ≠ gb575)); have NB575_546 := am_ ((by rw [hg]; exact Nat.ne_of_gt (a0l (qk_ BK546)) : gb575 ≠ gb546)); replace BK546 := qkb_ BK546 hb; have NB563_575 := am_ ((by rw [hg]; exact Nat.ne_of_lt (a0l (qk_ BK563)) : gb563 ≠ gb575)); have NB575_563 := am_ ((by rw [hg]; exact Nat.ne_of_gt (a0l (qk_ BK563)) : gb575 ≠ gb563)); replace BK563 := qkb_ BK563 hb; have NB573_575 := am_ ((by rw [hg]; exact Nat.ne_of_lt (a0l (qk_ BK573)) : gb573 ≠ gb575)); have NB575_573 := am_ ((by rw [hg]; exact Nat.ne_of_gt (a0l (qk_ BK573)) : gb575 ≠ gb573)); replace BK573 := qkb_ BK573 hb; clear hb hbox hg; have hnb72 := NB575_545.out; have hnc72 := NB545_575.out; have hnb73 := NB575_546.out; have hnc73 := NB546_575.out; have hnb74 := NB575_563.out; have hnc74 := NB563_575.out; have hnb75 := NB575_573.out; have hnc75 := NB573_575.out; obtain ⟨z'76_0, z'76_1, z'76_2⟩ := qz3_ BK575; obtain ⟨y'76_0, y'76_1, y'76_2⟩ := qf3_ BK575; obtain ⟨Ao77, co77, eo77⟩ := Kd.a1r HO_11.out; subst eo77; have p576 : 0 ≤ (x84_3 : Int) := ot_; have q576 : x84_3 < (t564.length : Int) := ot_; obtain ⟨ad576, e576, hx576_0⟩ := Kd.a2i (Kd.a0s HO_11.out).2.2 x84_3 p576 q576; cases e576; have hn576_0 : ad576.block ≠ gb575 := Kd.a4c (Kd.R_ne HO_11.out BK575.out (by decide)); have hn576_1 : ad576.block ≠ gb575 := Kd.a4c (Kd.R_ne HO_11.out BK575.out (by decide)); have hn576_2 : ad576.block ≠ gb575 := Kd.a4c (Kd.R_ne HO_11.out BK575.out (by decide)); replace hx576_0 := (cell_far (p := ⟨gb575, 0, none⟩) (qn_ hn576_0) (.int .i64 ((a0a l1_4 x84_3).f0))).trans hx576_0; replace hx576_0 := (cell_far (p := ⟨gb575, 1, none⟩) (qn_ hn576_1) (.int .i64 ((a0a l1_4 x84_3).f1))).trans hx576_0; replace hx576_0 := (cell_far (p := ⟨gb575, 2, none⟩) (qn_ hn576_2) (.int .i64 ((a0a l1_4 x84_3).f2))).trans hx576_0; (try have hy576_0 := fun (n_ : Nat) => (show (((((w71.drewN n_).setCell ⟨gb575, 0, none⟩ (.int .i64 ((a0a l1_4 x84_3).f0))).setCell ⟨gb575, 1, none⟩ (.int .i64 ((a0a l1_4 x84_3).f1))).setCell ⟨gb575, 2, none⟩ (.int .i64 ((a0a l1_4 x84_3).f2)))).cell? _ = some _ from hx576_0)); clear hn576_0 hn576_1 hn576_2; replace p576 := eq_true p576; replace q576 := eq_true q576; obtain ⟨Ao78, co78, eo78⟩ := Kd.a1r HO_13.out; subst eo78; have p577 : 0 ≤ (x84_3 : Int) := ot_; have q577 : x84_3 < (t568.length : Int) := ot_; obtain ⟨ad577, e577, hx577_0⟩ := Kd.a2i (Kd.a0s HO_13.out).2.2 x84_3 p577 q577; cases e577; have hn577_0 : ad577.block ≠ gb575 := Kd.a4c (Kd.R_ne HO_13.out BK575.out (by decide)); have hn577_1 : ad577.block ≠ gb575 := Kd.a4c (Kd.R_ne HO_13.out BK575.out (by decide)); have hn577_2 : ad577.block ≠ gb575 := Kd.a4c (Kd.R_ne HO_13.out BK575.out (by decide)); replace hx577_0 := (cell_far (p := ⟨gb575, 0, none⟩) (qn_ hn577_0) (.int .i64 ((a0a l1_4 x84_3).f0))).trans hx577_0; replace hx577_0 := (cell_far (p := ⟨gb575, 1, none⟩) (qn_ hn577_1) (.int .i64 ((a0a l1_4 x84_3).f1))).trans hx577_0; replace hx577_0 := (cell_far (p := ⟨gb575, 2, none⟩) (qn_ hn577_2) (.int .i64 ((a0a l1_4 x84_3).f2))).trans hx577_0; (try have hy577_0 := fun (n_ : Nat) => (show (((((w71.drewN n_).setCell ⟨gb575, 0, none⟩ (.int .i64 ((a0a l1_4 x84_3).f0))).setCell ⟨gb575, 1, none⟩ (.int .i64 ((a0a l1_4 x84_3).f1))).setCell ⟨gb575, 2, none⟩ (.int .i64 ((a0a l1_4 x84_3).f2)))).cell? _ = some _ from hx577_0)); clear hn577_0 hn577_1 hn577_2; replace p577 := eq_true p577; replace q577 := eq_true q577)); go_upto_region 22 with (first | ((with_reducible refine a0h (N := 20) rfl ?_); (try (refine a1p (by rfl) ?_; dsimp only)); refine qev_ 20 #[.int .i64 0, .int .i64 0, .int .i64 0] 43 ?_; intro gb575 hg w71 hbox hb; replace HO_11 := qrb_ HO_11 hb; replace HO_13 := qrb_ HO_13 hb; replace HO_564003 := am_ (Kd.a1c (Kd.a1l (by (with_reducible repeat (first | apply Kd.V_alloc | apply Kd.a0d | apply Kd.a0e)); exact HO_564003.out) gb575 (Nat.le_of_eq hg.symm)) hb); replace HO_564004 := am_ (Kd.a1c (Kd.a1l (by (with_reducible repeat (first | apply Kd.V_alloc | apply Kd.a0d | apply Kd.a0e)); exact HO_564004.out) gb575 (Nat.le_of_eq hg.symm)) hb); replace HO_564005 := am_ (Kd.a1c (Kd.a1l (by (with_reducible repeat (first | apply Kd.V_alloc | apply Kd.a0d | apply Kd.a0e)); exact HO_564005.out) gb575 (Nat.le_of_eq hg.symm)) hb); have BK575 := am_ (hbox); have GW575 := qga_ hg; have GE575 := qga_ hg; replace HB := qbs_ hb; have NB545_575 := am_ ((by rw [hg]; exact Nat.ne_of_lt (a0l (qk_ BK545)) : gb545 ≠ gb575)); have NB575_545 := am_ ((by rw [hg]; exact Nat.ne_of_gt (a0l (qk_ BK545)) : gb575 ≠ gb545)); replace BK545 := qkb_ BK545 hb; have NB546_575 := am_ ((by rw [hg]; exact Nat.ne_of_lt (a0l (qk_ BK546)) : gb546 ≠ gb575)); have NB575_546 := am_ ((by rw [hg]; exact Nat.ne_of_gt (a0l (qk_ BK546)) : gb575 ≠ gb546)); replace BK546 := qkb_ BK546 hb; have NB563_575 := am_ ((by rw [hg]; exact Nat.ne_of_lt (a0l (qk_ BK563)) : gb563 ≠ gb575)); have NB575_563 := am_ ((by rw [hg]; exact Nat.ne_of_gt (a0l (qk_ BK563)) : gb575 ≠ gb563)); replace BK563 := qkb_ BK563 hb; have NB573_575 := am_ ((by rw [hg]; exact Nat.ne_of_lt (a0l (qk_ BK573)) : gb573 ≠ gb575)); have NB575_573 := am_ ((by rw [hg]; exact Nat.ne_of_gt (a0l (qk_ BK573)) : gb575 ≠ gb573)); replace BK573 := qkb_ BK573 hb; clear hb hbox hg; have hnb72 := NB575_545.out; have hnc72 := NB545_575.out; have hnb73 := NB575_546.out; have hnc73 := NB546_575.out; have hnb74 := NB575_563.out; have hnc74 := NB563_575.out; have hnb75 := NB575_573.out; have hnc75 := NB573_575.out; obtain ⟨z'76_0, z'76_1, z'76_2⟩ := qz3_ BK575; obtain ⟨y'76_0, y'76_1, y'76_2⟩ := qf3_ BK575; obtain ⟨Ao77, co77, eo77⟩ := Kd.a1r HO_11.out; subst eo77; have p576 : 0 ≤ (x84_3 : Int) := ot_; have q576 : x84_3 < (t564.length : Int) := ot_; obtain ⟨ad576, e576, hx576_0⟩ := Kd.a2i (Kd.a0s HO_11.out).2.2 x84_3 p576 q576; cases e576; have hn576_0 : ad576.block ≠ gb575 := Kd.a4c (Kd.R_ne HO_11.out BK575.out (by decide)); have hn576_1 : ad576.block ≠ gb575 := Kd.a4c (Kd.R_ne HO_11.out BK575.out (by decide)); have hn576_2 : ad576.block ≠ gb575 := Kd.a4c (Kd.R_ne HO_11.out BK575.out (by decide)); replace hx576_0 := (cell_far (p := ⟨gb575, 0, none⟩) (qn_ hn576_0) (.int .i64 ((a0a l1_4 x84_3).f0))).trans hx576_0; replace hx576_0 := (cell_far (p := ⟨gb575, 1, none⟩) (qn_ hn576_1) (.int .i64 ((a0a l1_4 x84_3).f1))).trans hx576_0; replace hx576_0 := (cell_far (p := ⟨gb575, 2, none⟩) (qn_ hn576_2) (.int .i64 ((a0a l1_4 x84_3).f2))).trans hx576_0; (try have hy576_0 := fun (n_ : Nat) => (show (((((w71.drewN n_).setCell ⟨gb575, 0, none⟩ (.int .i64 ((a0a l1_4 x84_3).f0))).setCell ⟨gb575, 1, none⟩ (.int .i64 ((a0a l1_4 x84_3).f1))).setCell ⟨gb575, 2, none⟩ (.int .i64 ((a0a l1_4 x84_3).f2)))).cell? _ = some _ from hx576_0)); clear hn576_0 hn576_1 hn576_2; replace p576 := eq_true p576; replace q576 := eq_true q576; obtain ⟨Ao78, co78, eo78⟩ := Kd.a1r HO_13.out; subst eo78; have p577 : 0 ≤ (x84_3 : Int) := ot_; have q577 : x84_3 < (t568.length : Int) := ot_; obtain ⟨ad577, e577, hx577_0⟩ := Kd.a2i (Kd.a0s HO_13.out).2.2 x84_3 p577 q577; cases e577; have hn577_0 : ad577.block ≠ gb575 := Kd.a4c (Kd.R_ne HO_13.out BK575.out (by decide)); have hn577_1 : ad577.block ≠ gb575 := Kd.a4c (Kd.R_ne HO_13.out BK575.out (by decide)); have hn577_2 : ad577.block ≠ gb575 := Kd.a4c (Kd.R_ne HO_13.out BK575.out (by decide)); replace hx577_0 := (cell_far (p := ⟨gb575, 0, none⟩) (qn_ hn577_0) (.int .i64 ((a0a l1_4 x84_3).f0))).trans hx577_0; replace hx577_0 := (cell_far (p := ⟨gb575, 1, none⟩) (qn_ hn577_1) (.int .i64 ((a0a l1_4 x84_3).f1))).trans hx577_0; replace hx577_0 := (cell_far (p := ⟨gb575, 2, none⟩) (qn_ hn577_2) (.int .i64 ((a0a l1_4 x84_3).f2))).trans hx577_0; (try have hy577_0 := fun (n_ : Nat) => (show (((((w71.drewN n_).setCell ⟨gb575, 0, none⟩ (.int .i64 ((a0a l1_4 x84_3).f0))).setCell ⟨gb575, 1, none⟩ (.int .i64 ((a0a l1_4 x84_3).f1))).setCell ⟨gb575, 2, none⟩ (.int .i64 ((a0a l1_4 x84_3).f2)))).cell? _ = some _ from hx577_0)); clear hn577_0 hn577_1 hn577_2; replace p577 := eq_true p577; replace q577 := eq_true q577)))
                 (try simp only [Act.put, List.setIfInBounds_toArray, List.set_cons_zero, List.set_cons_succ])
                 go_cut [111] (fun v111 wc => ∃ (kq : Nat) (x111_69 : Bool), v111 = .bool x111_69 ∧ Aside0 (a0b.j3 kq t547 t561 t564 t568 x16_48 (wrap64 (x17_3 + (rd t564 x84_3))) (wrap64 (x18_3 + (rd t568 x84_3))) x84_3 0 l1_4 (l1_4.length : Int) x84_3 x111_69 a1_0 a1_1 a1_2 l1_3 l1_4 l1_5 ((a0a l1_4 t561).f0) ((a0a l1_4 t561).f1) ((a0a l1_4 t561).f2) = some r) ∧ Aside0 (kq ≤ k3) ∧ Aside0 (Kd.R (Kd.int .i64) 3 wc w.heap.size (fun k_ => some k_ ≠ ((.slice (some ad577) t568.length co78) : Value).ownBlock) (.slice (some ad576) t564.length co77) t564) ∧ Aside0 (Kd.R (Kd.int .i64) 3 wc w.heap.size (fun k_ => some k_ ≠ ((.slice (some ad576) t564.length co77) : Value).ownBlock) (.slice (some ad577) t568.length co78) t568) ∧ Aside0 (Kd.V Kd.string 9 wc w.heap.size (fun k_ => some k_ ≠ ((.slice (some ad576) t564.length co77) : Value).ownBlock ∧ some k_ ≠ ((.slice (some ad577) t568.length co78) : Value).ownBlock ∧ k_ ≠ gb545 ∧ k_ ≠ gb546 ∧ k_ ≠ gb563 ∧ k_ ≠ gb573 ∧ k_ ≠ gb575) (.slice Ao25 t552.length co25) t552) ∧ Aside0 (Kd.V k43 43 wc w.heap.size (fun k_ => some k_ ≠ ((.slice (some ad576) t564.length co77) : Value).ownBlock ∧ some k_ ≠ ((.slice (some ad577) t568.length co78) : Value).ownBlock ∧ k_ ≠ gb545 ∧ k_ ≠ gb546 ∧ k_ ≠ gb563 ∧ k_ ≠ gb573 ∧ k_ ≠ gb575) (.slice Ao26 t555.length co26) t555) ∧ Aside0 (Kd.V (Kd.int .i64) 3 wc w.heap.size (fun k_ => some k_ ≠ ((.slice (some ad576) t564.length co77) : Value).ownBlock ∧ some k_ ≠ ((.slice (some ad577) t568.length co78) : Value).ownBlock ∧ k_ ≠ gb545 ∧ k_ ≠ gb546 ∧ k_ ≠ gb563 ∧ k_ ≠ gb573 ∧ k_ ≠ gb575) (.slice Ao27 t558.length co27) t558) ∧ Aside0 (wc.heap[gb545]? = some (.cells #[.int .i64 a0_0, .int .i64 a0_1, .int .i64 a0_2, .int .i64 a0_3, .bool a0_4] 25 (0, 0))) ∧ Aside0 (wc.heap[gb546]? = some (.cells #[.int .i64 a1_0, .int .i64 a1_1, .int .i64 a1_2, (.slice A1_3 l1_3.length c1_3), (.slice (some ad572) l1_4.length c1_4), (.slice A1_5 l1_5.length c1_5)] 30 (0, 0))) ∧ Aside0 (wc.heap[gb563]? = some (.cells #[.int .i64 t549, .int .i64 t550, .int .i64 t551, (.slice Ao25 t552.length co25), (.slice Ao26 t555.length co26), (.slice Ao27 t558.length co27)] 30 (0, 0))) ∧ Aside0 (wc.heap[gb573]? = some (.cells #[.int .i64 ((a0a l1_4 t561).f0), .int .i64 ((a0a l1_4 t561).f1), .int .i64 ((a0a l1_4 t561).f2)] 43 (0, 0))) ∧ Aside0 (wc.heap[gb575]? = some (.cells #[.int .i64 ((a0a l1_4 x84_3).f0), .int .i64 ((a0a l1_4 x84_3).f1), .int .i64 ((a0a l1_4 x84_3).f2)] 43 (0, 0))) ∧ Aside0 (Below w.heap.size w wc))
                 case first =>
                  have H := HC70.out
                  clear HC70
                  by_cases c79 : ((a0a l1_4 t561).f2) = ((a0a l1_4 x84_3).f0)
                  ·rw [if_pos c79] at H
                   have c79b0 : (((a0a l1_4 t561).f2) == ((a0a l1_4 x84_3).f0)) = true := beq_iff_eq.mpr c79
                   have c79b1 : (((a0a l1_4 t561).f2) != ((a0a l1_4 x84_3).f0)) = false := bne_eq_false_iff_eq.mpr c79
                   clear c79
                   (first | rw [c79b0] | (simp only [a3b, a3n]; rw [c79b0]) | skip)
                   replace H := bm_ H
                   obtain ⟨t578, A800, H⟩ := H
                   replace H : (a0b.j3 k3 t547 t561 t564 t568 x16_48 (wrap64 (x17_3 + (rd t564 x84_3))) (wrap64 (x18_3 + (rd t568 x84_3))) x84_3 0 l1_4 (l1_4.length : Int) x84_3 t578 a1_0 a1_1 a1_2 l1_3 l1_4 l1_5 ((a0a l1_4 t561).f0) ((a0a l1_4 t561).f1) ((a0a l1_4 t561).f2)) = some r := H
                   have A80 := am_ A800
                   clear A800
                   have H' := am_ H
                   clear H
                   have hnb81 := NB573_545.out
                   have hnc81 := NB545_573.out
                   have hnb82 := NB573_546.out
                   have hnc82 := NB546_573.out
                   have hnb83 := NB573_563.out
                   have hnc83 := NB563_573.out
                   have hnb84 := NB573_575.out
                   have hnc84 := NB575_573.out
                   obtain ⟨z'85_0, z'85_1, z'85_2⟩ := qz3_ BK573; obtain ⟨y'85_0, y'85_1, y'85_2⟩ := qf3_ BK573
                   have hnb86 := NB575_545.out
                   have hnc86 := NB545_575.out
                   have hnb87 := NB575_546.out
                   have hnc87 := NB546_575.out
                   have hnb88 := NB575_563.out
                   have hnc88 := NB563_575.out
                   obtain ⟨z'89_0, z'89_1, z'89_2⟩ := qz3_ BK575; obtain ⟨y'89_0, y'89_1, y'89_2⟩ := qf3_ BK575
                   have hnb90 := NB546_545.out
                   have hnc90 := NB545_546.out
                   have hnb91 := NB546_563.out
                   have hnc91 := NB563_546.out
                   obtain ⟨z'92_0, z'92_1, z'92_2, z'92_3, z'92_4, z'92_5⟩ := qz6_ BK546; obtain ⟨y'92_0, y'92_1, y'92_2, y'92_3, y'92_4, y'92_5⟩ := qf6_ BK546
                   go_wp2_with (first | (go_at_call 23; (with_reducible refine (a2j.calls k3 a1_0 a1_1 a1_2 _ _ l1_3 _ _ l1_4 _ _ l1_5 ((a0a l1_4 x84_3).f0) t578 _ ?s1 ?s2 ?s3 ?s4 ?s5 ?s6 A80.out).mono ?_); (case s1 => exact Kd.a1g HR1_3.out qb_); (case s2 => exact HC1_3.out); (case s3 => exact Kd.a1g HR1_4.out qb_); (case s4 => exact HC1_4.out); (case s5 => exact Kd.a1g HR1_5.out qb_); (case s6 => exact HC1_5.out); rintro e w93 ⟨rfl, hb⟩; replace HO_11 := am_ (Kd.a3e (by (with_reducible repeat (first | apply Kd.a0u | apply Kd.a0v | apply Kd.a0q)); exact (Kd.a2b (Kd.a1b (p := ⟨gb575, 2, none⟩) (Kd.a1b (p := ⟨gb575, 1, none⟩) (Kd.a1b (p := ⟨gb575, 0, none⟩) (Kd.a2u HO_11.out BK575.out (by decide)) (fun _ hk => hk.2) (.int .i64 ((a0a l1_4 x84_3).f0))) (fun _ hk => hk.2) (.int .i64 ((a0a l1_4 x84_3).f1))) (fun _ hk => hk.2) (.int .i64 ((a0a l1_4 x84_3).f2))) (fun _ h_ => h_.1))) hb); replace HO_13 := am_ (Kd.a3e (by (with_reducible repeat (first | apply Kd.a0u | apply Kd.a0v | apply Kd.a0q)); exact (Kd.a2b (Kd.a1b (p := ⟨gb575, 2, none⟩) (Kd.a1b (p := ⟨gb575, 1, none⟩) (Kd.a1b (p := ⟨gb575, 0, none⟩) (Kd.a2u HO_13.out BK575.out (by decide)) (fun _ hk => hk.2) (.int .i64 ((a0a l1_4 x84_3).f0))) (fun _ hk => hk.2) (.int .i64 ((a0a l1_4 x84_3).f1))) (fun _ hk => hk.2) (.int .i64 ((a0a l1_4 x84_3).f2))) (fun _ h_ => h_.1))) hb); replace HO_564003 := am_ (Kd.a1c (by (with_reducible repeat (first | apply Kd.V_alloc | apply Kd.a0d | apply Kd.a0e)); exact (Kd.a0i (Kd.a0j (p := ⟨gb575, 2, none⟩) (Kd.a0j (p := ⟨gb575, 1, none⟩) (Kd.a0j (p := ⟨gb575, 0, none⟩) (Kd.a0i HO_564003.out (fun k_ hk => (⟨hk, hk.2⟩ : _ ∧ k_ ≠ gb575))) (fun _ hk => hk.2) (.int .i64 ((a0a l1_4 x84_3).f0))) (fun _ hk => hk.2) (.int .i64 ((a0a l1_4 x84_3).f1))) (fun _ hk => hk.2) (.int .i64 ((a0a l1_4 x84_3).f2))) (fun _ h_ => h_.1))) hb); replace HO_564004 := am_ (Kd.a1c (by (with_reducible repeat (first | apply Kd.V_alloc | apply Kd.a0d | apply Kd.a0e)); exact (Kd.a0i (Kd.a0j (p := ⟨gb575, 2, none⟩) (Kd.a0j (p := ⟨gb575, 1, none⟩) (Kd.a0j (p := ⟨gb575, 0, none⟩) (Kd.a0i HO_564004.out (fun k_ hk => (⟨hk, hk.2⟩ : _ ∧ k_ ≠ gb575))) (fun _ hk => hk.2) (.int .i64 ((a0a l1_4 x84_3).f0))) (fun _ hk => hk.2) (.int .i64 ((a0a l1_4 x84_3).f1))) (fun _ hk => hk.2) (.int .i64 ((a0a l1_4 x84_3).f2))) (fun _ h_ => h_.1))) hb); replace HO_564005 := am_ (Kd.a1c (by (with_reducible repeat (first | apply Kd.V_alloc | apply Kd.a0d | apply Kd.a0e)); exact (Kd.a0i (Kd.a0j (p := ⟨gb575, 2, none⟩) (Kd.a0j (p := ⟨gb575, 1, none⟩) (Kd.a0j (p := ⟨gb575, 0, none⟩) (Kd.a0i HO_564005.out (fun k_ hk => (⟨hk, hk.2⟩ : _ ∧ k_ ≠ gb575))) (fun _ hk => hk.2) (.int .i64 ((a0a l1_4 x84_3).f0))) (fun _ hk => hk.2) (.int .i64 ((a0a l1_4 x84_3).f1))) (fun _ hk => hk.2) (.int .i64 ((a0a l1_4 x84_3).f2))) (fun _ h_ => h_.1))) hb); replace BK545 := am_ (a1k (g := gb545) (o := .cells #[.int .i64 a0_0, .int .i64 a0_1, .int .i64 a0_2, .int .i64 a0_3, .bool a0_4] 25 (0, 0)) (by refine qd_ ?_; refine a0c ?_ NB545_575.out _; refine qd_ ?_; refine a0c ?_ NB545_575.out _; refine qd_ ?_; refine a0c ?_ NB545_575.out _; refine qd_ ?_; exact BK545.out) hb); replace BK546 := am_ (a1k (g := gb546) (o := .cells #[.int .i64 a1_0, .int .i64 a1_1, .int .i64 a1_2, .slice A1_3 l1_3.length c1_3, .slice (some ad572) l1_4.length c1_4, .slice A1_5 l1_5.length c1_5] 30 (0, 0)) (by refine qd_ ?_; refine a0c ?_ NB546_575.out _; refine qd_ ?_; refine a0c ?_ NB546_575.out _; refine qd_ ?_; refine a0c ?_ NB546_575.out _; refine qd_ ?_; exact BK546.out) hb); replace BK563 := am_ (a1k (g := gb563) (o := .cells #[.int .i64 t549, .int .i64 t550, .int .i64 t551, .slice Ao25 t552.length co25, .slice Ao26 t555.length co26, .slice Ao27 t558.length co27] 30 (0, 0)) (by refine qd_ ?_; refine a0c ?_ NB563_575.out _; refine qd_ ?_; refine a0c ?_ NB563_575.out _; refine qd_ ?_; refine a0c ?_ NB563_575.out _; refine qd_ ?_; exact BK563.out) hb); replace BK573 := am_ (a1k (g := gb573) (o := .cells #[.int .i64 ((a0a l1_4 t561).f0), .int .i64 ((a0a l1_4 t561).f1), .int .i64 ((a0a l1_4 t561).f2)] 43 (0, 0)) (by refine qd_ ?_; refine a0c ?_ NB573_575.out _; refine qd_ ?_; refine a0c ?_ NB573_575.out _; refine qd_ ?_; refine a0c ?_ NB573_575.out _; refine qd_ ?_; exact BK573.out) hb); replace BK575 := am_ (a1k (g := gb575) (o := .cells #[.int .i64 ((a0a l1_4 x84_3).f0), .int .i64 ((a0a l1_4 x84_3).f1), .int .i64 ((a0a l1_4 x84_3).f2)] 43 (0, 0)) (by refine qd_ ?_; refine a0g (cs := #[.int .i64 ((a0a l1_4 x84_3).f0), .int .i64 ((a0a l1_4 x84_3).f1), .int .i64 0]) ?_ 2 _ rfl; refine qd_ ?_; refine a0g (cs := #[.int .i64 ((a0a l1_4 x84_3).f0), .int .i64 0, .int .i64 0]) ?_ 1 _ rfl; refine qd_ ?_; refine a0g (cs := #[.int .i64 0, .int .i64 0, .int .i64 0]) ?_ 0 _ rfl; refine qd_ ?_; exact BK575.out) hb); replace HB := qbs_ hb; (try clear hb); (try clear hb2); (try clear hk); (try clear hi)))
                   repeat (go_quiet (first | (go_at_call 23; (with_reducible refine (a2j.calls k3 a1_0 a1_1 a1_2 _ _ l1_3 _ _ l1_4 _ _ l1_5 ((a0a l1_4 x84_3).f0) t578 _ ?s1 ?s2 ?s3 ?s4 ?s5 ?s6 A80.out).mono ?_); (case s1 => exact Kd.a1g HR1_3.out qb_); (case s2 => exact HC1_3.out); (case s3 => exact Kd.a1g HR1_4.out qb_); (case s4 => exact HC1_4.out); (case s5 => exact Kd.a1g HR1_5.out qb_); (case s6 => exact HC1_5.out); rintro e w93 ⟨rfl, hb⟩; replace HO_11 := am_ (Kd.a3e (by (with_reducible repeat (first | apply Kd.a0u | apply Kd.a0v | apply Kd.a0q)); exact (Kd.a2b (Kd.a1b (p := ⟨gb575, 2, none⟩) (Kd.a1b (p := ⟨gb575, 1, none⟩) (Kd.a1b (p := ⟨gb575, 0, none⟩) (Kd.a2u HO_11.out BK575.out (by decide)) (fun _ hk => hk.2) (.int .i64 ((a0a l1_4 x84_3).f0))) (fun _ hk => hk.2) (.int .i64 ((a0a l1_4 x84_3).f1))) (fun _ hk => hk.2) (.int .i64 ((a0a l1_4 x84_3).f2))) (fun _ h_ => h_.1))) hb); replace HO_13 := am_ (Kd.a3e (by (with_reducible repeat (first | apply Kd.a0u | apply Kd.a0v | apply Kd.a0q)); exact (Kd.a2b (Kd.a1b (p := ⟨gb575, 2, none⟩) (Kd.a1b (p := ⟨gb575, 1, none⟩) (Kd.a1b (p := ⟨gb575, 0, none⟩) (Kd.a2u HO_13.out BK575.out (by decide)) (fun _ hk => hk.2) (.int .i64 ((a0a l1_4 x84_3).f0))) (fun _ hk => hk.2) (.int .i64 ((a0a l1_4 x84_3).f1))) (fun _ hk => hk.2) (.int .i64 ((a0a l1_4 x84_3).f2))) (fun _ h_ => h_.1))) hb); replace HO_564003 := am_ (Kd.a1c (by (with_reducible repeat (first | apply Kd.V_alloc | apply Kd.a0d | apply Kd.a0e)); exact (Kd.a0i (Kd.a0j (p := ⟨gb575, 2, none⟩) (Kd.a0j (p := ⟨gb575, 1, none⟩) (Kd.a0j (p := ⟨gb575, 0, none⟩) (Kd.a0i HO_564003.out (fun k_ hk => (⟨hk, hk.2⟩ : _ ∧ k_ ≠ gb575))) (fun _ hk => hk.2) (.int .i64 ((a0a l1_4 x84_3).f0))) (fun _ hk => hk.2) (.int .i64 ((a0a l1_4 x84_3).f1))) (fun _ hk => hk.2) (.int .i64 ((a0a l1_4 x84_3).f2))) (fun _ h_ => h_.1))) hb); replace HO_564004 := am_ (Kd.a1c (by (with_reducible repeat (first | apply Kd.V_alloc | apply Kd.a0d | apply Kd.a0e)); exact (Kd.a0i (Kd.a0j (p := ⟨gb575, 2, none⟩) (Kd.a0j (p := ⟨gb575, 1, none⟩) (Kd.a0j (p := ⟨gb575, 0, none⟩) (Kd.a0i HO_564004.out (fun k_ hk => (⟨hk, hk.2⟩ : _ ∧ k_ ≠ gb575))) (fun _ hk => hk.2) (.int .i64 ((a0a l1_4 x84_3).f0))) (fun _ hk => hk.2) (.int .i64 ((a0a l1_4 x84_3).f1))) (fun _ hk => hk.2) (.int .i64 ((a0a l1_4 x84_3).f2))) (fun _ h_ => h_.1))) hb); replace HO_564005 := am_ (Kd.a1c (by (with_reducible repeat (first | apply Kd.V_alloc | apply Kd.a0d | apply Kd.a0e)); exact (Kd.a0i (Kd.a0j (p := ⟨gb575, 2, none⟩) (Kd.a0j (p := ⟨gb575, 1, none⟩) (Kd.a0j (p := ⟨gb575, 0, none⟩) (Kd.a0i HO_564005.out (fun k_ hk => (⟨hk, hk.2⟩ : _ ∧ k_ ≠ gb575))) (fun _ hk => hk.2) (.int .i64 ((a0a l1_4 x84_3).f0))) (fun _ hk => hk.2) (.int .i64 ((a0a l1_4 x84_3).f1))) (fun _ hk => hk.2) (.int .i64 ((a0a l1_4 x84_3).f2))) (fun _ h_ => h_.1))) hb); replace BK545 := am_ (a1k (g := gb545) (o := .cells #[.int .i64 a0_0, .int .i64 a0_1, .int .i64 a0_2, .int .i64 a0_3, .bool a0_4] 25 (0, 0)) (by refine qd_ ?_; refine a0c ?_ NB545_575.out _; refine qd_ ?_; refine a0c ?_ NB545_575.out _; refine qd_ ?_; refine a0c ?_ NB545_575.out _; refine qd_ ?_; exact BK545.out) hb); replace BK546 := am_ (a1k (g := gb546) (o := .cells #[.int .i64 a1_0, .int .i64 a1_1, .int .i64 a1_2, .slice A1_3 l1_3.length c1_3, .slice (some ad572) l1_4.length c1_4, .slice A1_5 l1_5.length c1_5] 30 (0, 0)) (by refine qd_ ?_; refine a0c ?_ NB546_575.out _; refine qd_ ?_; refine a0c ?_ NB546_575.out _; refine qd_ ?_; refine a0c ?_ NB546_575.out _; refine qd_ ?_; exact BK546.out) hb); replace BK563 := am_ (a1k (g := gb563) (o := .cells #[.int .i64 t549, .int .i64 t550, .int .i64 t551, .slice Ao25 t552.length co25, .slice Ao26 t555.length co26, .slice Ao27 t558.length co27] 30 (0, 0)) (by refine qd_ ?_; refine a0c ?_ NB563_575.out _; refine qd_ ?_; refine a0c ?_ NB563_575.out _; refine qd_ ?_; refine a0c ?_ NB563_575.out _; refine qd_ ?_; exact BK563.out) hb); replace BK573 := am_ (a1k (g := gb573) (o := .cells #[.int .i64 ((a0a l1_4 t561).f0), .int .i64 ((a0a l1_4 t561).f1), .int .i64 ((a0a l1_4 t561).f2)] 43 (0, 0)) (by refine qd_ ?_; refine a0c ?_ NB573_575.out _; refine qd_ ?_; refine a0c ?_ NB573_575.out _; refine qd_ ?_; refine a0c ?_ NB573_575.out _; refine qd_ ?_; exact BK573.out) hb); replace BK575 := am_ (a1k (g := gb575) (o := .cells #[.int .i64 ((a0a l1_4 x84_3).f0), .int .i64 ((a0a l1_4 x84_3).f1), .int .i64 ((a0a l1_4 x84_3).f2)] 43 (0, 0)) (by refine qd_ ?_; refine a0g (cs := #[.int .i64 ((a0a l1_4 x84_3).f0), .int .i64 ((a0a l1_4 x84_3).f1), .int .i64 0]) ?_ 2 _ rfl; refine qd_ ?_; refine a0g (cs := #[.int .i64 ((a0a l1_4 x84_3).f0), .int .i64 0, .int .i64 0]) ?_ 1 _ rfl; refine qd_ ?_; refine a0g (cs := #[.int .i64 0, .int .i64 0, .int .i64 0]) ?_ 0 _ rfl; refine qd_ ?_; exact BK575.out) hb); replace HB := qbs_ hb; (try clear hb); (try clear hb2); (try clear hk); (try clear hi))); try go_wp2_with (first | (go_at_call 23; (with_reducible refine (a2j.calls k3 a1_0 a1_1 a1_2 _ _ l1_3 _ _ l1_4 _ _ l1_5 ((a0a l1_4 x84_3).f0) t578 _ ?s1 ?s2 ?s3 ?s4 ?s5 ?s6 A80.out).mono ?_); (case s1 => exact Kd.a1g HR1_3.out qb_); (case s2 => exact HC1_3.out); (case s3 => exact Kd.a1g HR1_4.out qb_); (case s4 => exact HC1_4.out); (case s5 => exact Kd.a1g HR1_5.out qb_); (case s6 => exact HC1_5.out); rintro e w93 ⟨rfl, hb⟩; replace HO_11 := am_ (Kd.a3e (by (with_reducible repeat (first | apply Kd.a0u | apply Kd.a0v | apply Kd.a0q)); exact (Kd.a2b (Kd.a1b (p := ⟨gb575, 2, none⟩) (Kd.a1b (p := ⟨gb575, 1, none⟩) (Kd.a1b (p := ⟨gb575, 0, none⟩) (Kd.a2u HO_11.out BK575.out (by decide)) (fun _ hk => hk.2) (.int .i64 ((a0a l1_4 x84_3).f0))) (fun _ hk => hk.2) (.int .i64 ((a0a l1_4 x84_3).f1))) (fun _ hk => hk.2) (.int .i64 ((a0a l1_4 x84_3).f2))) (fun _ h_ => h_.1))) hb); replace HO_13 := am_ (Kd.a3e (by (with_reducible repeat (first | apply Kd.a0u | apply Kd.a0v | apply Kd.a0q)); exact (Kd.a2b (Kd.a1b (p := ⟨gb575, 2, none⟩) (Kd.a1b (p := ⟨gb575, 1, none⟩) (Kd.a1b (p := ⟨gb575, 0, none⟩) (Kd.a2u HO_13.out BK575.out (by decide)) (fun _ hk => hk.2) (.int .i64 ((a0a l1_4 x84_3).f0))) (fun _ hk => hk.2) (.int .i64 ((a0a l1_4 x84_3).f1))) (fun _ hk => hk.2) (.int .i64 ((a0a l1_4 x84_3).f2))) (fun _ h_ => h_.1))) hb); replace HO_564003 := am_ (Kd.a1c (by (with_reducible repeat (first | apply Kd.V_alloc | apply Kd.a0d | apply Kd.a0e)); exact (Kd.a0i (Kd.a0j (p := ⟨gb575, 2, none⟩) (Kd.a0j (p := ⟨gb575, 1, none⟩) (Kd.a0j (p := ⟨gb575, 0, none⟩) (Kd.a0i HO_564003.out (fun k_ hk => (⟨hk, hk.2⟩ : _ ∧ k_ ≠ gb575))) (fun _ hk => hk.2) (.int .i64 ((a0a l1_4 x84_3).f0))) (fun _ hk => hk.2) (.int .i64 ((a0a l1_4 x84_3).f1))) (fun _ hk => hk.2) (.int .i64 ((a0a l1_4 x84_3).f2))) (fun _ h_ => h_.1))) hb); replace HO_564004 := am_ (Kd.a1c (by (with_reducible repeat (first | apply Kd.V_alloc | apply Kd.a0d | apply Kd.a0e)); exact (Kd.a0i (Kd.a0j (p := ⟨gb575, 2, none⟩) (Kd.a0j (p := ⟨gb575, 1, none⟩) (Kd.a0j (p := ⟨gb575, 0, none⟩) (Kd.a0i HO_564004.out (fun k_ hk => (⟨hk, hk.2⟩ : _ ∧ k_ ≠ gb575))) (fun _ hk => hk.2) (.int .i64 ((a0a l1_4 x84_3).f0))) (fun _ hk => hk.2) (.int .i64 ((a0a l1_4 x84_3).f1))) (fun _ hk => hk.2) (.int .i64 ((a0a l1_4 x84_3).f2))) (fun _ h_ => h_.1))) hb); replace HO_564005 := am_ (Kd.a1c (by (with_reducible repeat (first | apply Kd.V_alloc | apply Kd.a0d | apply Kd.a0e)); exact (Kd.a0i (Kd.a0j (p := ⟨gb575, 2, none⟩) (Kd.a0j (p := ⟨gb575, 1, none⟩) (Kd.a0j (p := ⟨gb575, 0, none⟩) (Kd.a0i HO_564005.out (fun k_ hk => (⟨hk, hk.2⟩ : _ ∧ k_ ≠ gb575))) (fun _ hk => hk.2) (.int .i64 ((a0a l1_4 x84_3).f0))) (fun _ hk => hk.2) (.int .i64 ((a0a l1_4 x84_3).f1))) (fun _ hk => hk.2) (.int .i64 ((a0a l1_4 x84_3).f2))) (fun _ h_ => h_.1))) hb); replace BK545 := am_ (a1k (g := gb545) (o := .cells #[.int .i64 a0_0, .int .i64 a0_1, .int .i64 a0_2, .int .i64 a0_3, .bool a0_4] 25 (0, 0)) (by refine qd_ ?_; refine a0c ?_ NB545_575.out _; refine qd_ ?_; refine a0c ?_ NB545_575.out _; refine qd_ ?_; refine a0c ?_ NB545_575.out _; refine qd_ ?_; exact BK545.out) hb); replace BK546 := am_ (a1k (g := gb546) (o := .cells #[.int .i64 a1_0, .int .i64 a1_1, .int .i64 a1_2, .slice A1_3 l1_3.length c1_3, .slice (some ad572) l1_4.length c1_4, .slice A1_5 l1_5.length c1_5] 30 (0, 0)) (by refine qd_ ?_; refine a0c ?_ NB546_575.out _; refine qd_ ?_; refine a0c ?_ NB546_575.out _; refine qd_ ?_; refine a0c ?_ NB546_575.out _; refine qd_ ?_; exact BK546.out) hb); replace BK563 := am_ (a1k (g := gb563) (o := .cells #[.int .i64 t549, .int .i64 t550, .int .i64 t551, .slice Ao25 t552.length co25, .slice Ao26 t555.length co26, .slice Ao27 t558.length co27] 30 (0, 0)) (by refine qd_ ?_; refine a0c ?_ NB563_575.out _; refine qd_ ?_; refine a0c ?_ NB563_575.out _; refine qd_ ?_; refine a0c ?_ NB563_575.out _; refine qd_ ?_; exact BK563.out) hb); replace BK573 := am_ (a1k (g := gb573) (o := .cells #[.int .i64 ((a0a l1_4 t561).f0), .int .i64 ((a0a l1_4 t561).f1), .int .i64 ((a0a l1_4 t561).f2)] 43 (0, 0)) (by refine qd_ ?_; refine a0c ?_ NB573_575.out _; refine qd_ ?_; refine a0c ?_ NB573_575.out _; refine qd_ ?_; refine a0c ?_ NB573_575.out _; refine qd_ ?_; exact BK573.out) hb); replace BK575 := am_ (a1k (g := gb575) (o := .cells #[.int .i64 ((a0a l1_4 x84_3).f0), .int .i64 ((a0a l1_4 x84_3).f1), .int .i64 ((a0a l1_4 x84_3).f2)] 43 (0, 0)) (by refine qd_ ?_; refine a0g (cs := #[.int .i64 ((a0a l1_4 x84_3).f0), .int .i64 ((a0a l1_4 x84_3).f1), .int .i64 0]) ?_ 2 _ rfl; refine qd_ ?_; refine a0g (cs := #[.int .i64 ((a0a l1_4 x84_3).f0), .int .i64 0, .int .i64 0]) ?_ 1 _ rfl; refine qd_ ?_; refine a0g (cs := #[.int .i64 0, .int .i64 0, .int .i64 0]) ?_ 0 _ rfl; refine qd_ ?_; exact BK575.out) hb); replace HB := qbs_ hb; (try clear hb); (try clear hb2); (try clear hk); (try clear hi))))
                   go_meet
                   case rel => exact ⟨_, (t578), qs_, H', ⟨by have := HJ10.out; have := HJ48.out; have := HK3.out; first | omega | exact Nat.le_refl _⟩, ⟨by (with_reducible repeat (first | apply Kd.a0u | apply Kd.a0v | apply Kd.a0q)); exact HO_11.out⟩, ⟨by (with_reducible repeat (first | apply Kd.a0u | apply Kd.a0v | apply Kd.a0q)); exact HO_13.out⟩, ⟨by (with_reducible repeat (first | apply Kd.V_alloc | apply Kd.a0d | apply Kd.a0e)); exact Kd.a0i HO_564003.out (fun _ hk => ⟨hk.1.1, ⟨hk.1.2.1, ⟨hk.1.2.2.1, ⟨hk.1.2.2.2.1, ⟨hk.1.2.2.2.2.1, ⟨hk.1.2.2.2.2.2, hk.2⟩⟩⟩⟩⟩⟩)⟩, ⟨by (with_reducible repeat (first | apply Kd.V_alloc | apply Kd.a0d | apply Kd.a0e)); exact Kd.a0i HO_564004.out (fun _ hk => ⟨hk.1.1, ⟨hk.1.2.1, ⟨hk.1.2.2.1, ⟨hk.1.2.2.2.1, ⟨hk.1.2.2.2.2.1, ⟨hk.1.2.2.2.2.2, hk.2⟩⟩⟩⟩⟩⟩)⟩, ⟨by (with_reducible repeat (first | apply Kd.V_alloc | apply Kd.a0d | apply Kd.a0e)); exact Kd.a0i HO_564005.out (fun _ hk => ⟨hk.1.1, ⟨hk.1.2.1, ⟨hk.1.2.2.1, ⟨hk.1.2.2.2.1, ⟨hk.1.2.2.2.2.1, ⟨hk.1.2.2.2.2.2, hk.2⟩⟩⟩⟩⟩⟩)⟩, ⟨qk_ BK545⟩, ⟨qk_ BK546⟩, ⟨qk_ BK563⟩, ⟨qk_ BK573⟩, ⟨qk_ BK575⟩, ⟨qb_⟩⟩
                  ·rw [if_neg c79] at H
                   have c79b0 : (((a0a l1_4 t561).f2) == ((a0a l1_4 x84_3).f0)) = false := beq_eq_false_iff_ne.mpr c79
                   have c79b1 : (((a0a l1_4 t561).f2) != ((a0a l1_4 x84_3).f0)) = true := bne_iff_ne.mpr c79
                   (first | rw [c79b0] | (simp only [a3b, a3n]; rw [c79b0]) | skip)
                   have H' := am_ H
                   clear H
                   have hnb94 := NB573_545.out
                   have hnc94 := NB545_573.out
                   have hnb95 := NB573_546.out
                   have hnc95 := NB546_573.out
                   have hnb96 := NB573_563.out
                   have hnc96 := NB563_573.out
                   have hnb97 := NB573_575.out
                   have hnc97 := NB575_573.out
                   obtain ⟨z'98_0, z'98_1, z'98_2⟩ := qz3_ BK573; obtain ⟨y'98_0, y'98_1, y'98_2⟩ := qf3_ BK573
                   have hnb99 := NB575_545.out
                   have hnc99 := NB545_575.out
                   have hnb100 := NB575_546.out
                   have hnc100 := NB546_575.out
                   have hnb101 := NB575_563.out
                   have hnc101 := NB563_575.out
                   obtain ⟨z'102_0, z'102_1, z'102_2⟩ := qz3_ BK575; obtain ⟨y'102_0, y'102_1, y'102_2⟩ := qf3_ BK575
                   go_wp2
                   repeat (go_quiet (fail); try go_wp2)
                   go_meet
                   case rel => exact ⟨_, (false), qs_, H', ⟨by have := HJ10.out; have := HJ48.out; have := HK3.out; first | omega | exact Nat.le_refl _⟩, ⟨by (with_reducible repeat (first | apply Kd.a0u | apply Kd.a0v | apply Kd.a0q)); exact Kd.a2b (Kd.a1b (p := ⟨gb575, 2, none⟩) (Kd.a1b (p := ⟨gb575, 1, none⟩) (Kd.a1b (p := ⟨gb575, 0, none⟩) (Kd.a2u HO_11.out BK575.out (by decide)) (fun _ hk => hk.2) (.int .i64 ((a0a l1_4 x84_3).f0))) (fun _ hk => hk.2) (.int .i64 ((a0a l1_4 x84_3).f1))) (fun _ hk => hk.2) (.int .i64 ((a0a l1_4 x84_3).f2))) (fun _ hk => hk.1)⟩, ⟨by (with_reducible repeat (first | apply Kd.a0u | apply Kd.a0v | apply Kd.a0q)); exact Kd.a2b (Kd.a1b (p := ⟨gb575, 2, none⟩) (Kd.a1b (p := ⟨gb575, 1, none⟩) (Kd.a1b (p := ⟨gb575, 0, none⟩) (Kd.a2u HO_13.out BK575.out (by decide)) (fun _ hk => hk.2) (.int .i64 ((a0a l1_4 x84_3).f0))) (fun _ hk => hk.2) (.int .i64 ((a0a l1_4 x84_3).f1))) (fun _ hk => hk.2) (.int .i64 ((a0a l1_4 x84_3).f2))) (fun _ hk => hk.1)⟩, ⟨by (with_reducible repeat (first | apply Kd.V_alloc | apply Kd.a0d | apply Kd.a0e)); exact Kd.a0i (Kd.a0j (p := ⟨gb575, 2, none⟩) (Kd.a0j (p := ⟨gb575, 1, none⟩) (Kd.a0j (p := ⟨gb575, 0, none⟩) (Kd.a0i HO_564003.out (fun k_ hk => (⟨hk, hk.2⟩ : _ ∧ k_ ≠ gb575))) (fun _ hk => hk.2) (.int .i64 ((a0a l1_4 x84_3).f0))) (fun _ hk => hk.2) (.int .i64 ((a0a l1_4 x84_3).f1))) (fun _ hk => hk.2) (.int .i64 ((a0a l1_4 x84_3).f2))) (fun _ hk => ⟨hk.1.1.1, ⟨hk.1.1.2.1, ⟨hk.1.1.2.2.1, ⟨hk.1.1.2.2.2.1, ⟨hk.1.1.2.2.2.2.1, ⟨hk.1.1.2.2.2.2.2, hk.1.2⟩⟩⟩⟩⟩⟩)⟩, ⟨by (with_reducible repeat (first | apply Kd.V_alloc | apply Kd.a0d | apply Kd.a0e)); exact Kd.a0i (Kd.a0j (p := ⟨gb575, 2, none⟩) (Kd.a0j (p := ⟨gb575, 1, none⟩) (Kd.a0j (p := ⟨gb575, 0, none⟩) (Kd.a0i HO_564004.out (fun k_ hk => (⟨hk, hk.2⟩ : _ ∧ k_ ≠ gb575))) (fun _ hk => hk.2) (.int .i64 ((a0a l1_4 x84_3).f0))) (fun _ hk => hk.2) (.int .i64 ((a0a l1_4 x84_3).f1))) (fun _ hk => hk.2) (.int .i64 ((a0a l1_4 x84_3).f2))) (fun _ hk => ⟨hk.1.1.1, ⟨hk.1.1.2.1, ⟨hk.1.1.2.2.1, ⟨hk.1.1.2.2.2.1, ⟨hk.1.1.2.2.2.2.1, ⟨hk.1.1.2.2.2.2.2, hk.1.2⟩⟩⟩⟩⟩⟩)⟩, ⟨by (with_reducible repeat (first | apply Kd.V_alloc | apply Kd.a0d | apply Kd.a0e)); exact Kd.a0i (Kd.a0j (p := ⟨gb575, 2, none⟩) (Kd.a0j (p := ⟨gb575, 1, none⟩) (Kd.a0j (p := ⟨gb575, 0, none⟩) (Kd.a0i HO_564005.out (fun k_ hk => (⟨hk, hk.2⟩ : _ ∧ k_ ≠ gb575))) (fun _ hk => hk.2) (.int .i64 ((a0a l1_4 x84_3).f0))) (fun _ hk => hk.2) (.int .i64 ((a0a l1_4 x84_3).f1))) (fun _ hk => hk.2) (.int .i64 ((a0a l1_4 x84_3).f2))) (fun _ hk => ⟨hk.1.1.1, ⟨hk.1.1.2.1, ⟨hk.1.1.2.2.1, ⟨hk.1.1.2.2.2.1, ⟨hk.1.1.2.2.2.2.1, ⟨hk.1.1.2.2.2.2.2, hk.1.2⟩⟩⟩⟩⟩⟩)⟩, ⟨by refine qd_ ?_; refine a0c ?_ NB545_575.out _; refine qd_ ?_; refine a0c ?_ NB545_575.out _; refine qd_ ?_; refine a0c ?_ NB545_575.out _; refine qd_ ?_; exact BK545.out⟩, ⟨by refine qd_ ?_; refine a0c ?_ NB546_575.out _; refine qd_ ?_; refine a0c ?_ NB546_575.out _; refine qd_ ?_; refine a0c ?_ NB546_575.out _; refine qd_ ?_; exact BK546.out⟩, ⟨by refine qd_ ?_; refine a0c ?_ NB563_575.out _; refine qd_ ?_; refine a0c ?_ NB563_575.out _; refine qd_ ?_; refine a0c ?_ NB563_575.out _; refine qd_ ?_; exact BK563.out⟩, ⟨by refine qd_ ?_; refine a0c ?_ NB573_575.out _; refine qd_ ?_; refine a0c ?_ NB573_575.out _; refine qd_ ?_; refine a0c ?_ NB573_575.out _; refine qd_ ?_; exact BK573.out⟩, ⟨by refine qd_ ?_; refine a0g (cs := #[.int .i64 ((a0a l1_4 x84_3).f0), .int .i64 ((a0a l1_4 x84_3).f1), .int .i64 0]) ?_ 2 _ rfl; refine qd_ ?_; refine a0g (cs := #[.int .i64 ((a0a l1_4 x84_3).f0), .int .i64 0, .int .i64 0]) ?_ 1 _ rfl; refine qd_ ?_; refine a0g (cs := #[.int .i64 0, .int .i64 0, .int .i64 0]) ?_ 0 _ rfl; refine qd_ ?_; exact BK575.out⟩, ⟨qb_⟩⟩
                 case rest =>
                  clear HC70
                  try clear c1
                  try clear c2
                  try clear p2
                  try clear c3
                  try clear c4
                  try clear c5
                  try clear p5
                  try clear q5
                  try clear hx5
                  try clear c6
                  try clear p6
                  try clear c7
                  try clear c8
                  try clear c9
                  try clear c10
                  try clear c15
                  try clear c22
                  try clear c23
                  try clear c34
                  try clear c34b0
                  try clear c34b1
                  try clear c35
                  try clear c35b0
                  try clear c35b1
                  try clear c36
                  try clear c36b0
                  try clear c36b1
                  try clear c36b2
                  try clear c38
                  try clear c39
                  try clear c43
                  try clear c44
                  try clear c46
                  try clear c47
                  try clear c47b0
                  try clear c48
                  try clear c48b0
                  try clear c50
                  try clear c51
                  try clear c54
                  try clear c55
                  try clear c56
                  try clear p57
                  try clear q57
                  try clear hx57
                  try clear c58
                  try clear c60
                  try clear c61
                  try clear c62
                  try clear c63
                  try clear p64
                  try clear c65
                  try clear c65b0
                  try clear c66
                  try clear c66b0
                  try clear c67
                  try clear c67b0
                  try clear c68
                  try clear c68b0
                  try clear c69
                  try clear c69b0
                  try clear c72
                  try clear c73
                  try clear c74
                  try clear c75
                  try clear c79
                  try clear c79b0
                  try clear c79b1
                  try clear c81
                  try clear c82
                  try clear c83
                  try clear c84
                  try clear c86
                  try clear c87
                  try clear c88
                  try clear c90
                  try clear c91
                  try clear c94
                  try clear c95
                  try clear c96
                  try clear c97
                  try clear c99
                  try clear c100
                  try clear c101
                  try clear z'102_0 z'102_1 z'102_2
                  try clear z'16_0 z'16_1 z'16_2 z'16_3 z'16_4
                  try clear z'17_0 z'17_1 z'17_2 z'17_3 z'17_4 z'17_5
                  try clear z'19_0 z'19_1 z'19_2 z'19_3 z'19_4 z'19_5
                  try clear z'24_0 z'24_1 z'24_2 z'24_3 z'24_4 z'24_5
                  try clear z'28_0 z'28_1 z'28_2 z'28_3 z'28_4
                  try clear z'29_0 z'29_1 z'29_2 z'29_3 z'29_4 z'29_5
                  try clear z'31_0 z'31_1 z'31_2 z'31_3 z'31_4
                  try clear z'32_0 z'32_1 z'32_2 z'32_3 z'32_4 z'32_5
                  try clear z'40_0 z'40_1 z'40_2 z'40_3 z'40_4 z'40_5
                  try clear z'45_0 z'45_1 z'45_2 z'45_3 z'45_4 z'45_5
                  try clear z'52_0 z'52_1 z'52_2 z'52_3 z'52_4 z'52_5
                  try clear z'57_0 z'57_1 z'57_2
                  try clear z'59_0 z'59_1 z'59_2 z'59_3 z'59_4
                  try clear z'64_0 z'64_1 z'64_2 z'64_3 z'64_4 z'64_5
                  try clear z'76_0 z'76_1 z'76_2
                  try clear z'85_0 z'85_1 z'85_2
                  try clear z'89_0 z'89_1 z'89_2
                  try clear z'92_0 z'92_1 z'92_2 z'92_3 z'92_4 z'92_5
                  try clear z'98_0 z'98_1 z'98_2
                  try clear y'102_0 y'102_1 y'102_2
                  try clear y'16_0 y'16_1 y'16_2 y'16_3 y'16_4
                  try clear y'17_0 y'17_1 y'17_2 y'17_3 y'17_4 y'17_5
                  try clear y'19_0 y'19_1 y'19_2 y'19_3 y'19_4 y'19_5
                  try clear y'24_0 y'24_1 y'24_2 y'24_3 y'24_4 y'24_5
                  try clear y'28_0 y'28_1 y'28_2 y'28_3 y'28_4
                  try clear y'29_0 y'29_1 y'29_2 y'29_3 y'29_4 y'29_5
                  try clear y'31_0 y'31_1 y'31_2 y'31_3 y'31_4
                  try clear y'32_0 y'32_1 y'32_2 y'32_3 y'32_4 y'32_5
                  try clear y'40_0 y'40_1 y'40_2 y'40_3 y'40_4 y'40_5
                  try clear y'45_0 y'45_1 y'45_2 y'45_3 y'45_4 y'45_5
                  try clear y'52_0 y'52_1 y'52_2 y'52_3 y'52_4 y'52_5
                  try clear y'57_0 y'57_1 y'57_2
                  try clear y'59_0 y'59_1 y'59_2 y'59_3 y'59_4
                  try clear y'64_0 y'64_1 y'64_2 y'64_3 y'64_4 y'64_5
                  try clear y'76_0 y'76_1 y'76_2
                  try clear y'85_0 y'85_1 y'85_2
                  try clear y'89_0 y'89_1 y'89_2
                  try clear y'92_0 y'92_1 y'92_2 y'92_3 y'92_4 y'92_5
                  try clear y'98_0 y'98_1 y'98_2
                  try clear hx572_0
                  try clear hx572_1
                  try clear hx572_2
                  try clear hx574_0
                  try clear hx574_1
                  try clear hx574_2
                  try clear hx576_0
                  try clear hx577_0
                  try clear p2
                  try clear p5
                  try clear p57
                  try clear p572
                  try clear p574
                  try clear p576
                  try clear p577
                  try clear q5
                  try clear q57
                  try clear q572
                  try clear q574
                  try clear q576
                  try clear q577
                  obtain ⟨kq, x111_69, rfl, HA, HJ69, HO_11, HO_13, HO_564003, HO_564004, HO_564005, BK545, BK546, BK563, BK573, BK575, HB⟩ := hcut
                  cases kq with
                  | zero => exact absurd HA.out (by simp [a0b.j3])
                  | succ kj69 =>
                   have H := HA.out
                   clear HA
                   simp only [a0b.j3] at H
                   have HC103 := am_ H
                   clear H
                   go_upto_if 111 with (fail)
                   repeat (go_quiet (fail); go_upto_if 111 with (fail))
                   go_cut [21] (fun v21 wc => ∃ (kq : Nat) (x21_102 : Int), v21 = .int .i64 x21_102 ∧ Aside0 (a0b.j4 kq t547 t561 t564 t568 x16_48 (wrap64 (x17_3 + (rd t564 x84_3))) (wrap64 (x18_3 + (rd t568 x84_3))) x84_3 x21_102 l1_4 (l1_4.length : Int) x84_3 a1_0 a1_1 a1_2 l1_3 l1_4 l1_5 ((a0a l1_4 t561).f0) ((a0a l1_4 t561).f1) ((a0a l1_4 t561).f2) = some r) ∧ Aside0 (kq ≤ kj69) ∧ Aside0 (Kd.R (Kd.int .i64) 3 wc w.heap.size (fun k_ => some k_ ≠ ((.slice (some ad577) t568.length co78) : Value).ownBlock) (.slice (some ad576) t564.length co77) t564) ∧ Aside0 (Kd.R (Kd.int .i64) 3 wc w.heap.size (fun k_ => some k_ ≠ ((.slice (some ad576) t564.length co77) : Value).ownBlock) (.slice (some ad577) t568.length co78) t568) ∧ Aside0 (Kd.V Kd.string 9 wc w.heap.size (fun k_ => some k_ ≠ ((.slice (some ad576) t564.length co77) : Value).ownBlock ∧ some k_ ≠ ((.slice (some ad577) t568.length co78) : Value).ownBlock ∧ k_ ≠ gb545 ∧ k_ ≠ gb546 ∧ k_ ≠ gb563 ∧ k_ ≠ gb573 ∧ k_ ≠ gb575) (.slice Ao25 t552.length co25) t552) ∧ Aside0 (Kd.V k43 43 wc w.heap.size (fun k_ => some k_ ≠ ((.slice (some ad576) t564.length co77) : Value).ownBlock ∧ some k_ ≠ ((.slice (some ad577) t568.length co78) : Value).ownBlock ∧ k_ ≠ gb545 ∧ k_ ≠ gb546 ∧ k_ ≠ gb563 ∧ k_ ≠ gb573 ∧ k_ ≠ gb575) (.slice Ao26 t555.length co26) t555) ∧ Aside0 (Kd.V (Kd.int .i64) 3 wc w.heap.size (fun k_ => some k_ ≠ ((.slice (some ad576) t564.length co77) : Value).ownBlock ∧ some k_ ≠ ((.slice (some ad577) t568.length co78) : Value).ownBlock ∧ k_ ≠ gb545 ∧ k_ ≠ gb546 ∧ k_ ≠ gb563 ∧ k_ ≠ gb573 ∧ k_ ≠ gb575) (.slice Ao27 t558.length co27) t558) ∧ Aside0 (wc.heap[gb545]? = some (.cells #[.int .i64 a0_0, .int .i64 a0_1, .int .i64 a0_2, .int .i64 a0_3, .bool a0_4] 25 (0, 0))) ∧ Aside0 (wc.heap[gb546]? = some (.cells #[.int .i64 a1_0, .int .i64 a1_1, .int .i64 a1_2, (.slice A1_3 l1_3.length c1_3), (.slice (some ad572) l1_4.length c1_4), (.slice A1_5 l1_5.length c1_5)] 30 (0, 0))) ∧ Aside0 (wc.heap[gb563]? = some (.cells #[.int .i64 t549, .int .i64 t550, .int .i64 t551, (.slice Ao25 t552.length co25), (.slice Ao26 t555.length co26), (.slice Ao27 t558.length co27)] 30 (0, 0))) ∧ Aside0 (wc.heap[gb573]? = some (.cells #[.int .i64 ((a0a l1_4 t561).f0), .int .i64 ((a0a l1_4 t561).f1), .int .i64 ((a0a l1_4 t561).f2)] 43 (0, 0))) ∧ Aside0 (wc.heap[gb575]? = some (.cells #[.int .i64 ((a0a l1_4 x84_3).f0), .int .i64 ((a0a l1_4 x84_3).f1), .int .i64 ((a0a l1_4 x84_3).f2)] 43 (0, 0))) ∧ Aside0 (Below w.heap.size w wc))
                   case first =>
                    have H := HC103.out
                    clear HC103
                    by_cases c104 : x111_69 = true
                    ·subst c104
                     have H1 : (a0b.j4 kj69 t547 t561 t564 t568 x16_48 (wrap64 (x17_3 + (rd t564 x84_3))) (wrap64 (x18_3 + (rd t568 x84_3))) x84_3 x16_48 l1_4 (l1_4.length : Int) x84_3 a1_0 a1_1 a1_2 l1_3 l1_4 l1_5 ((a0a l1_4 t561).f0) ((a0a l1_4 t561).f1) ((a0a l1_4 t561).f2)) = some r := by rw [if_pos rfl] at H; exact H
                     clear H
                     have H := H1
                     clear H1
                     have H' := am_ H
                     clear H
                     go_wp2
                     repeat (go_quiet (fail); try go_wp2)
                     go_meet
                     case rel => exact ⟨_, (x16_48), qs_, H', ⟨by have := HJ10.out; have := HJ48.out; have := HK3.out; have := HJ69.out; first | omega | exact Nat.le_refl _⟩, ⟨by (with_reducible repeat (first | apply Kd.a0u | apply Kd.a0v | apply Kd.a0q)); exact HO_11.out⟩, ⟨by (with_reducible repeat (first | apply Kd.a0u | apply Kd.a0v | apply Kd.a0q)); exact HO_13.out⟩, ⟨by (with_reducible repeat (first | apply Kd.V_alloc | apply Kd.a0d | apply Kd.a0e)); exact HO_564003.out⟩, ⟨by (with_reducible repeat (first | apply Kd.V_alloc | apply Kd.a0d | apply Kd.a0e)); exact HO_564004.out⟩, ⟨by (with_reducible repeat (first | apply Kd.V_alloc | apply Kd.a0d | apply Kd.a0e)); exact HO_564005.out⟩, ⟨qk_ BK545⟩, ⟨qk_ BK546⟩, ⟨qk_ BK563⟩, ⟨qk_ BK573⟩, ⟨qk_ BK575⟩, ⟨qb_⟩⟩
                    ·replace c104 := be_ c104
                     subst c104
                     have H1 : (a0b.j4 kj69 t547 t561 t564 t568 x16_48 (wrap64 (x17_3 + (rd t564 x84_3))) (wrap64 (x18_3 + (rd t568 x84_3))) x84_3 0 l1_4 (l1_4.length : Int) x84_3 a1_0 a1_1 a1_2 l1_3 l1_4 l1_5 ((a0a l1_4 t561).f0) ((a0a l1_4 t561).f1) ((a0a l1_4 t561).f2)) = some r := by rw [if_neg (show ¬ (false = true) by decide)] at H; exact H
                     clear H
                     have H := H1
                     clear H1
                     have H' := am_ H
                     clear H
                     go_wp2
                     repeat (go_quiet (fail); try go_wp2)
                     go_meet
                     case rel => exact ⟨_, (0), qs_, H', ⟨by have := HJ10.out; have := HJ48.out; have := HK3.out; have := HJ69.out; first | omega | exact Nat.le_refl _⟩, ⟨by (with_reducible repeat (first | apply Kd.a0u | apply Kd.a0v | apply Kd.a0q)); exact HO_11.out⟩, ⟨by (with_reducible repeat (first | apply Kd.a0u | apply Kd.a0v | apply Kd.a0q)); exact HO_13.out⟩, ⟨by (with_reducible repeat (first | apply Kd.V_alloc | apply Kd.a0d | apply Kd.a0e)); exact HO_564003.out⟩, ⟨by (with_reducible repeat (first | apply Kd.V_alloc | apply Kd.a0d | apply Kd.a0e)); exact HO_564004.out⟩, ⟨by (with_reducible repeat (first | apply Kd.V_alloc | apply Kd.a0d | apply Kd.a0e)); exact HO_564005.out⟩, ⟨qk_ BK545⟩, ⟨qk_ BK546⟩, ⟨qk_ BK563⟩, ⟨qk_ BK573⟩, ⟨qk_ BK575⟩, ⟨qb_⟩⟩
                   case rest =>
                    clear HC103
                    try clear c1
                    try clear c2
                    try clear p2
                    try clear c3
                    try clear c4
                    try clear c5
                    try clear p5
                    try clear q5
                    try clear hx5
                    try clear c6
                    try clear p6
                    try clear c7
                    try clear c8
                    try clear c9
                    try clear c10
                    try clear c15
                    try clear c22
                    try clear c23
                    try clear c34
                    try clear c34b0
                    try clear c34b1
                    try clear c35
                    try clear c35b0
                    try clear c35b1
                    try clear c36
                    try clear c36b0
                    try clear c36b1
                    try clear c36b2
                    try clear c38
                    try clear c39
                    try clear c43
                    try clear c44
                    try clear c46
                    try clear c47
                    try clear c47b0
                    try clear c48
                    try clear c48b0
                    try clear c50
                    try clear c51
                    try clear c54
                    try clear c55
                    try clear c56
                    try clear p57
                    try clear q57
                    try clear hx57
                    try clear c58
                    try clear c60
                    try clear c61
                    try clear c62
                    try clear c63
                    try clear p64
                    try clear c65
                    try clear c65b0
                    try clear c66
                    try clear c66b0
                    try clear c67
                    try clear c67b0
                    try clear c68
                    try clear c68b0
                    try clear c69
                    try clear c69b0
                    try clear c72
                    try clear c73
                    try clear c74
                    try clear c75
                    try clear c79
                    try clear c79b0
                    try clear c79b1
                    try clear c81
                    try clear c82
                    try clear c83
                    try clear c84
                    try clear c86
                    try clear c87
                    try clear c88
                    try clear c90
                    try clear c91
                    try clear c94
                    try clear c95
                    try clear c96
                    try clear c97
                    try clear c99
                    try clear c100
                    try clear c101
                    try clear c104
                    try clear z'102_0 z'102_1 z'102_2
                    try clear z'16_0 z'16_1 z'16_2 z'16_3 z'16_4
                    try clear z'17_0 z'17_1 z'17_2 z'17_3 z'17_4 z'17_5
                    try clear z'19_0 z'19_1 z'19_2 z'19_3 z'19_4 z'19_5
                    try clear z'24_0 z'24_1 z'24_2 z'24_3 z'24_4 z'24_5
                    try clear z'28_0 z'28_1 z'28_2 z'28_3 z'28_4
                    try clear z'29_0 z'29_1 z'29_2 z'29_3 z'29_4 z'29_5
                    try clear z'31_0 z'31_1 z'31_2 z'31_3 z'31_4
                    try clear z'32_0 z'32_1 z'32_2 z'32_3 z'32_4 z'32_5
                    try clear z'40_0 z'40_1 z'40_2 z'40_3 z'40_4 z'40_5
                    try clear z'45_0 z'45_1 z'45_2 z'45_3 z'45_4 z'45_5
                    try clear z'52_0 z'52_1 z'52_2 z'52_3 z'52_4 z'52_5
                    try clear z'57_0 z'57_1 z'57_2
                    try clear z'59_0 z'59_1 z'59_2 z'59_3 z'59_4
                    try clear z'64_0 z'64_1 z'64_2 z'64_3 z'64_4 z'64_5
                    try clear z'76_0 z'76_1 z'76_2
                    try clear z'85_0 z'85_1 z'85_2
                    try clear z'89_0 z'89_1 z'89_2
                    try clear z'92_0 z'92_1 z'92_2 z'92_3 z'92_4 z'92_5
                    try clear z'98_0 z'98_1 z'98_2
                    try clear y'102_0 y'102_1 y'102_2
                    try clear y'16_0 y'16_1 y'16_2 y'16_3 y'16_4
                    try clear y'17_0 y'17_1 y'17_2 y'17_3 y'17_4 y'17_5
                    try clear y'19_0 y'19_1 y'19_2 y'19_3 y'19_4 y'19_5
                    try clear y'24_0 y'24_1 y'24_2 y'24_3 y'24_4 y'24_5
                    try clear y'28_0 y'28_1 y'28_2 y'28_3 y'28_4
                    try clear y'29_0 y'29_1 y'29_2 y'29_3 y'29_4 y'29_5
                    try clear y'31_0 y'31_1 y'31_2 y'31_3 y'31_4
                    try clear y'32_0 y'32_1 y'32_2 y'32_3 y'32_4 y'32_5
                    try clear y'40_0 y'40_1 y'40_2 y'40_3 y'40_4 y'40_5
                    try clear y'45_0 y'45_1 y'45_2 y'45_3 y'45_4 y'45_5
                    try clear y'52_0 y'52_1 y'52_2 y'52_3 y'52_4 y'52_5
                    try clear y'57_0 y'57_1 y'57_2
                    try clear y'59_0 y'59_1 y'59_2 y'59_3 y'59_4
                    try clear y'64_0 y'64_1 y'64_2 y'64_3 y'64_4 y'64_5
                    try clear y'76_0 y'76_1 y'76_2
                    try clear y'85_0 y'85_1 y'85_2
                    try clear y'89_0 y'89_1 y'89_2
                    try clear y'92_0 y'92_1 y'92_2 y'92_3 y'92_4 y'92_5
                    try clear y'98_0 y'98_1 y'98_2
                    try clear hx572_0
                    try clear hx572_1
                    try clear hx572_2
                    try clear hx574_0
                    try clear hx574_1
                    try clear hx574_2
                    try clear hx576_0
                    try clear hx577_0
                    try clear p2
                    try clear p5
                    try clear p57
                    try clear p572
                    try clear p574
                    try clear p576
                    try clear p577
                    try clear p6
                    try clear p64
                    try clear q5
                    try clear q57
                    try clear q572
                    try clear q574
                    try clear q576
                    try clear q577
                    obtain ⟨kq, x21_102, rfl, HA, HJ102, HO_11, HO_13, HO_564003, HO_564004, HO_564005, BK545, BK546, BK563, BK573, BK575, HB⟩ := hcut
                    cases kq with
                    | zero => exact absurd HA.out (by simp [a0b.j4])
                    | succ kj102 =>
                     have H := HA.out
                     clear HA
                     simp only [a0b.j4] at H
                     have HC105 := am_ H
                     clear H
                     go_upto_region 24 with (fail)
                     repeat (go_quiet (fail); go_upto_region 24 with (fail))
                     go_cut [141] (fun v141 wc => ∃ (kq : Nat) (x141_104 : Bool), v141 = .bool x141_104 ∧ Aside0 (a0b.j5 kq t547 t561 t564 t568 x16_48 (wrap64 (x17_3 + (rd t564 x84_3))) (wrap64 (x18_3 + (rd t568 x84_3))) l1_4 (l1_4.length : Int) x84_3 x141_104 a1_0 a1_1 a1_2 l1_3 l1_4 l1_5 ((a0a l1_4 t561).f0) ((a0a l1_4 t561).f1) ((a0a l1_4 t561).f2) = some r) ∧ Aside0 (kq ≤ kj102) ∧ Aside0 (Kd.R (Kd.int .i64) 3 wc w.heap.size (fun k_ => some k_ ≠ ((.slice (some ad577) t568.length co78) : Value).ownBlock) (.slice (some ad576) t564.length co77) t564) ∧ Aside0 (Kd.R (Kd.int .i64) 3 wc w.heap.size (fun k_ => some k_ ≠ ((.slice (some ad576) t564.length co77) : Value).ownBlock) (.slice (some ad577) t568.length co78) t568) ∧ Aside0 (Kd.V Kd.string 9 wc w.heap.size (fun k_ => some k_ ≠ ((.slice (some ad576) t564.length co77) : Value).ownBlock ∧ some k_ ≠ ((.slice (some ad577) t568.length co78) : Value).ownBlock ∧ k_ ≠ gb545 ∧ k_ ≠ gb546 ∧ k_ ≠ gb563 ∧ k_ ≠ gb573 ∧ k_ ≠ gb575) (.slice Ao25 t552.length co25) t552) ∧ Aside0 (Kd.V k43 43 wc w.heap.size (fun k_ => some k_ ≠ ((.slice (some ad576) t564.length co77) : Value).ownBlock ∧ some k_ ≠ ((.slice (some ad577) t568.length co78) : Value).ownBlock ∧ k_ ≠ gb545 ∧ k_ ≠ gb546 ∧ k_ ≠ gb563 ∧ k_ ≠ gb573 ∧ k_ ≠ gb575) (.slice Ao26 t555.length co26) t555) ∧ Aside0 (Kd.V (Kd.int .i64) 3 wc w.heap.size (fun k_ => some k_ ≠ ((.slice (some ad576) t564.length co77) : Value).ownBlock ∧ some k_ ≠ ((.slice (some ad577) t568.length co78) : Value).ownBlock ∧ k_ ≠ gb545 ∧ k_ ≠ gb546 ∧ k_ ≠ gb563 ∧ k_ ≠ gb573 ∧ k_ ≠ gb575) (.slice Ao27 t558.length co27) t558) ∧ Aside0 (wc.heap[gb545]? = some (.cells #[.int .i64 a0_0, .int .i64 a0_1, .int .i64 a0_2, .int .i64 a0_3, .bool a0_4] 25 (0, 0))) ∧ Aside0 (wc.heap[gb546]? = some (.cells #[.int .i64 a1_0, .int .i64 a1_1, .int .i64 a1_2, (.slice A1_3 l1_3.length c1_3), (.slice (some ad572) l1_4.length c1_4), (.slice A1_5 l1_5.length c1_5)] 30 (0, 0))) ∧ Aside0 (wc.heap[gb563]? = some (.cells #[.int .i64 t549, .int .i64 t550, .int .i64 t551, (.slice Ao25 t552.length co25), (.slice Ao26 t555.length co26), (.slice Ao27 t558.length co27)] 30 (0, 0))) ∧ Aside0 (wc.heap[gb573]? = some (.cells #[.int .i64 ((a0a l1_4 t561).f0), .int .i64 ((a0a l1_4 t561).f1), .int .i64 ((a0a l1_4 t561).f2)] 43 (0, 0))) ∧ Aside0 (wc.heap[gb575]? = some (.cells #[.int .i64 ((a0a l1_4 x84_3).f0), .int .i64 ((a0a l1_4 x84_3).f1), .int .i64 ((a0a l1_4 x84_3).f2)] 43 (0, 0))) ∧ Aside0 (Below w.heap.size w wc))
                     case first =>
                      have H := HC105.out
                      clear HC105
                      by_cases c106 : x84_3 = t561
                      ·rw [if_pos c106] at H
                       have c106b0 : (x84_3 == t561) = true := beq_iff_eq.mpr c106
                       have c106b1 : (x84_3 != t561) = false := bne_eq_false_iff_eq.mpr c106
                       clear c106
                       (first | rw [c106b0] | (simp only [a3b, a3n]; rw [c106b0]) | skip)
                       by_cases c107 : 0 ≤ x84_3
                       ·rw [if_pos c107] at H
                        have c107b0 : decide (0 ≤ x84_3) = true := decide_eq_true c107
                        clear c107
                        by_cases c108 : x84_3 < (t568.length : Int)
                        ·rw [if_pos c108] at H
                         have c108b0 : decide (x84_3 < (t568.length : Int)) = true := decide_eq_true c108
                         clear c108
                         by_cases c109 : (rd t568 x84_3) < x16_48
                         ·rw [if_pos c109] at H
                          have c109b0 : decide ((rd t568 x84_3) < x16_48) = true := decide_eq_true c109
                          clear c109
                          have H' := am_ H
                          clear H
                          have p579 : 0 ≤ (x84_3 : Int) := ot_
                          have q579 : x84_3 < (t568.length : Int) := ot_
                          obtain ⟨ad579, e579, hx579_0⟩ := Kd.a2i (Kd.a0s HO_13.out).2.2 x84_3 p579 q579
                          obtain rfl : ad577 = ad579 := (by injection e579)
                          replace p579 := eq_true p579
                          replace q579 := eq_true q579
                          go_wp2
                          repeat (go_quiet (fail); try go_wp2)
                          go_meet
                          case rel => exact ⟨_, (true), qs_, H', ⟨by have := HJ10.out; have := HJ48.out; have := HK3.out; have := HJ69.out; have := HJ102.out; first | omega | exact Nat.le_refl _⟩, ⟨by (with_reducible repeat (first | apply Kd.a0u | apply Kd.a0v | apply Kd.a0q)); exact HO_11.out⟩, ⟨by (with_reducible repeat (first | apply Kd.a0u | apply Kd.a0v | apply Kd.a0q)); exact HO_13.out⟩, ⟨by (with_reducible repeat (first | apply Kd.V_alloc | apply Kd.a0d | apply Kd.a0e)); exact HO_564003.out⟩, ⟨by (with_reducible repeat (first | apply Kd.V_alloc | apply Kd.a0d | apply Kd.a0e)); exact HO_564004.out⟩, ⟨by (with_reducible repeat (first | apply Kd.V_alloc | apply Kd.a0d | apply Kd.a0e)); exact HO_564005.out⟩, ⟨qk_ BK545⟩, ⟨qk_ BK546⟩, ⟨qk_ BK563⟩, ⟨qk_ BK573⟩, ⟨qk_ BK575⟩, ⟨qb_⟩⟩
                         ·rw [if_neg c109] at H
                          have c109b0 : decide ((rd t568 x84_3) < x16_48) = false := decide_eq_false c109
                          clear c109
                          have H' := am_ H
                          clear H
                          have p579 : 0 ≤ (x84_3 : Int) := ot_
                          have q579 : x84_3 < (t568.length : Int) := ot_
                          obtain ⟨ad579, e579, hx579_0⟩ := Kd.a2i (Kd.a0s HO_13.out).2.2 x84_3 p579 q579
                          obtain rfl : ad577 = ad579 := (by injection e579)
                          replace p579 := eq_true p579
                          replace q579 := eq_true q579
                          go_wp2
                          repeat (go_quiet (fail); try go_wp2)
                          go_meet
                          case rel => exact ⟨_, (false), qs_, H', ⟨by have := HJ10.out; have := HJ48.out; have := HK3.out; have := HJ69.out; have := HJ102.out; first | omega | exact Nat.le_refl _⟩, ⟨by (with_reducible repeat (first | apply Kd.a0u | apply Kd.a0v | apply Kd.a0q)); exact HO_11.out⟩, ⟨by (with_reducible repeat (first | apply Kd.a0u | apply Kd.a0v | apply Kd.a0q)); exact HO_13.out⟩, ⟨by (with_reducible repeat (first | apply Kd.V_alloc | apply Kd.a0d | apply Kd.a0e)); exact HO_564003.out⟩, ⟨by (with_reducible repeat (first | apply Kd.V_alloc | apply Kd.a0d | apply Kd.a0e)); exact HO_564004.out⟩, ⟨by (with_reducible repeat (first | apply Kd.V_alloc | apply Kd.a0d | apply Kd.a0e)); exact HO_564005.out⟩, ⟨qk_ BK545⟩, ⟨qk_ BK546⟩, ⟨qk_ BK563⟩, ⟨qk_ BK573⟩, ⟨qk_ BK575⟩, ⟨qb_⟩⟩
                        ·rw [if_neg c108] at H
                         exact absurd H (by simp)
                       ·rw [if_neg c107] at H
                        exact absurd H (by simp)
                      ·rw [if_neg c106] at H
                       have c106b0 : (x84_3 == t561) = false := beq_eq_false_iff_ne.mpr c106
                       have c106b1 : (x84_3 != t561) = true := bne_iff_ne.mpr c106
                       (first | rw [c106b0] | (simp only [a3b, a3n]; rw [c106b0]) | skip)
                       by_cases c110 : 0 ≤ x84_3
                       ·rw [if_pos c110] at H
                        have c110b0 : decide (0 ≤ x84_3) = true := decide_eq_true c110
                        clear c110
                        by_cases c111 : x84_3 < (t568.length : Int)
                        ·rw [if_pos c111] at H
                         have c111b0 : decide (x84_3 < (t568.length : Int)) = true := decide_eq_true c111
                         clear c111
                         by_cases c112 : x84_3 < (t564.length : Int)
                         ·rw [if_pos c112] at H
                          have c112b0 : decide (x84_3 < (t564.length : Int)) = true := decide_eq_true c112
                          clear c112
                          have H' := am_ H
                          clear H
                          have p580 : 0 ≤ (x84_3 : Int) := ot_
                          have q580 : x84_3 < (t568.length : Int) := ot_
                          obtain ⟨ad580, e580, hx580_0⟩ := Kd.a2i (Kd.a0s HO_13.out).2.2 x84_3 p580 q580
                          obtain rfl : ad577 = ad580 := (by injection e580)
                          replace p580 := eq_true p580
                          replace q580 := eq_true q580
                          have p581 : 0 ≤ (x84_3 : Int) := ot_
                          have q581 : x84_3 < (t564.length : Int) := ot_
                          obtain ⟨ad581, e581, hx581_0⟩ := Kd.a2i (Kd.a0s HO_11.out).2.2 x84_3 p581 q581
                          obtain rfl : ad576 = ad581 := (by injection e581)
                          replace p581 := eq_true p581
                          replace q581 := eq_true q581
                          go_wp2
                          repeat (go_quiet (fail); try go_wp2)
                          go_meet
                          case rel => exact ⟨_, (((rd t568 x84_3) != (wrap64 ((rd t564 x84_3) - x21_102)))), qs_, H', ⟨by have := HJ10.out; have := HJ48.out; have := HK3.out; have := HJ69.out; have := HJ102.out; first | omega | exact Nat.le_refl _⟩, ⟨by (with_reducible repeat (first | apply Kd.a0u | apply Kd.a0v | apply Kd.a0q)); exact HO_11.out⟩, ⟨by (with_reducible repeat (first | apply Kd.a0u | apply Kd.a0v | apply Kd.a0q)); exact HO_13.out⟩, ⟨by (with_reducible repeat (first | apply Kd.V_alloc | apply Kd.a0d | apply Kd.a0e)); exact HO_564003.out⟩, ⟨by (with_reducible repeat (first | apply Kd.V_alloc | apply Kd.a0d | apply Kd.a0e)); exact HO_564004.out⟩, ⟨by (with_reducible repeat (first | apply Kd.V_alloc | apply Kd.a0d | apply Kd.a0e)); exact HO_564005.out⟩, ⟨qk_ BK545⟩, ⟨qk_ BK546⟩, ⟨qk_ BK563⟩, ⟨qk_ BK573⟩, ⟨qk_ BK575⟩, ⟨qb_⟩⟩
                         ·rw [if_neg c112] at H
                          exact absurd H (by simp)
                        ·rw [if_neg c111] at H
                         exact absurd H (by simp)
                       ·rw [if_neg c110] at H
                        exact absurd H (by simp)
                     case rest =>
                      clear HC105
                      try clear c1
                      try clear c2
                      try clear p2
                      try clear c3
                      try clear c4
                      try clear c5
                      try clear p5
                      try clear q5
                      try clear hx5
                      try clear c6
                      try clear p6
                      try clear c7
                      try clear c8
                      try clear c9
                      try clear c10
                      try clear c11
                      try clear c15
                      try clear c22
                      try clear c23
                      try clear c34
                      try clear c34b0
                      try clear c34b1
                      try clear c35
                      try clear c35b0
                      try clear c35b1
                      try clear c36
                      try clear c36b0
                      try clear c36b1
                      try clear c36b2
                      try clear c38
                      try clear c39
                      try clear c43
                      try clear c44
                      try clear c46
                      try clear c47
                      try clear c47b0
                      try clear c48
                      try clear c48b0
                      try clear c50
                      try clear c51
                      try clear c54
                      try clear c55
                      try clear c56
                      try clear p57
                      try clear q57
                      try clear hx57
                      try clear c58
                      try clear p58
                      try clear q58
                      try clear hx58
                      try clear c60
                      try clear c61
                      try clear c62
                      try clear c63
                      try clear p64
                      try clear c65
                      try clear c65b0
                      try clear c66
                      try clear c66b0
                      try clear c67
                      try clear c67b0
                      try clear c68
                      try clear c68b0
                      try clear c69
                      try clear c69b0
                      try clear c72
                      try clear c73
                      try clear c74
                      try clear c75
                      try clear c79
                      try clear c79b0
                      try clear c79b1
                      try clear c81
                      try clear c82
                      try clear c83
                      try clear c84
                      try clear c86
                      try clear c87
                      try clear c88
                      try clear c90
                      try clear c91
                      try clear c94
                      try clear c95
                      try clear c96
                      try clear c97
                      try clear c99
                      try clear c100
                      try clear c101
                      try clear c104
                      try clear c106
                      try clear c106b0
                      try clear c106b1
                      try clear c107
                      try clear c107b0
                      try clear c108
                      try clear c108b0
                      try clear c109
                      try clear c109b0
                      try clear c110
                      try clear c110b0
                      try clear c111
                      try clear c111b0
                      try clear c112
                      try clear c112b0
                      try clear z'102_0 z'102_1 z'102_2
                      try clear z'16_0 z'16_1 z'16_2 z'16_3 z'16_4
                      try clear z'17_0 z'17_1 z'17_2 z'17_3 z'17_4 z'17_5
                      try clear z'19_0 z'19_1 z'19_2 z'19_3 z'19_4 z'19_5
                      try clear z'24_0 z'24_1 z'24_2 z'24_3 z'24_4 z'24_5
                      try clear z'28_0 z'28_1 z'28_2 z'28_3 z'28_4
                      try clear z'29_0 z'29_1 z'29_2 z'29_3 z'29_4 z'29_5
                      try clear z'31_0 z'31_1 z'31_2 z'31_3 z'31_4
                      try clear z'32_0 z'32_1 z'32_2 z'32_3 z'32_4 z'32_5
                      try clear z'40_0 z'40_1 z'40_2 z'40_3 z'40_4 z'40_5
                      try clear z'45_0 z'45_1 z'45_2 z'45_3 z'45_4 z'45_5
                      try clear z'52_0 z'52_1 z'52_2 z'52_3 z'52_4 z'52_5
                      try clear z'57_0 z'57_1 z'57_2
                      try clear z'59_0 z'59_1 z'59_2 z'59_3 z'59_4
                      try clear z'64_0 z'64_1 z'64_2 z'64_3 z'64_4 z'64_5
                      try clear z'76_0 z'76_1 z'76_2
                      try clear z'85_0 z'85_1 z'85_2
                      try clear z'89_0 z'89_1 z'89_2
                      try clear z'92_0 z'92_1 z'92_2 z'92_3 z'92_4 z'92_5
                      try clear z'98_0 z'98_1 z'98_2
                      try clear y'102_0 y'102_1 y'102_2
                      try clear y'16_0 y'16_1 y'16_2 y'16_3 y'16_4
                      try clear y'17_0 y'17_1 y'17_2 y'17_3 y'17_4 y'17_5
                      try clear y'19_0 y'19_1 y'19_2 y'19_3 y'19_4 y'19_5
                      try clear y'24_0 y'24_1 y'24_2 y'24_3 y'24_4 y'24_5
                      try clear y'28_0 y'28_1 y'28_2 y'28_3 y'28_4
                      try clear y'29_0 y'29_1 y'29_2 y'29_3 y'29_4 y'29_5
                      try clear y'31_0 y'31_1 y'31_2 y'31_3 y'31_4
                      try clear y'32_0 y'32_1 y'32_2 y'32_3 y'32_4 y'32_5
                      try clear y'40_0 y'40_1 y'40_2 y'40_3 y'40_4 y'40_5
                      try clear y'45_0 y'45_1 y'45_2 y'45_3 y'45_4 y'45_5
                      try clear y'52_0 y'52_1 y'52_2 y'52_3 y'52_4 y'52_5
                      try clear y'57_0 y'57_1 y'57_2
                      try clear y'59_0 y'59_1 y'59_2 y'59_3 y'59_4
                      try clear y'64_0 y'64_1 y'64_2 y'64_3 y'64_4 y'64_5
                      try clear y'76_0 y'76_1 y'76_2
                      try clear y'85_0 y'85_1 y'85_2
                      try clear y'89_0 y'89_1 y'89_2
                      try clear y'92_0 y'92_1 y'92_2 y'92_3 y'92_4 y'92_5
                      try clear y'98_0 y'98_1 y'98_2
                      try clear hx572_0
                      try clear hx572_1
                      try clear hx572_2
                      try clear hx574_0
                      try clear hx574_1
                      try clear hx574_2
                      try clear hx576_0
                      try clear hx577_0
                      try clear hx579_0
                      try clear hx580_0
                      try clear hx581_0
                      try clear p2
                      try clear p5
                      try clear p57
                      try clear p572
                      try clear p574
                      try clear p576
                      try clear p577
                      try clear p579
                      try clear p580
                      try clear p581
                      try clear p6
                      try clear p64
                      try clear q5
                      try clear q57
                      try clear q572
                      try clear q574
                      try clear q576
                      try clear q577
                      try clear q579
                      try clear q580
                      try clear q581
                      obtain ⟨kq, x141_104, rfl, HA, HJ104, HO_11, HO_13, HO_564003, HO_564004, HO_564005, BK545, BK546, BK563, BK573, BK575, HB⟩ := hcut
                      cases kq with
                      | zero => exact absurd HA.out (by simp [a0b.j5])
                      | succ kj104 =>
                       have H := HA.out
                       clear HA
                       simp only [a0b.j5] at H
                       by_cases c113 : x141_104 = true
                       ·subst c113
                        have H1 : (some false) = some r := by rw [if_pos rfl] at H; exact H
                        clear H
                        have H := H1
                        clear H1
                        obtain rfl := si_ H
                        go_wp2
                        repeat (go_quiet (fail); try go_wp2)
                        go_ret
                        exact ⟨qx_, qb_⟩
                       ·replace c113 := be_ c113
                        subst c113
                        have H1 : (a0b.l0 kj104 t547 t561 t564 t568 x16_48 (wrap64 (x17_3 + (rd t564 x84_3))) (wrap64 (x18_3 + (rd t568 x84_3))) l1_4 (l1_4.length : Int) (wrap64 (x84_3 + 1)) a1_0 a1_1 a1_2 l1_3 l1_4 l1_5 ((a0a l1_4 t561).f0) ((a0a l1_4 t561).f1) ((a0a l1_4 t561).f2)) = some r := by rw [if_neg (show ¬ (false = true) by decide)] at H; exact H
                        clear H
                        have H := H1
                        clear H1
                        have H' := am_ H
                        clear H
                        go_wp2
                        repeat (go_quiet (fail); try go_wp2)
                        go_roundg kj104
                        case measure => have := HJ10.out; have := HJ48.out; have := HK3.out; have := HJ69.out; have := HJ102.out; have := HJ104.out; omega
                        case rel => exact ⟨((wrap64 (x17_3 + (rd t564 x84_3)))), ((wrap64 (x18_3 + (rd t568 x84_3)))), (wrap64 (x84_3 + 1)), qs_, qs_, qs_, H', ⟨by have := HJ10.out; have := HJ48.out; have := HK3.out; have := HJ69.out; have := HJ102.out; have := HJ104.out; omega⟩, ⟨by (with_reducible repeat (first | apply Kd.a0u | apply Kd.a0v | apply Kd.a0q)); exact HO_11.out⟩, ⟨by (with_reducible repeat (first | apply Kd.a0u | apply Kd.a0v | apply Kd.a0q)); exact HO_13.out⟩, ⟨by (with_reducible repeat (first | apply Kd.V_alloc | apply Kd.a0d | apply Kd.a0e)); exact Kd.a0i HO_564003.out (fun _ hk => ⟨hk.1, ⟨hk.2.1, ⟨hk.2.2.1, ⟨hk.2.2.2.1, ⟨hk.2.2.2.2.1, hk.2.2.2.2.2.1⟩⟩⟩⟩⟩)⟩, ⟨by (with_reducible repeat (first | apply Kd.V_alloc | apply Kd.a0d | apply Kd.a0e)); exact Kd.a0i HO_564004.out (fun _ hk => ⟨hk.1, ⟨hk.2.1, ⟨hk.2.2.1, ⟨hk.2.2.2.1, ⟨hk.2.2.2.2.1, hk.2.2.2.2.2.1⟩⟩⟩⟩⟩)⟩, ⟨by (with_reducible repeat (first | apply Kd.V_alloc | apply Kd.a0d | apply Kd.a0e)); exact Kd.a0i HO_564005.out (fun _ hk => ⟨hk.1, ⟨hk.2.1, ⟨hk.2.2.1, ⟨hk.2.2.2.1, ⟨hk.2.2.2.2.1, hk.2.2.2.2.2.1⟩⟩⟩⟩⟩)⟩, ⟨qk_ BK545⟩, ⟨qk_ BK546⟩, ⟨qk_ BK563⟩, ⟨qk_ BK573⟩, ⟨qb_⟩⟩
                ·rw [if_neg c69] at H
                 exact absurd H (by simp)
               ·rw [if_neg c68] at H
                exact absurd H (by simp)
              ·rw [if_neg c67] at H
               exact absurd H (by simp)
             ·rw [if_neg c66] at H
              exact absurd H (by simp)
            ·rw [if_neg c65] at H
             have c65b0 : decide (x84_3 < (l1_4.length : Int)) = false := decide_eq_false c65
             clear c65
             by_cases c114 : t547 = true
             ·subst c114
              have H1 : (some (decide (x18_3 ≥ x17_3))) = some r := by rw [if_pos rfl] at H; exact H
              clear H
              have H := H1
              clear H1
              obtain rfl := si_ H
              go_wp2
              repeat (go_quiet (fail); try go_wp2)
              go_ret
              exact ⟨qx_, qb_⟩
             ·replace c114 := be_ c114
              subst c114
              have H1 : (some false) = some r := by rw [if_neg (show ¬ (false = true) by decide)] at H; exact H
              clear H
              have H := H1
              clear H1
              obtain rfl := si_ H
              go_wp2
              repeat (go_quiet (fail); try go_wp2)
              go_ret
              exact ⟨qx_, qb_⟩
       ·rw [if_neg c48] at H
        exact absurd H (by simp)
      ·rw [if_neg c47] at H
       exact absurd H (by simp)
  ·replace c8 := be_ c8
   subst c8
   have H1 : (some t547) = some r := by rw [if_neg (show ¬ (false = true) by decide)] at H; exact H
   clear H
   have H := H1
   clear H1
   obtain rfl := si_ H
   go_enter Try.func5, Try.ntmps5
   go_wp2_with (first | ((with_reducible refine a0h (N := 3) rfl ?_); (try (refine a1p (by rfl) ?_; dsimp only)); refine qev_ 3 #[.int .i64 a0_0, .int .i64 a0_1, .int .i64 a0_2, .int .i64 a0_3, .bool a0_4] 25 ?_; intro gb545 hg w115 hbox hb; have BK545 := am_ (hbox); have GW545 := qga_ hg; have GE545 := qga_ hg; replace HB := qbs_ hb; clear hb hbox hg) | ((with_reducible refine a0h (N := 4) rfl ?_); (try (refine a1p (by rfl) ?_; dsimp only)); refine qev_ 4 #[.int .i64 a1_0, .int .i64 a1_1, .int .i64 a1_2, .slice A1_3 l1_3.length c1_3, .slice A1_4 l1_4.length c1_4, .slice A1_5 l1_5.length c1_5] 30 ?_; intro gb546 hg w116 hbox hb; have BK546 := am_ (hbox); have GW546 := qga_ hg; have GE546 := qga_ hg; replace HB := qbs_ hb; have NB545_546 := am_ ((by rw [hg]; exact Nat.ne_of_lt (a0l (qk_ BK545)) : gb545 ≠ gb546)); have NB546_545 := am_ ((by rw [hg]; exact Nat.ne_of_gt (a0l (qk_ BK545)) : gb546 ≠ gb545)); replace BK545 := qkb_ BK545 hb; clear hb hbox hg) | (go_at_call 11; (with_reducible refine (a0m.calls k  t547 _ A4.out).mono ?_); rintro e w117 ⟨rfl, hb⟩; replace BK545 := qkb_ BK545 hb; replace BK546 := qkb_ BK546 hb; replace HB := qbs_ hb; (try clear hb); (try clear hb2); (try clear hk); (try clear hi); have hnb118 := NB545_546.out; have hnc118 := NB546_545.out; obtain ⟨z'119_0, z'119_1, z'119_2, z'119_3, z'119_4⟩ := qz5_ BK545; obtain ⟨y'119_0, y'119_1, y'119_2, y'119_3, y'119_4⟩ := qf5_ BK545; obtain ⟨z'120_0, z'120_1, z'120_2, z'120_3, z'120_4, z'120_5⟩ := qz6_ BK546; obtain ⟨y'120_0, y'120_1, y'120_2, y'120_3, y'120_4, y'120_5⟩ := qf6_ BK546) | (go_at_call 22; (with_reducible refine (a2v.calls k a0_0 a0_1 a0_2 a0_3 a0_4 a1_0 a1_1 a1_2 _ _ l1_3 _ _ l1_4 _ _ l1_5 true _ ?s1 ?s2 ?s3 ?s4 ?s5 ?s6 A5.out).mono ?_); (case s1 => exact qc_ HR1_3); (case s2 => exact HC1_3.out); (case s3 => exact qc_ HR1_4); (case s4 => exact HC1_4.out); (case s5 => exact qc_ HR1_5); (case s6 => exact HC1_5.out); rintro e w121 ⟨rfl, hb⟩; replace BK545 := qkb_ BK545 hb; replace BK546 := qkb_ BK546 hb; replace HB := qbs_ hb; (try clear hb); (try clear hb2); (try clear hk); (try clear hi); obtain ⟨z'122_0, z'122_1, z'122_2, z'122_3, z'122_4, z'122_5⟩ := qz6_ BK546; obtain ⟨y'122_0, y'122_1, y'122_2, y'122_3, y'122_4, y'122_5⟩ := qf6_ BK546) | (go_at_call 24; (with_reducible refine (a1j.calls k a1_0 a1_1 a1_2 (fun k_ => k_ < w.heap.size) _ _ l1_3 (fun k_ => k_ < w.heap.size) _ _ l1_4 (fun k_ => k_ < w.heap.size) _ _ l1_5 a2 t549 t550 t551 t552 t555 t558 t561 false _ ?s1 ?s2 ?s3 A7.out).mono ?_); (case s1 => exact Kd.V_mk HC1_3.out (Kd.a3t (Kd.C_F Kd.a5t HR1_3.out) qb_)); (case s2 => exact Kd.V_mk HC1_4.out (Kd.a3t (Kd.C_F a6n HR1_4.out) qb_)); (case s3 => exact Kd.V_mk HC1_5.out (Kd.a3t (Kd.C_F (Kd.a5r .i64) HR1_5.out) qb_)); rintro e w123 ⟨v553, v556, v559, rfl, ho0, ho1, ho2, hb⟩; have HO554 := am_ (Kd.a4h (Kd.a0i (ok' := fun k_ => k_ ≠ gb545 ∧ k_ ≠ gb546) ho0 (fun k_ hk_ => ⟨Or.elim hk_ (fun hs_ => Or.elim hs_ (fun hs_ => fun e_ => Nat.not_le.2 hs_ (by rw [e_]; exact GW545.out)) (fun hs_ => Or.elim hs_ (fun hs_ => fun e_ => Nat.not_le.2 hs_ (by rw [e_]; exact GW545.out)) (fun hs_ => fun e_ => Nat.not_le.2 hs_ (by rw [e_]; exact GW545.out)))) (fun hn_ => (Kd.a3a (g := gb545) (o := .cells #[.int .i64 a0_0, .int .i64 a0_1, .int .i64 a0_2, .int .i64 a0_3, .bool a0_4] 25 (0, 0)) (qk_ BK545) k_ hn_)), Or.elim hk_ (fun hs_ => Or.elim hs_ (fun hs_ => fun e_ => Nat.not_le.2 hs_ (by rw [e_]; exact GW546.out)) (fun hs_ => Or.elim hs_ (fun hs_ => fun e_ => Nat.not_le.2 hs_ (by rw [e_]; exact GW546.out)) (fun hs_ => fun e_ => Nat.not_le.2 hs_ (by rw [e_]; exact GW546.out)))) (fun hn_ => (Kd.a3a (g := gb546) (o := .cells #[.int .i64 a1_0, .int .i64 a1_1, .int .i64 a1_2, .slice A1_3 l1_3.length c1_3, .slice A1_4 l1_4.length c1_4, .slice A1_5 l1_5.length c1_5] 30 (0, 0)) (qk_ BK546) k_ hn_))⟩)) (a0p qb_)); have HO557 := am_ (Kd.a4h (Kd.a0i (ok' := fun k_ => k_ ≠ gb545 ∧ k_ ≠ gb546) ho1 (fun k_ hk_ => ⟨Or.elim hk_ (fun hs_ => Or.elim hs_ (fun hs_ => fun e_ => Nat.not_le.2 hs_ (by rw [e_]; exact GW545.out)) (fun hs_ => Or.elim hs_ (fun hs_ => fun e_ => Nat.not_le.2 hs_ (by rw [e_]; exact GW545.out)) (fun hs_ => fun e_ => Nat.not_le.2 hs_ (by rw [e_]; exact GW545.out)))) (fun hn_ => (Kd.a3a (g := gb545) (o := .cells #[.int .i64 a0_0, .int .i64 a0_1, .int .i64 a0_2, .int .i64 a0_3, .bool a0_4] 25 (0, 0)) (qk_ BK545) k_ hn_)), Or.elim hk_ (fun hs_ => Or.elim hs_ (fun hs_ => fun e_ => Nat.not_le.2 hs_ (by rw [e_]; exact GW546.out)) (fun hs_ => Or.elim hs_ (fun hs_ => fun e_ => Nat.not_le.2 hs_ (by rw [e_]; exact GW546.out)) (fun hs_ => fun e_ => Nat.not_le.2 hs_ (by rw [e_]; exact GW546.out)))) (fun hn_ => (Kd.a3a (g := gb546) (o := .cells #[.int .i64 a1_0, .int .i64 a1_1, .int .i64 a1_2, .slice A1_3 l1_3.length c1_3, .slice A1_4 l1_4.length c1_4, .slice A1_5 l1_5.length c1_5] 30 (0, 0)) (qk_ BK546) k_ hn_))⟩)) (a0p qb_)); have HO560 := am_ (Kd.a4h (Kd.a0i (ok' := fun k_ => k_ ≠ gb545 ∧ k_ ≠ gb546) ho2 (fun k_ hk_ => ⟨Or.elim hk_ (fun hs_ => Or.elim hs_ (fun hs_ => fun e_ => Nat.not_le.2 hs_ (by rw [e_]; exact GW545.out)) (fun hs_ => Or.elim hs_ (fun hs_ => fun e_ => Nat.not_le.2 hs_ (by rw [e_]; exact GW545.out)) (fun hs_ => fun e_ => Nat.not_le.2 hs_ (by rw [e_]; exact GW545.out)))) (fun hn_ => (Kd.a3a (g := gb545) (o := .cells #[.int .i64 a0_0, .int .i64 a0_1, .int .i64 a0_2, .int .i64 a0_3, .bool a0_4] 25 (0, 0)) (qk_ BK545) k_ hn_)), Or.elim hk_ (fun hs_ => Or.elim hs_ (fun hs_ => fun e_ => Nat.not_le.2 hs_ (by rw [e_]; exact GW546.out)) (fun hs_ => Or.elim hs_ (fun hs_ => fun e_ => Nat.not_le.2 hs_ (by rw [e_]; exact GW546.out)) (fun hs_ => fun e_ => Nat.not_le.2 hs_ (by rw [e_]; exact GW546.out)))) (fun hn_ => (Kd.a3a (g := gb546) (o := .cells #[.int .i64 a1_0, .int .i64 a1_1, .int .i64 a1_2, .slice A1_3 l1_3.length c1_3, .slice A1_4 l1_4.length c1_4, .slice A1_5 l1_5.length c1_5] 30 (0, 0)) (qk_ BK546) k_ hn_))⟩)) (a0p qb_)); replace BK545 := qkb_ BK545 hb; replace BK546 := qkb_ BK546 hb; replace HB := qbs_ hb; (try clear hb); (try clear hb2); (try clear hk); (try clear hi); (try clear ho0); (try clear ho1); (try clear ho2)) | ((with_reducible refine a0h (N := 8) rfl ?_); (try (refine a1p (by rfl) ?_; dsimp only)); refine qev_ 8 #[.int .i64 0, .int .i64 0, .int .i64 0, .slice none 0 0, .slice none 0 0, .slice none 0 0] 30 ?_; intro gb563 hg w124 hbox hb; replace HO554 := am_ (Kd.a1c (Kd.a1l (by (with_reducible repeat (first | apply Kd.V_alloc | apply Kd.a0d | apply Kd.a0e)); exact HO554.out) gb563 (Nat.le_of_eq hg.symm)) hb); replace HO557 := am_ (Kd.a1c (Kd.a1l (by (with_reducible repeat (first | apply Kd.V_alloc | apply Kd.a0d | apply Kd.a0e)); exact HO557.out) gb563 (Nat.le_of_eq hg.symm)) hb); replace HO560 := am_ (Kd.a1c (Kd.a1l (by (with_reducible repeat (first | apply Kd.V_alloc | apply Kd.a0d | apply Kd.a0e)); exact HO560.out) gb563 (Nat.le_of_eq hg.symm)) hb); have BK563 := am_ (hbox); have GW563 := qga_ hg; have GE563 := qga_ hg; replace HB := qbs_ hb; have NB545_563 := am_ ((by rw [hg]; exact Nat.ne_of_lt (a0l (qk_ BK545)) : gb545 ≠ gb563)); have NB563_545 := am_ ((by rw [hg]; exact Nat.ne_of_gt (a0l (qk_ BK545)) : gb563 ≠ gb545)); replace BK545 := qkb_ BK545 hb; have NB546_563 := am_ ((by rw [hg]; exact Nat.ne_of_lt (a0l (qk_ BK546)) : gb546 ≠ gb563)); have NB563_546 := am_ ((by rw [hg]; exact Nat.ne_of_gt (a0l (qk_ BK546)) : gb563 ≠ gb546)); replace BK546 := qkb_ BK546 hb; clear hb hbox hg; have hnb125 := NB563_545.out; have hnc125 := NB545_563.out; have hnb126 := NB563_546.out; have hnc126 := NB546_563.out; obtain ⟨z'127_0, z'127_1, z'127_2, z'127_3, z'127_4, z'127_5⟩ := qz6_ BK563; obtain ⟨y'127_0, y'127_1, y'127_2, y'127_3, y'127_4, y'127_5⟩ := qf6_ BK563; obtain ⟨Ao128, co128, eo128⟩ := Kd.a4g HO554.out; subst eo128; obtain ⟨Ao129, co129, eo129⟩ := Kd.a4g HO557.out; subst eo129; obtain ⟨Ao130, co130, eo130⟩ := Kd.a4g HO560.out; subst eo130))
   repeat (go_quiet (first | ((with_reducible refine a0h (N := 3) rfl ?_); (try (refine a1p (by rfl) ?_; dsimp only)); refine qev_ 3 #[.int .i64 a0_0, .int .i64 a0_1, .int .i64 a0_2, .int .i64 a0_3, .bool a0_4] 25 ?_; intro gb545 hg w115 hbox hb; have BK545 := am_ (hbox); have GW545 := qga_ hg; have GE545 := qga_ hg; replace HB := qbs_ hb; clear hb hbox hg) | ((with_reducible refine a0h (N := 4) rfl ?_); (try (refine a1p (by rfl) ?_; dsimp only)); refine qev_ 4 #[.int .i64 a1_0, .int .i64 a1_1, .int .i64 a1_2, .slice A1_3 l1_3.length c1_3, .slice A1_4 l1_4.length c1_4, .slice A1_5 l1_5.length c1_5] 30 ?_; intro gb546 hg w116 hbox hb; have BK546 := am_ (hbox); have GW546 := qga_ hg; have GE546 := qga_ hg; replace HB := qbs_ hb; have NB545_546 := am_ ((by rw [hg]; exact Nat.ne_of_lt (a0l (qk_ BK545)) : gb545 ≠ gb546)); have NB546_545 := am_ ((by rw [hg]; exact Nat.ne_of_gt (a0l (qk_ BK545)) : gb546 ≠ gb545)); replace BK545 := qkb_ BK545 hb; clear hb hbox hg) | (go_at_call 11; (with_reducible refine (a0m.calls k  t547 _ A4.out).mono ?_); rintro e w117 ⟨rfl, hb⟩; replace BK545 := qkb_ BK545 hb; replace BK546 := qkb_ BK546 hb; replace HB := qbs_ hb; (try clear hb); (try clear hb2); (try clear hk); (try clear hi); have hnb118 := NB545_546.out; have hnc118 := NB546_545.out; obtain ⟨z'119_0, z'119_1, z'119_2, z'119_3, z'119_4⟩ := qz5_ BK545; obtain ⟨y'119_0, y'119_1, y'119_2, y'119_3, y'119_4⟩ := qf5_ BK545; obtain ⟨z'120_0, z'120_1, z'120_2, z'120_3, z'120_4, z'120_5⟩ := qz6_ BK546; obtain ⟨y'120_0, y'120_1, y'120_2, y'120_3, y'120_4, y'120_5⟩ := qf6_ BK546) | (go_at_call 22; (with_reducible refine (a2v.calls k a0_0 a0_1 a0_2 a0_3 a0_4 a1_0 a1_1 a1_2 _ _ l1_3 _ _ l1_4 _ _ l1_5 true _ ?s1 ?s2 ?s3 ?s4 ?s5 ?s6 A5.out).mono ?_); (case s1 => exact qc_ HR1_3); (case s2 => exact HC1_3.out); (case s3 => exact qc_ HR1_4); (case s4 => exact HC1_4.out); (case s5 => exact qc_ HR1_5); (case s6 => exact HC1_5.out); rintro e w121 ⟨rfl, hb⟩; replace BK545 := qkb_ BK545 hb; replace BK546 := qkb_ BK546 hb; replace HB := qbs_ hb; (try clear hb); (try clear hb2); (try clear hk); (try clear hi); obtain ⟨z'122_0, z'122_1, z'122_2, z'122_3, z'122_4, z'122_5⟩ := qz6_ BK546; obtain ⟨y'122_0, y'122_1, y'122_2, y'122_3, y'122_4, y'122_5⟩ := qf6_ BK546) | (go_at_call 24; (with_reducible refine (a1j.calls k a1_0 a1_1 a1_2 (fun k_ => k_ < w.heap.size) _ _ l1_3 (fun k_ => k_ < w.heap.size) _ _ l1_4 (fun k_ => k_ < w.heap.size) _ _ l1_5 a2 t549 t550 t551 t552 t555 t558 t561 false _ ?s1 ?s2 ?s3 A7.out).mono ?_); (case s1 => exact Kd.V_mk HC1_3.out (Kd.a3t (Kd.C_F Kd.a5t HR1_3.out) qb_)); (case s2 => exact Kd.V_mk HC1_4.out (Kd.a3t (Kd.C_F a6n HR1_4.out) qb_)); (case s3 => exact Kd.V_mk HC1_5.out (Kd.a3t (Kd.C_F (Kd.a5r .i64) HR1_5.out) qb_)); rintro e w123 ⟨v553, v556, v559, rfl, ho0, ho1, ho2, hb⟩; have HO554 := am_ (Kd.a4h (Kd.a0i (ok' := fun k_ => k_ ≠ gb545 ∧ k_ ≠ gb546) ho0 (fun k_ hk_ => ⟨Or.elim hk_ (fun hs_ => Or.elim hs_ (fun hs_ => fun e_ => Nat.not_le.2 hs_ (by rw [e_]; exact GW545.out)) (fun hs_ => Or.elim hs_ (fun hs_ => fun e_ => Nat.not_le.2 hs_ (by rw [e_]; exact GW545.out)) (fun hs_ => fun e_ => Nat.not_le.2 hs_ (by rw [e_]; exact GW545.out)))) (fun hn_ => (Kd.a3a (g := gb545) (o := .cells #[.int .i64 a0_0, .int .i64 a0_1, .int .i64 a0_2, .int .i64 a0_3, .bool a0_4] 25 (0, 0)) (qk_ BK545) k_ hn_)), Or.elim hk_ (fun hs_ => Or.elim hs_ (fun hs_ => fun e_ => Nat.not_le.2 hs_ (by rw [e_]; exact GW546.out)) (fun hs_ => Or.elim hs_ (fun hs_ => fun e_ => Nat.not_le.2 hs_ (by rw [e_]; exact GW546.out)) (fun hs_ => fun e_ => Nat.not_le.2 hs_ (by rw [e_]; exact GW546.out)))) (fun hn_ => (Kd.a3a (g := gb546) (o := .cells #[.int .i64 a1_0, .int .i64 a1_1, .int .i64 a1_2, .slice A1_3 l1_3.length c1_3, .slice A1_4 l1_4.length c1_4, .slice A1_5 l1_5.length c1_5] 30 (0, 0)) (qk_ BK546) k_ hn_))⟩)) (a0p qb_)); have HO557 := am_ (Kd.a4h (Kd.a0i (ok' := fun k_ => k_ ≠ gb545 ∧ k_ ≠ gb546) ho1 (fun k_ hk_ => ⟨Or.elim hk_ (fun hs_ => Or.elim hs_ (fun hs_ => fun e_ => Nat.not_le.2 hs_ (by rw [e_]; exact GW545.out)) (fun hs_ => Or.elim hs_ (fun hs_ => fun e_ => Nat.not_le.2 hs_ (by rw [e_]; exact GW545.out)) (fun hs_ => fun e_ => Nat.not_le.2 hs_ (by rw [e_]; exact GW545.out)))) (fun hn_ => (Kd.a3a (g := gb545) (o := .cells #[.int .i64 a0_0, .int .i64 a0_1, .int .i64 a0_2, .int .i64 a0_3, .bool a0_4] 25 (0, 0)) (qk_ BK545) k_ hn_)), Or.elim hk_ (fun hs_ => Or.elim hs_ (fun hs_ => fun e_ => Nat.not_le.2 hs_ (by rw [e_]; exact GW546.out)) (fun hs_ => Or.elim hs_ (fun hs_ => fun e_ => Nat.not_le.2 hs_ (by rw [e_]; exact GW546.out)) (fun hs_ => fun e_ => Nat.not_le.2 hs_ (by rw [e_]; exact GW546.out)))) (fun hn_ => (Kd.a3a (g := gb546) (o := .cells #[.int .i64 a1_0, .int .i64 a1_1, .int .i64 a1_2, .slice A1_3 l1_3.length c1_3, .slice A1_4 l1_4.length c1_4, .slice A1_5 l1_5.length c1_5] 30 (0, 0)) (qk_ BK546) k_ hn_))⟩)) (a0p qb_)); have HO560 := am_ (Kd.a4h (Kd.a0i (ok' := fun k_ => k_ ≠ gb545 ∧ k_ ≠ gb546) ho2 (fun k_ hk_ => ⟨Or.elim hk_ (fun hs_ => Or.elim hs_ (fun hs_ => fun e_ => Nat.not_le.2 hs_ (by rw [e_]; exact GW545.out)) (fun hs_ => Or.elim hs_ (fun hs_ => fun e_ => Nat.not_le.2 hs_ (by rw [e_]; exact GW545.out)) (fun hs_ => fun e_ => Nat.not_le.2 hs_ (by rw [e_]; exact GW545.out)))) (fun hn_ => (Kd.a3a (g := gb545) (o := .cells #[.int .i64 a0_0, .int .i64 a0_1, .int .i64 a0_2, .int .i64 a0_3, .bool a0_4] 25 (0, 0)) (qk_ BK545) k_ hn_)), Or.elim hk_ (fun hs_ => Or.elim hs_ (fun hs_ => fun e_ => Nat.not_le.2 hs_ (by rw [e_]; exact GW546.out)) (fun hs_ => Or.elim hs_ (fun hs_ => fun e_ => Nat.not_le.2 hs_ (by rw [e_]; exact GW546.out)) (fun hs_ => fun e_ => Nat.not_le.2 hs_ (by rw [e_]; exact GW546.out)))) (fun hn_ => (Kd.a3a (g := gb546) (o := .cells #[.int .i64 a1_0, .int .i64 a1_1, .int .i64 a1_2, .slice A1_3 l1_3.length c1_3, .slice A1_4 l1_4.length c1_4, .slice A1_5 l1_5.length c1_5] 30 (0, 0)) (qk_ BK546) k_ hn_))⟩)) (a0p qb_)); replace BK545 := qkb_ BK545 hb; replace BK546 := qkb_ BK546 hb; replace HB := qbs_ hb; (try clear hb); (try clear hb2); (try clear hk); (try clear hi); (try clear ho0); (try clear ho1); (try clear ho2)) | ((with_reducible refine a0h (N := 8) rfl ?_); (try (refine a1p (by rfl) ?_; dsimp only)); refine qev_ 8 #[.int .i64 0, .int .i64 0, .int .i64 0, .slice none 0 0, .slice none 0 0, .slice none 0 0] 30 ?_; intro gb563 hg w124 hbox hb; replace HO554 := am_ (Kd.a1c (Kd.a1l (by (with_reducible repeat (first | apply Kd.V_alloc | apply Kd.a0d | apply Kd.a0e)); exact HO554.out) gb563 (Nat.le_of_eq hg.symm)) hb); replace HO557 := am_ (Kd.a1c (Kd.a1l (by (with_reducible repeat (first | apply Kd.V_alloc | apply Kd.a0d | apply Kd.a0e)); exact HO557.out) gb563 (Nat.le_of_eq hg.symm)) hb); replace HO560 := am_ (Kd.a1c (Kd.a1l (by (with_reducible repeat (first | apply Kd.V_alloc | apply Kd.a0d | apply Kd.a0e)); exact HO560.out) gb563 (Nat.le_of_eq hg.symm)) hb); have BK563 := am_ (hbox); have GW563 := qga_ hg; have GE563 := qga_ hg; replace HB := qbs_ hb; have NB545_563 := am_ ((by rw [hg]; exact Nat.ne_of_lt (a0l (qk_ BK545)) : gb545 ≠ gb563)); have NB563_545 := am_ ((by rw [hg]; exact Nat.ne_of_gt (a0l (qk_ BK545)) : gb563 ≠ gb545)); replace BK545 := qkb_ BK545 hb; have NB546_563 := am_ ((by rw [hg]; exact Nat.ne_of_lt (a0l (qk_ BK546)) : gb546 ≠ gb563)); have NB563_546 := am_ ((by rw [hg]; exact Nat.ne_of_gt (a0l (qk_ BK546)) : gb563 ≠ gb546)); replace BK546 := qkb_ BK546 hb; clear hb hbox hg; have hnb125 := NB563_545.out; have hnc125 := NB545_563.out; have hnb126 := NB563_546.out; have hnc126 := NB546_563.out; obtain ⟨z'127_0, z'127_1, z'127_2, z'127_3, z'127_4, z'127_5⟩ := qz6_ BK563; obtain ⟨y'127_0, y'127_1, y'127_2, y'127_3, y'127_4, y'127_5⟩ := qf6_ BK563; obtain ⟨Ao128, co128, eo128⟩ := Kd.a4g HO554.out; subst eo128; obtain ⟨Ao129, co129, eo129⟩ := Kd.a4g HO557.out; subst eo129; obtain ⟨Ao130, co130, eo130⟩ := Kd.a4g HO560.out; subst eo130)); try go_wp2_with (first | ((with_reducible refine a0h (N := 3) rfl ?_); (try (refine a1p (by rfl) ?_; dsimp only)); refine qev_ 3 #[.int .i64 a0_0, .int .i64 a0_1, .int .i64 a0_2, .int .i64 a0_3, .bool a0_4] 25 ?_; intro gb545 hg w115 hbox hb; have BK545 := am_ (hbox); have GW545 := qga_ hg; have GE545 := qga_ hg; replace HB := qbs_ hb; clear hb hbox hg) | ((with_reducible refine a0h (N := 4) rfl ?_); (try (refine a1p (by rfl) ?_; dsimp only)); refine qev_ 4 #[.int .i64 a1_0, .int .i64 a1_1, .int .i64 a1_2, .slice A1_3 l1_3.length c1_3, .slice A1_4 l1_4.length c1_4, .slice A1_5 l1_5.length c1_5] 30 ?_; intro gb546 hg w116 hbox hb; have BK546 := am_ (hbox); have GW546 := qga_ hg; have GE546 := qga_ hg; replace HB := qbs_ hb; have NB545_546 := am_ ((by rw [hg]; exact Nat.ne_of_lt (a0l (qk_ BK545)) : gb545 ≠ gb546)); have NB546_545 := am_ ((by rw [hg]; exact Nat.ne_of_gt (a0l (qk_ BK545)) : gb546 ≠ gb545)); replace BK545 := qkb_ BK545 hb; clear hb hbox hg) | (go_at_call 11; (with_reducible refine (a0m.calls k  t547 _ A4.out).mono ?_); rintro e w117 ⟨rfl, hb⟩; replace BK545 := qkb_ BK545 hb; replace BK546 := qkb_ BK546 hb; replace HB := qbs_ hb; (try clear hb); (try clear hb2); (try clear hk); (try clear hi); have hnb118 := NB545_546.out; have hnc118 := NB546_545.out; obtain ⟨z'119_0, z'119_1, z'119_2, z'119_3, z'119_4⟩ := qz5_ BK545; obtain ⟨y'119_0, y'119_1, y'119_2, y'119_3, y'119_4⟩ := qf5_ BK545; obtain ⟨z'120_0, z'120_1, z'120_2, z'120_3, z'120_4, z'120_5⟩ := qz6_ BK546; obtain ⟨y'120_0, y'120_1, y'120_2, y'120_3, y'120_4, y'120_5⟩ := qf6_ BK546) | (go_at_call 22; (with_reducible refine (a2v.calls k a0_0 a0_1 a0_2 a0_3 a0_4 a1_0 a1_1 a1_2 _ _ l1_3 _ _ l1_4 _ _ l1_5 true _ ?s1 ?s2 ?s3 ?s4 ?s5 ?s6 A5.out).mono ?_); (case s1 => exact qc_ HR1_3); (case s2 => exact HC1_3.out); (case s3 => exact qc_ HR1_4); (case s4 => exact HC1_4.out); (case s5 => exact qc_ HR1_5); (case s6 => exact HC1_5.out); rintro e w121 ⟨rfl, hb⟩; replace BK545 := qkb_ BK545 hb; replace BK546 := qkb_ BK546 hb; replace HB := qbs_ hb; (try clear hb); (try clear hb2); (try clear hk); (try clear hi); obtain ⟨z'122_0, z'122_1, z'122_2, z'122_3, z'122_4, z'122_5⟩ := qz6_ BK546; obtain ⟨y'122_0, y'122_1, y'122_2, y'122_3, y'122_4, y'122_5⟩ := qf6_ BK546) | (go_at_call 24; (with_reducible refine (a1j.calls k a1_0 a1_1 a1_2 (fun k_ => k_ < w.heap.size) _ _ l1_3 (fun k_ => k_ < w.heap.size) _ _ l1_4 (fun k_ => k_ < w.heap.size) _ _ l1_5 a2 t549 t550 t551 t552 t555 t558 t561 false _ ?s1 ?s2 ?s3 A7.out).mono ?_); (case s1 => exact Kd.V_mk HC1_3.out (Kd.a3t (Kd.C_F Kd.a5t HR1_3.out) qb_)); (case s2 => exact Kd.V_mk HC1_4.out (Kd.a3t (Kd.C_F a6n HR1_4.out) qb_)); (case s3 => exact Kd.V_mk HC1_5.out (Kd.a3t (Kd.C_F (Kd.a5r .i64) HR1_5.out) qb_)); rintro e w123 ⟨v553, v556, v559, rfl, ho0, ho1, ho2, hb⟩; have HO554 := am_ (Kd.a4h (Kd.a0i (ok' := fun k_ => k_ ≠ gb545 ∧ k_ ≠ gb546) ho0 (fun k_ hk_ => ⟨Or.elim hk_ (fun hs_ => Or.elim hs_ (fun hs_ => fun e_ => Nat.not_le.2 hs_ (by rw [e_]; exact GW545.out)) (fun hs_ => Or.elim hs_ (fun hs_ => fun e_ => Nat.not_le.2 hs_ (by rw [e_]; exact GW545.out)) (fun hs_ => fun e_ => Nat.not_le.2 hs_ (by rw [e_]; exact GW545.out)))) (fun hn_ => (Kd.a3a (g := gb545) (o := .cells #[.int .i64 a0_0, .int .i64 a0_1, .int .i64 a0_2, .int .i64 a0_3, .bool a0_4] 25 (0, 0)) (qk_ BK545) k_ hn_)), Or.elim hk_ (fun hs_ => Or.elim hs_ (fun hs_ => fun e_ => Nat.not_le.2 hs_ (by rw [e_]; exact GW546.out)) (fun hs_ => Or.elim hs_ (fun hs_ => fun e_ => Nat.not_le.2 hs_ (by rw [e_]; exact GW546.out)) (fun hs_ => fun e_ => Nat.not_le.2 hs_ (by rw [e_]; exact GW546.out)))) (fun hn_ => (Kd.a3a (g := gb546) (o := .cells #[.int .i64 a1_0, .int .i64 a1_1, .int .i64 a1_2, .slice A1_3 l1_3.length c1_3, .slice A1_4 l1_4.length c1_4, .slice A1_5 l1_5.length c1_5] 30 (0, 0)) (qk_ BK546) k_ hn_))⟩)) (a0p qb_)); have HO557 := am_ (Kd.a4h (Kd.a0i (ok' := fun k_ => k_ ≠ gb545 ∧ k_ ≠ gb546) ho1 (fun k_ hk_ => ⟨Or.elim hk_ (fun hs_ => Or.elim hs_ (fun hs_ => fun e_ => Nat.not_le.2 hs_ (by rw [e_]; exact GW545.out)) (fun hs_ => Or.elim hs_ (fun hs_ => fun e_ => Nat.not_le.2 hs_ (by rw [e_]; exact GW545.out)) (fun hs_ => fun e_ => Nat.not_le.2 hs_ (by rw [e_]; exact GW545.out)))) (fun hn_ => (Kd.a3a (g := gb545) (o := .cells #[.int .i64 a0_0, .int .i64 a0_1, .int .i64 a0_2, .int .i64 a0_3, .bool a0_4] 25 (0, 0)) (qk_ BK545) k_ hn_)), Or.elim hk_ (fun hs_ => Or.elim hs_ (fun hs_ => fun e_ => Nat.not_le.2 hs_ (by rw [e_]; exact GW546.out)) (fun hs_ => Or.elim hs_ (fun hs_ => fun e_ => Nat.not_le.2 hs_ (by rw [e_]; exact GW546.out)) (fun hs_ => fun e_ => Nat.not_le.2 hs_ (by rw [e_]; exact GW546.out)))) (fun hn_ => (Kd.a3a (g := gb546) (o := .cells #[.int .i64 a1_0, .int .i64 a1_1, .int .i64 a1_2, .slice A1_3 l1_3.length c1_3, .slice A1_4 l1_4.length c1_4, .slice A1_5 l1_5.length c1_5] 30 (0, 0)) (qk_ BK546) k_ hn_))⟩)) (a0p qb_)); have HO560 := am_ (Kd.a4h (Kd.a0i (ok' := fun k_ => k_ ≠ gb545 ∧ k_ ≠ gb546) ho2 (fun k_ hk_ => ⟨Or.elim hk_ (fun hs_ => Or.elim hs_ (fun hs_ => fun e_ => Nat.not_le.2 hs_ (by rw [e_]; exact GW545.out)) (fun hs_ => Or.elim hs_ (fun hs_ => fun e_ => Nat.not_le.2 hs_ (by rw [e_]; exact GW545.out)) (fun hs_ => fun e_ => Nat.not_le.2 hs_ (by rw [e_]; exact GW545.out)))) (fun hn_ => (Kd.a3a (g := gb545) (o := .cells #[.int .i64 a0_0, .int .i64 a0_1, .int .i64 a0_2, .int .i64 a0_3, .bool a0_4] 25 (0, 0)) (qk_ BK545) k_ hn_)), Or.elim hk_ (fun hs_ => Or.elim hs_ (fun hs_ => fun e_ => Nat.not_le.2 hs_ (by rw [e_]; exact GW546.out)) (fun hs_ => Or.elim hs_ (fun hs_ => fun e_ => Nat.not_le.2 hs_ (by rw [e_]; exact GW546.out)) (fun hs_ => fun e_ => Nat.not_le.2 hs_ (by rw [e_]; exact GW546.out)))) (fun hn_ => (Kd.a3a (g := gb546) (o := .cells #[.int .i64 a1_0, .int .i64 a1_1, .int .i64 a1_2, .slice A1_3 l1_3.length c1_3, .slice A1_4 l1_4.length c1_4, .slice A1_5 l1_5.length c1_5] 30 (0, 0)) (qk_ BK546) k_ hn_))⟩)) (a0p qb_)); replace BK545 := qkb_ BK545 hb; replace BK546 := qkb_ BK546 hb; replace HB := qbs_ hb; (try clear hb); (try clear hb2); (try clear hk); (try clear hi); (try clear ho0); (try clear ho1); (try clear ho2)) | ((with_reducible refine a0h (N := 8) rfl ?_); (try (refine a1p (by rfl) ?_; dsimp only)); refine qev_ 8 #[.int .i64 0, .int .i64 0, .int .i64 0, .slice none 0 0, .slice none 0 0, .slice none 0 0] 30 ?_; intro gb563 hg w124 hbox hb; replace HO554 := am_ (Kd.a1c (Kd.a1l (by (with_reducible repeat (first | apply Kd.V_alloc | apply Kd.a0d | apply Kd.a0e)); exact HO554.out) gb563 (Nat.le_of_eq hg.symm)) hb); replace HO557 := am_ (Kd.a1c (Kd.a1l (by (with_reducible repeat (first | apply Kd.V_alloc | apply Kd.a0d | apply Kd.a0e)); exact HO557.out) gb563 (Nat.le_of_eq hg.symm)) hb); replace HO560 := am_ (Kd.a1c (Kd.a1l (by (with_reducible repeat (first | apply Kd.V_alloc | apply Kd.a0d | apply Kd.a0e)); exact HO560.out) gb563 (Nat.le_of_eq hg.symm)) hb); have BK563 := am_ (hbox); have GW563 := qga_ hg; have GE563 := qga_ hg; replace HB := qbs_ hb; have NB545_563 := am_ ((by rw [hg]; exact Nat.ne_of_lt (a0l (qk_ BK545)) : gb545 ≠ gb563)); have NB563_545 := am_ ((by rw [hg]; exact Nat.ne_of_gt (a0l (qk_ BK545)) : gb563 ≠ gb545)); replace BK545 := qkb_ BK545 hb; have NB546_563 := am_ ((by rw [hg]; exact Nat.ne_of_lt (a0l (qk_ BK546)) : gb546 ≠ gb563)); have NB563_546 := am_ ((by rw [hg]; exact Nat.ne_of_gt (a0l (qk_ BK546)) : gb563 ≠ gb546)); replace BK546 := qkb_ BK546 hb; clear hb hbox hg; have hnb125 := NB563_545.out; have hnc125 := NB545_563.out; have hnb126 := NB563_546.out; have hnc126 := NB546_563.out; obtain ⟨z'127_0, z'127_1, z'127_2, z'127_3, z'127_4, z'127_5⟩ := qz6_ BK563; obtain ⟨y'127_0, y'127_1, y'127_2, y'127_3, y'127_4, y'127_5⟩ := qf6_ BK563; obtain ⟨Ao128, co128, eo128⟩ := Kd.a4g HO554.out; subst eo128; obtain ⟨Ao129, co129, eo129⟩ := Kd.a4g HO557.out; subst eo129; obtain ⟨Ao130, co130, eo130⟩ := Kd.a4g HO560.out; subst eo130)))
   go_ret
   exact ⟨qx_, qb_⟩
 ·replace c6 := be_ c6
  subst c6
  have H1 : (some t547) = some r := by rw [if_neg (show ¬ (false = true) by decide)] at H; exact H
  clear H
  have H := H1
  clear H1
  obtain rfl := si_ H
  go_enter Try.func5, Try.ntmps5
  go_wp2_with (first | ((with_reducible refine a0h (N := 3) rfl ?_); (try (refine a1p (by rfl) ?_; dsimp only)); refine qev_ 3 #[.int .i64 a0_0, .int .i64 a0_1, .int .i64 a0_2, .int .i64 a0_3, .bool a0_4] 25 ?_; intro gb545 hg w131 hbox hb; have BK545 := am_ (hbox); have GW545 := qga_ hg; have GE545 := qga_ hg; replace HB := qbs_ hb; clear hb hbox hg) | ((with_reducible refine a0h (N := 4) rfl ?_); (try (refine a1p (by rfl) ?_; dsimp only)); refine qev_ 4 #[.int .i64 a1_0, .int .i64 a1_1, .int .i64 a1_2, .slice A1_3 l1_3.length c1_3, .slice A1_4 l1_4.length c1_4, .slice A1_5 l1_5.length c1_5] 30 ?_; intro gb546 hg w132 hbox hb; have BK546 := am_ (hbox); have GW546 := qga_ hg; have GE546 := qga_ hg; replace HB := qbs_ hb; have NB545_546 := am_ ((by rw [hg]; exact Nat.ne_of_lt (a0l (qk_ BK545)) : gb545 ≠ gb546)); have NB546_545 := am_ ((by rw [hg]; exact Nat.ne_of_gt (a0l (qk_ BK545)) : gb546 ≠ gb545)); replace BK545 := qkb_ BK545 hb; clear hb hbox hg) | (go_at_call 11; (with_reducible refine (a0m.calls k  t547 _ A4.out).mono ?_); rintro e w133 ⟨rfl, hb⟩; replace BK545 := qkb_ BK545 hb; replace BK546 := qkb_ BK546 hb; replace HB := qbs_ hb; (try clear hb); (try clear hb2); (try clear hk); (try clear hi); have hnb134 := NB545_546.out; have hnc134 := NB546_545.out; obtain ⟨z'135_0, z'135_1, z'135_2, z'135_3, z'135_4⟩ := qz5_ BK545; obtain ⟨y'135_0, y'135_1, y'135_2, y'135_3, y'135_4⟩ := qf5_ BK545; obtain ⟨z'136_0, z'136_1, z'136_2, z'136_3, z'136_4, z'136_5⟩ := qz6_ BK546; obtain ⟨y'136_0, y'136_1, y'136_2, y'136_3, y'136_4, y'136_5⟩ := qf6_ BK546) | (go_at_call 22; (with_reducible refine (a2v.calls k a0_0 a0_1 a0_2 a0_3 a0_4 a1_0 a1_1 a1_2 _ _ l1_3 _ _ l1_4 _ _ l1_5 false _ ?s1 ?s2 ?s3 ?s4 ?s5 ?s6 A5.out).mono ?_); (case s1 => exact qc_ HR1_3); (case s2 => exact HC1_3.out); (case s3 => exact qc_ HR1_4); (case s4 => exact HC1_4.out); (case s5 => exact qc_ HR1_5); (case s6 => exact HC1_5.out); rintro e w137 ⟨rfl, hb⟩; replace BK545 := qkb_ BK545 hb; replace BK546 := qkb_ BK546 hb; replace HB := qbs_ hb; (try clear hb); (try clear hb2); (try clear hk); (try clear hi)))
  repeat (go_quiet (first | ((with_reducible refine a0h (N := 3) rfl ?_); (try (refine a1p (by rfl) ?_; dsimp only)); refine qev_ 3 #[.int .i64 a0_0, .int .i64 a0_1, .int .i64 a0_2, .int .i64 a0_3, .bool a0_4] 25 ?_; intro gb545 hg w131 hbox hb; have BK545 := am_ (hbox); have GW545 := qga_ hg; have GE545 := qga_ hg; replace HB := qbs_ hb; clear hb hbox hg) | ((with_reducible refine a0h (N := 4) rfl ?_); (try (refine a1p (by rfl) ?_; dsimp only)); refine qev_ 4 #[.int .i64 a1_0, .int .i64 a1_1, .int .i64 a1_2, .slice A1_3 l1_3.length c1_3, .slice A1_4 l1_4.length c1_4, .slice A1_5 l1_5.length c1_5] 30 ?_; intro gb546 hg w132 hbox hb; have BK546 := am_ (hbox); have GW546 := qga_ hg; have GE546 := qga_ hg; replace HB := qbs_ hb; have NB545_546 := am_ ((by rw [hg]; exact Nat.ne_of_lt (a0l (qk_ BK545)) : gb545 ≠ gb546)); have NB546_545 := am_ ((by rw [hg]; exact Nat.ne_of_gt (a0l (qk_ BK545)) : gb546 ≠ gb545)); replace BK545 := qkb_ BK545 hb; clear hb hbox hg) | (go_at_call 11; (with_reducible refine (a0m.calls k  t547 _ A4.out).mono ?_); rintro e w133 ⟨rfl, hb⟩; replace BK545 := qkb_ BK545 hb; replace BK546 := qkb_ BK546 hb; replace HB := qbs_ hb; (try clear hb); (try clear hb2); (try clear hk); (try clear hi); have hnb134 := NB545_546.out; have hnc134 := NB546_545.out; obtain ⟨z'135_0, z'135_1, z'135_2, z'135_3, z'135_4⟩ := qz5_ BK545; obtain ⟨y'135_0, y'135_1, y'135_2, y'135_3, y'135_4⟩ := qf5_ BK545; obtain ⟨z'136_0, z'136_1, z'136_2, z'136_3, z'136_4, z'136_5⟩ := qz6_ BK546; obtain ⟨y'136_0, y'136_1, y'136_2, y'136_3, y'136_4, y'136_5⟩ := qf6_ BK546) | (go_at_call 22; (with_reducible refine (a2v.calls k a0_0 a0_1 a0_2 a0_3 a0_4 a1_0 a1_1 a1_2 _ _ l1_3 _ _ l1_4 _ _ l1_5 false _ ?s1 ?s2 ?s3 ?s4 ?s5 ?s6 A5.out).mono ?_); (case s1 => exact qc_ HR1_3); (case s2 => exact HC1_3.out); (case s3 => exact qc_ HR1_4); (case s4 => exact HC1_4.out); (case s5 => exact qc_ HR1_5); (case s6 => exact HC1_5.out); rintro e w137 ⟨rfl, hb⟩; replace BK545 := qkb_ BK545 hb; replace BK546 := qkb_ BK546 hb; replace HB := qbs_ hb; (try clear hb); (try clear hb2); (try clear hk); (try clear hi))); try go_wp2_with (first | ((with_reducible refine a0h (N := 3) rfl ?_); (try (refine a1p (by rfl) ?_; dsimp only)); refine qev_ 3 #[.int .i64 a0_0, .int .i64 a0_1, .int .i64 a0_2, .int .i64 a0_3, .bool a0_4] 25 ?_; intro gb545 hg w131 hbox hb; have BK545 := am_ (hbox); have GW545 := qga_ hg; have GE545 := qga_ hg; replace HB := qbs_ hb; clear hb hbox hg) | ((with_reducible refine a0h (N := 4) rfl ?_); (try (refine a1p (by rfl) ?_; dsimp only)); refine qev_ 4 #[.int .i64 a1_0, .int .i64 a1_1, .int .i64 a1_2, .slice A1_3 l1_3.length c1_3, .slice A1_4 l1_4.length c1_4, .slice A1_5 l1_5.length c1_5] 30 ?_; intro gb546 hg w132 hbox hb; have BK546 := am_ (hbox); have GW546 := qga_ hg; have GE546 := qga_ hg; replace HB := qbs_ hb; have NB545_546 := am_ ((by rw [hg]; exact Nat.ne_of_lt (a0l (qk_ BK545)) : gb545 ≠ gb546)); have NB546_545 := am_ ((by rw [hg]; exact Nat.ne_of_gt (a0l (qk_ BK545)) : gb546 ≠ gb545)); replace BK545 := qkb_ BK545 hb; clear hb hbox hg) | (go_at_call 11; (with_reducible refine (a0m.calls k  t547 _ A4.out).mono ?_); rintro e w133 ⟨rfl, hb⟩; replace BK545 := qkb_ BK545 hb; replace BK546 := qkb_ BK546 hb; replace HB := qbs_ hb; (try clear hb); (try clear hb2); (try clear hk); (try clear hi); have hnb134 := NB545_546.out; have hnc134 := NB546_545.out; obtain ⟨z'135_0, z'135_1, z'135_2, z'135_3, z'135_4⟩ := qz5_ BK545; obtain ⟨y'135_0, y'135_1, y'135_2, y'135_3, y'135_4⟩ := qf5_ BK545; obtain ⟨z'136_0, z'136_1, z'136_2, z'136_3, z'136_4, z'136_5⟩ := qz6_ BK546; obtain ⟨y'136_0, y'136_1, y'136_2, y'136_3, y'136_4, y'136_5⟩ := qf6_ BK546) | (go_at_call 22; (with_reducible refine (a2v.calls k a0_0 a0_1 a0_2 a0_3 a0_4 a1_0 a1_1 a1_2 _ _ l1_3 _ _ l1_4 _ _ l1_5 false _ ?s1 ?s2 ?s3 ?s4 ?s5 ?s6 A5.out).mono ?_); (case s1 => exact qc_ HR1_3); (case s2 => exact HC1_3.out); (case s3 => exact qc_ HR1_4); (case s4 => exact HC1_4.out); (case s5 => exact qc_ HR1_5); (case s6 => exact HC1_5.out); rintro e w137 ⟨rfl, hb⟩; replace BK545 := qkb_ BK545 hb; replace BK546 := qkb_ BK546 hb; replace HB := qbs_ hb; (try clear hb); (try clear hb2); (try clear hk); (try clear hi))))
  go_ret
  exact ⟨qx_, qb_⟩
end Go.Proofs.Ytemnlgefngjliaa.Px
