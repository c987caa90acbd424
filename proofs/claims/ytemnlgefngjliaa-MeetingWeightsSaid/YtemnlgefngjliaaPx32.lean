/- Contracts of Go functions, printed. Conditions: as each theorem states. -/
import Derived.Test.YtemnlgefngjliaaPx0
import Derived.Test.YtemnlgefngjliaaPx13
import Derived.Test.YtemnlgefngjliaaPx14
import Derived.Test.YtemnlgefngjliaaPx15
import Derived.Test.YtemnlgefngjliaaPx22
import Derived.Test.YtemnlgefngjliaaPx31
namespace Go.Proofs.Ytemnlgefngjliaa.Px
open Go.Proofs.Ytemnlgefngjliaa.Given
open Go.RowKit Go.Proofs.YtemnlgefngjliaaW.PrintWords Go.Proofs.YtemnlgefngjliaaW.PrintLast Go.Proofs.YtemnlgefngjliaaW.PrintMore
attribute [local go_sem] a2h a2i a2u a2v a1z a2a a2j a2k
set_option linter.unusedVariables false
set_option linter.unusedSimpArgs false
mutual
def a0b.j0 : Nat → Bool → List Int → Bool → Int → Int → Int → Int → Bool → Int → Int → Int → List ByteArray → List (S43) → List Int → Option (Bool)
 | 0, _, _, _, _, _, _, _, _, _, _, _, _, _, _ => none
 | k + 1, x5, x6, x36, b0, b1, b2, b3, b4, b5, b6, b7, b8, b9, b10 => if x36 = true then (some false) else ((some (([] : List (S43)) : List (S43))).bind fun y503 => (if y503.length + b9.length < 5864062014805 then (a0b.l0 k x5 x6 0 0 b9 (b9.length : Int) 0 b0 b1 b2 b3 b4 b5 b6 b7 b8 b9 b10 b5 b6 b7 b8 (y503 ++ b9) b10) else (none)))
def a0b.l0 : Nat → Bool → List Int → Int → Int → List (S43) → Int → Int → Int → Int → Int → Int → Bool → Int → Int → Int → List ByteArray → List (S43) → List Int → Int → Int → Int → List ByteArray → List (S43) → List Int → Option (Bool)
 | 0, _, _, _, _, _, _, _, _, _, _, _, _, _, _, _, _, _, _, _, _, _, _, _, _ => none
 | k + 1, x5, x6, x8, x9, x44, x45, x46, b0, b1, b2, b3, b4, b5, b6, b7, b8, b9, b10, b11, b12, b13, b14, b15, b16 => if x46 < x45 then (if 0 ≤ x46 then (if x46 < (x44.length : Int) then (if x46 < (x6.length : Int) then ((a1x.f k b5 b6 b7 b8 b9 b10 ((a0a x44 x46).f0)).bind fun t512 => (if t512 = true then (a0b.j2 k x5 x6 (wrap64 (x8 + (rd x6 x46))) x9 x46 x44 x45 x46 (decide ((rd x6 x46) < 0)) b0 b1 b2 b3 b4 b5 b6 b7 b8 b9 b10 b11 b12 b13 b14 b15 b16 ((a0a x44 x46).f0) ((a0a x44 x46).f1) ((a0a x44 x46).f2)) else (if (rd x6 x46) = 0 then (a0b.j2 k x5 x6 (wrap64 (x8 + (rd x6 x46))) x9 x46 x44 x45 x46 (decide ((rd x6 x46) < 0)) b0 b1 b2 b3 b4 b5 b6 b7 b8 b9 b10 b11 b12 b13 b14 b15 b16 ((a0a x44 x46).f0) ((a0a x44 x46).f1) ((a0a x44 x46).f2)) else (a0b.j2 k x5 x6 (wrap64 (x8 + (rd x6 x46))) x9 x46 x44 x45 x46 true b0 b1 b2 b3 b4 b5 b6 b7 b8 b9 b10 b11 b12 b13 b14 b15 b16 ((a0a x44 x46).f0) ((a0a x44 x46).f1) ((a0a x44 x46).f2))))) else (none)) else (none)) else (none)) else ((a1f.f k b0 b1 b2 b3 b4 b11 b12 b13 b14 b15 b16).bind fun bt521 => (if x5 = true then (if x8 = x9 then (if bt521.2 = 0 then (if b4 = true then ((a0l.f k x6 bt521.1).bind fun t525 => (some t525)) else (some true)) else (some false)) else (some false)) else (some false)))
def a0b.j2 : Nat → Bool → List Int → Int → Int → Int → List (S43) → Int → Int → Bool → Int → Int → Int → Int → Bool → Int → Int → Int → List ByteArray → List (S43) → List Int → Int → Int → Int → List ByteArray → List (S43) → List Int → Int → Int → Int → Option (Bool)
 | 0, _, _, _, _, _, _, _, _, _, _, _, _, _, _, _, _, _, _, _, _, _, _, _, _, _, _, _, _, _ => none
 | k + 1, x5, x6, x8, x9, x11, x44, x45, x46, x75, b0, b1, b2, b3, b4, b5, b6, b7, b8, b9, b10, b11, b12, b13, b14, b15, b16, b17, b18, b19 => if x75 = true then (some false) else ((a1x.f k b5 b6 b7 b8 b9 b10 b17).bind fun t516 => (if t516 = true then (a0b.j3 k x5 x6 x8 x9 x11 x44 x45 x46 true b0 b1 b2 b3 b4 b5 b6 b7 b8 b9 b10 b11 b12 b13 b14 b15 b16 b17 b18 b19) else (if b19 = 0 then (a0b.j3 k x5 x6 x8 x9 x11 x44 x45 x46 false b0 b1 b2 b3 b4 b5 b6 b7 b8 b9 b10 b11 b12 b13 b14 b15 b16 b17 b18 b19) else ((a1x.f k b5 b6 b7 b8 b9 b10 b19).bind fun t517 => (a0b.j3 k x5 x6 x8 x9 x11 x44 x45 x46 t517 b0 b1 b2 b3 b4 b5 b6 b7 b8 b9 b10 b11 b12 b13 b14 b15 b16 b17 b18 b19)))))
def a0b.j3 : Nat → Bool → List Int → Int → Int → Int → List (S43) → Int → Int → Bool → Int → Int → Int → Int → Bool → Int → Int → Int → List ByteArray → List (S43) → List Int → Int → Int → Int → List ByteArray → List (S43) → List Int → Int → Int → Int → Option (Bool)
 | 0, _, _, _, _, _, _, _, _, _, _, _, _, _, _, _, _, _, _, _, _, _, _, _, _, _, _, _, _, _ => none
 | k + 1, x5, x6, x8, x9, x11, x44, x45, x46, x90, b0, b1, b2, b3, b4, b5, b6, b7, b8, b9, b10, b11, b12, b13, b14, b15, b16, b17, b18, b19 => if x90 = true then (if b4 = true then (if 0 ≤ x11 then (if x11 < (b15.length : Int) then (a0b.l0 k x5 x6 x8 (wrap64 ((wrap64 (x9 + b18)) + (wrap64 (1 - b18)))) x44 x45 (wrap64 (x46 + 1)) b0 b1 b2 b3 b4 b5 b6 b7 b8 b9 b10 b11 b12 b13 b14 (b15.set (x11 : Int).toNat (⟨(a0a b15 x11).f0, wrap64 (1000 - b18), (a0a b15 x11).f2⟩ : S43)) b16) else (none)) else (none)) else (if 0 ≤ x11 then (if x11 < (b15.length : Int) then (a0b.l0 k x5 x6 x8 (wrap64 (x9 + b18)) x44 x45 (wrap64 (x46 + 1)) b0 b1 b2 b3 b4 b5 b6 b7 b8 b9 b10 b11 b12 b13 b14 (b15.set (x11 : Int).toNat (⟨(a0a b15 x11).f0, wrap64 (1000 - b18), (a0a b15 x11).f2⟩ : S43)) b16) else (none)) else (none))) else (if 0 ≤ x11 then (if x11 < (b15.length : Int) then (a0b.l0 k x5 x6 x8 x9 x44 x45 (wrap64 (x46 + 1)) b0 b1 b2 b3 b4 b5 b6 b7 b8 b9 b10 b11 b12 b13 b14 (b15.set (x11 : Int).toNat (⟨(a0a b15 x11).f0, wrap64 (1000 - b18), (a0a b15 x11).f2⟩ : S43)) b16) else (none)) else (none))
end
def a0b.f (k : Nat) (a0_0 a0_1 a0_2 a0_3 : Int) (a0_4 : Bool) (a1_0 a1_1 a1_2 : Int) (l1_3 : List ByteArray) (l1_4 : List (S43)) (l1_5 : List Int) : Option (Bool) := (a0i.f k).bind fun t496 => ((a3j.f k a0_0 a0_1 a0_2 a0_3 a0_4 a1_0 a1_1 a1_2 l1_3 l1_4 l1_5).bind fun t497 => (if t497 = true then ((a1f.f k a0_0 a0_1 a0_2 a0_3 a0_4 a1_0 a1_1 a1_2 l1_3 l1_4 l1_5).bind fun bt498 => (if bt498.2 = 0 then (a0b.j0 k t496 bt498.1 ((bt498.1.length : Int) != (l1_4.length : Int)) a0_0 a0_1 a0_2 a0_3 a0_4 a1_0 a1_1 a1_2 l1_3 l1_4 l1_5) else (a0b.j0 k t496 bt498.1 true a0_0 a0_1 a0_2 a0_3 a0_4 a1_0 a1_1 a1_2 l1_3 l1_4 l1_5))) else (some t496)))
theorem a0b.a0x : ∀ k, (∀ y0 y1 y2 y3 y4 y5 y6 y7 y8 y9 y10 y11 y12 y13, LeO (a0b.j0 k y0 y1 y2 y3 y4 y5 y6 y7 y8 y9 y10 y11 y12 y13) (a0b.j0 (k + 1) y0 y1 y2 y3 y4 y5 y6 y7 y8 y9 y10 y11 y12 y13)) ∧ (∀ y0 y1 y2 y3 y4 y5 y6 y7 y8 y9 y10 y11 y12 y13 y14 y15 y16 y17 y18 y19 y20 y21 y22 y23, LeO (a0b.l0 k y0 y1 y2 y3 y4 y5 y6 y7 y8 y9 y10 y11 y12 y13 y14 y15 y16 y17 y18 y19 y20 y21 y22 y23) (a0b.l0 (k + 1) y0 y1 y2 y3 y4 y5 y6 y7 y8 y9 y10 y11 y12 y13 y14 y15 y16 y17 y18 y19 y20 y21 y22 y23)) ∧ (∀ y0 y1 y2 y3 y4 y5 y6 y7 y8 y9 y10 y11 y12 y13 y14 y15 y16 y17 y18 y19 y20 y21 y22 y23 y24 y25 y26 y27 y28, LeO (a0b.j2 k y0 y1 y2 y3 y4 y5 y6 y7 y8 y9 y10 y11 y12 y13 y14 y15 y16 y17 y18 y19 y20 y21 y22 y23 y24 y25 y26 y27 y28) (a0b.j2 (k + 1) y0 y1 y2 y3 y4 y5 y6 y7 y8 y9 y10 y11 y12 y13 y14 y15 y16 y17 y18 y19 y20 y21 y22 y23 y24 y25 y26 y27 y28)) ∧ (∀ y0 y1 y2 y3 y4 y5 y6 y7 y8 y9 y10 y11 y12 y13 y14 y15 y16 y17 y18 y19 y20 y21 y22 y23 y24 y25 y26 y27 y28, LeO (a0b.j3 k y0 y1 y2 y3 y4 y5 y6 y7 y8 y9 y10 y11 y12 y13 y14 y15 y16 y17 y18 y19 y20 y21 y22 y23 y24 y25 y26 y27 y28) (a0b.j3 (k + 1) y0 y1 y2 y3 y4 y5 y6 y7 y8 y9 y10 y11 y12 y13 y14 y15 y16 y17 y18 y19 y20 y21 y22 y23 y24 y25 y26 y27 y28))
 | 0 => ⟨fun _ _ _ _ _ _ _ _ _ _ _ _ _ _ r h => by simp [a0b.j0] at h, fun _ _ _ _ _ _ _ _ _ _ _ _ _ _ _ _ _ _ _ _ _ _ _ _ r h => by simp [a0b.l0] at h, fun _ _ _ _ _ _ _ _ _ _ _ _ _ _ _ _ _ _ _ _ _ _ _ _ _ _ _ _ _ r h => by simp [a0b.j2] at h, fun _ _ _ _ _ _ _ _ _ _ _ _ _ _ _ _ _ _ _ _ _ _ _ _ _ _ _ _ _ r h => by simp [a0b.j3] at h⟩
 | k + 1 => by
  obtain ⟨ih0, ih1, ih2, ih3⟩ := a0b.a0x k
  refine ⟨?_, ?_, ?_, ?_⟩
  ·intro y0 y1 y2 y3 y4 y5 y6 y7 y8 y9 y10 y11 y12 y13
   unfold a0b.j0
   with_reducible (repeat' first | apply ih0 | apply ih1 | apply ih2 | apply ih3 | apply a0i.mono | apply a3j.mono | apply a1x.mono | apply a0l.mono | apply a1f.mono | apply LeO.refl | apply LeO.none | apply LeO.ite | refine LeO.bind ?_ (fun _ => ?_))
  ·intro y0 y1 y2 y3 y4 y5 y6 y7 y8 y9 y10 y11 y12 y13 y14 y15 y16 y17 y18 y19 y20 y21 y22 y23
   unfold a0b.l0
   with_reducible (repeat' first | apply ih0 | apply ih1 | apply ih2 | apply ih3 | apply a0i.mono | apply a3j.mono | apply a1x.mono | apply a0l.mono | apply a1f.mono | apply LeO.refl | apply LeO.none | apply LeO.ite | refine LeO.bind ?_ (fun _ => ?_))
  ·intro y0 y1 y2 y3 y4 y5 y6 y7 y8 y9 y10 y11 y12 y13 y14 y15 y16 y17 y18 y19 y20 y21 y22 y23 y24 y25 y26 y27 y28
   unfold a0b.j2
   with_reducible (repeat' first | apply ih0 | apply ih1 | apply ih2 | apply ih3 | apply a0i.mono | apply a3j.mono | apply a1x.mono | apply a0l.mono | apply a1f.mono | apply LeO.refl | apply LeO.none | apply LeO.ite | refine LeO.bind ?_ (fun _ => ?_))
  ·intro y0 y1 y2 y3 y4 y5 y6 y7 y8 y9 y10 y11 y12 y13 y14 y15 y16 y17 y18 y19 y20 y21 y22 y23 y24 y25 y26 y27 y28
   unfold a0b.j3
   with_reducible (repeat' first | apply ih0 | apply ih1 | apply ih2 | apply ih3 | apply a0i.mono | apply a3j.mono | apply a1x.mono | apply a0l.mono | apply a1f.mono | apply LeO.refl | apply LeO.none | apply LeO.ite | refine LeO.bind ?_ (fun _ => ?_))
theorem a0b.mono : ∀ a0 a1 a2 a3 a4 a5 a6 a7 a8 a9 a10 k, LeO (a0b.f k a0 a1 a2 a3 a4 a5 a6 a7 a8 a9 a10) (a0b.f (k + 1) a0 a1 a2 a3 a4 a5 a6 a7 a8 a9 a10) := by
 intro a0 a1 a2 a3 a4 a5 a6 a7 a8 a9 a10 k
 obtain ⟨ih0, ih1, ih2, ih3⟩ := a0b.a0x k
 unfold a0b.f
 with_reducible (repeat' first | apply ih0 | apply ih1 | apply ih2 | apply ih3 | apply a0i.mono | apply a3j.mono | apply a1x.mono | apply a0l.mono | apply a1f.mono | apply LeO.refl | apply LeO.none | apply LeO.ite | refine LeO.bind ?_ (fun _ => ?_))
set_option maxHeartbeats 8000000 in
set_option maxRecDepth 100000 in
theorem a0b.calls (k : Nat) (a0_0 a0_1 a0_2 a0_3 : Int) (a0_4 : Bool) (a1_0 a1_1 a1_2 : Int) (A1_3 : Option Addr) (c1_3 : Nat) (l1_3 : List ByteArray) (A1_4 : Option Addr) (c1_4 : Nat) (l1_4 : List (S43)) (A1_5 : Option Addr) (c1_5 : Nat) (l1_5 : List Int) (r : Bool) (w : World) (hr1_3 : Kd.C Kd.string w A1_3 l1_3.length l1_3) (hc1_3 : l1_3.length ≤ c1_3) (hr1_4 : Kd.C k43 w A1_4 l1_4.length l1_4) (hc1_4 : l1_4.length ≤ c1_4) (hr1_5 : Kd.C (Kd.int .i64) w A1_5 l1_5.length l1_5) (hc1_5 : l1_5.length ≤ c1_5) (h : a0b.f k a0_0 a0_1 a0_2 a0_3 a0_4 a1_0 a1_1 a1_2 l1_3 l1_4 l1_5 = some r) :
  Calls Try.prog 4 #[.agg #[.int .i64 a0_0, .int .i64 a0_1, .int .i64 a0_2, .int .i64 a0_3, .bool a0_4], .agg #[.int .i64 a1_0, .int .i64 a1_1, .int .i64 a1_2, .slice A1_3 l1_3.length c1_3, .slice A1_4 l1_4.length c1_4, .slice A1_5 l1_5.length c1_5]] w fun e w' => e = .returned (.bool r) ∧ Below w.heap.size w w' := by
 have hu25 := Try.underlying25
 have hu30 := Try.underlying30
 have hu43 := Try.underlying43
 have HR1_3 := am_ hr1_3
 have HC1_3 := am_ hc1_3
 clear hr1_3 hc1_3
 have HR1_4 := am_ hr1_4
 have HC1_4 := am_ hc1_4
 clear hr1_4 hc1_4
 have HR1_5 := am_ hr1_5
 have HC1_5 := am_ hc1_5
 clear hr1_5 hc1_5
 have HB := am_ (Below.refl w.heap.size w)
 have H : ((a0i.f k).bind fun t496 => ((a3j.f k a0_0 a0_1 a0_2 a0_3 a0_4 a1_0 a1_1 a1_2 l1_3 l1_4 l1_5).bind fun t497 => (if t497 = true then ((a1f.f k a0_0 a0_1 a0_2 a0_3 a0_4 a1_0 a1_1 a1_2 l1_3 l1_4 l1_5).bind fun bt498 => (if bt498.2 = 0 then (a0b.j0 k t496 bt498.1 ((bt498.1.length : Int) != (l1_4.length : Int)) a0_0 a0_1 a0_2 a0_3 a0_4 a1_0 a1_1 a1_2 l1_3 l1_4 l1_5) else (a0b.j0 k t496 bt498.1 true a0_0 a0_1 a0_2 a0_3 a0_4 a1_0 a1_1 a1_2 l1_3 l1_4 l1_5))) else (some t496)))) = some r := h
 clear h
 replace H := bm_ H
 obtain ⟨t496, A30, H⟩ := H
 replace H : ((a3j.f k a0_0 a0_1 a0_2 a0_3 a0_4 a1_0 a1_1 a1_2 l1_3 l1_4 l1_5).bind fun t497 => (if t497 = true then ((a1f.f k a0_0 a0_1 a0_2 a0_3 a0_4 a1_0 a1_1 a1_2 l1_3 l1_4 l1_5).bind fun bt498 => (if bt498.2 = 0 then (a0b.j0 k t496 bt498.1 ((bt498.1.length : Int) != (l1_4.length : Int)) a0_0 a0_1 a0_2 a0_3 a0_4 a1_0 a1_1 a1_2 l1_3 l1_4 l1_5) else (a0b.j0 k t496 bt498.1 true a0_0 a0_1 a0_2 a0_3 a0_4 a1_0 a1_1 a1_2 l1_3 l1_4 l1_5))) else (some t496))) = some r := H
 have A3 := am_ A30
 clear A30
 replace H := bm_ H
 obtain ⟨t497, A40, H⟩ := H
 replace H : (if t497 = true then ((a1f.f k a0_0 a0_1 a0_2 a0_3 a0_4 a1_0 a1_1 a1_2 l1_3 l1_4 l1_5).bind fun bt498 => (if bt498.2 = 0 then (a0b.j0 k t496 bt498.1 ((bt498.1.length : Int) != (l1_4.length : Int)) a0_0 a0_1 a0_2 a0_3 a0_4 a1_0 a1_1 a1_2 l1_3 l1_4 l1_5) else (a0b.j0 k t496 bt498.1 true a0_0 a0_1 a0_2 a0_3 a0_4 a1_0 a1_1 a1_2 l1_3 l1_4 l1_5))) else (some t496)) = some r := H
 have A4 := am_ A40
 clear A40
 by_cases c5 : t497 = true
 ·subst c5
  have H1 : ((a1f.f k a0_0 a0_1 a0_2 a0_3 a0_4 a1_0 a1_1 a1_2 l1_3 l1_4 l1_5).bind fun bt498 => (if bt498.2 = 0 then (a0b.j0 k t496 bt498.1 ((bt498.1.length : Int) != (l1_4.length : Int)) a0_0 a0_1 a0_2 a0_3 a0_4 a1_0 a1_1 a1_2 l1_3 l1_4 l1_5) else (a0b.j0 k t496 bt498.1 true a0_0 a0_1 a0_2 a0_3 a0_4 a1_0 a1_1 a1_2 l1_3 l1_4 l1_5))) = some r := by rw [if_pos rfl] at H; exact H
  clear H
  have H := H1
  clear H1
  replace H := bm_ H
  obtain ⟨⟨t498, t501⟩, A60, H⟩ := H
  replace H : (if t501 = 0 then (a0b.j0 k t496 t498 ((t498.length : Int) != (l1_4.length : Int)) a0_0 a0_1 a0_2 a0_3 a0_4 a1_0 a1_1 a1_2 l1_3 l1_4 l1_5) else (a0b.j0 k t496 t498 true a0_0 a0_1 a0_2 a0_3 a0_4 a1_0 a1_1 a1_2 l1_3 l1_4 l1_5)) = some r := H
  have A6 := am_ A60
  clear A60
  have HC7 := am_ H
  clear H
  go_enter Try.func4, Try.ntmps4
  go_upto_region 5 with (first | ((with_reducible refine a0e (N := 2) rfl ?_); (try (refine a2x (by rfl) ?_; dsimp only)); refine qev_ 2 #[.int .i64 a0_0, .int .i64 a0_1, .int .i64 a0_2, .int .i64 a0_3, .bool a0_4] 25 ?_; intro gb494 hg w8 hbox hb; have BK494 := am_ (hbox); have GW494 := qga_ hg; have GE494 := qga_ hg; replace HB := qbs_ hb; clear hb hbox hg) | ((with_reducible refine a0e (N := 3) rfl ?_); (try (refine a2x (by rfl) ?_; dsimp only)); refine qev_ 3 #[.int .i64 a1_0, .int .i64 a1_1, .int .i64 a1_2, .slice A1_3 l1_3.length c1_3, .slice A1_4 l1_4.length c1_4, .slice A1_5 l1_5.length c1_5] 30 ?_; intro gb495 hg w9 hbox hb; have BK495 := am_ (hbox); have GW495 := qga_ hg; have GE495 := qga_ hg; replace HB := qbs_ hb; have NB494_495 := am_ ((by rw [hg]; exact Nat.ne_of_lt (a1a (qk_ BK494)) : gb494 ≠ gb495)); have NB495_494 := am_ ((by rw [hg]; exact Nat.ne_of_gt (a1a (qk_ BK494)) : gb495 ≠ gb494)); replace BK494 := qkb_ BK494 hb; clear hb hbox hg) | ((with_reducible refine a0c (f := 11) rfl ?_); refine a0q (some 15) rfl rfl Try.func11 (by kernel_rfl) rfl #[] rfl ql_ ?_; (with_reducible refine (a0i.calls k  t496 _ A3.out).mono ?_); rintro e w10 ⟨rfl, hb⟩; refine ⟨_, rfl, ?_⟩; replace BK494 := qkb_ BK494 hb; replace BK495 := qkb_ BK495 hb; replace HB := qbs_ hb; (try clear hb); (try clear hb2); (try clear hk); (try clear hi); have hnb11 := NB494_495.out; have hnc11 := NB495_494.out; obtain ⟨z'12_0, z'12_1, z'12_2, z'12_3, z'12_4⟩ := qz5_ BK494; obtain ⟨y'12_0, y'12_1, y'12_2, y'12_3, y'12_4⟩ := qf5_ BK494; obtain ⟨z'13_0, z'13_1, z'13_2, z'13_3, z'13_4, z'13_5⟩ := qz6_ BK495; obtain ⟨y'13_0, y'13_1, y'13_2, y'13_3, y'13_4, y'13_5⟩ := qf6_ BK495) | ((with_reducible refine a0c (f := 22) rfl ?_); refine a0q (some 18) rfl rfl Try.func22 (by kernel_rfl) rfl #[.agg #[.int .i64 a0_0, .int .i64 a0_1, .int .i64 a0_2, .int .i64 a0_3, .bool a0_4], .agg #[.int .i64 a1_0, .int .i64 a1_1, .int .i64 a1_2, .slice A1_3 l1_3.length c1_3, .slice A1_4 l1_4.length c1_4, .slice A1_5 l1_5.length c1_5]] rfl ql_ ?_; (with_reducible refine (a3j.calls k a0_0 a0_1 a0_2 a0_3 a0_4 a1_0 a1_1 a1_2 _ _ l1_3 _ _ l1_4 _ _ l1_5 true _ ?s1 ?s2 ?s3 ?s4 ?s5 ?s6 A4.out).mono ?_); (case s1 => exact qc_ HR1_3); (case s2 => exact HC1_3.out); (case s3 => exact qc_ HR1_4); (case s4 => exact HC1_4.out); (case s5 => exact qc_ HR1_5); (case s6 => exact HC1_5.out); rintro e w14 ⟨rfl, hb⟩; refine ⟨_, rfl, ?_⟩; replace BK494 := qkb_ BK494 hb; replace BK495 := qkb_ BK495 hb; replace HB := qbs_ hb; (try clear hb); (try clear hb2); (try clear hk); (try clear hi); obtain ⟨z'15_0, z'15_1, z'15_2, z'15_3, z'15_4⟩ := qz5_ BK494; obtain ⟨y'15_0, y'15_1, y'15_2, y'15_3, y'15_4⟩ := qf5_ BK494; obtain ⟨z'16_0, z'16_1, z'16_2, z'16_3, z'16_4, z'16_5⟩ := qz6_ BK495; obtain ⟨y'16_0, y'16_1, y'16_2, y'16_3, y'16_4, y'16_5⟩ := qf6_ BK495) | ((with_reducible refine a0c (f := 13) rfl ?_); refine a0q (some 24) rfl rfl Try.func13 (by kernel_rfl) rfl #[.agg #[.int .i64 a0_0, .int .i64 a0_1, .int .i64 a0_2, .int .i64 a0_3, .bool a0_4], .agg #[.int .i64 a1_0, .int .i64 a1_1, .int .i64 a1_2, .slice A1_3 l1_3.length c1_3, .slice A1_4 l1_4.length c1_4, .slice A1_5 l1_5.length c1_5]] rfl ql_ ?_; (with_reducible refine (a1f.calls k a0_0 a0_1 a0_2 a0_3 a0_4 a1_0 a1_1 a1_2 _ _ l1_3 _ _ l1_4 _ _ l1_5 t498 t501 _ ?s1 ?s2 ?s3 ?s4 ?s5 ?s6 A6.out).mono ?_); (case s1 => exact qc_ HR1_3); (case s2 => exact HC1_3.out); (case s3 => exact qc_ HR1_4); (case s4 => exact HC1_4.out); (case s5 => exact qc_ HR1_5); (case s6 => exact HC1_5.out); rintro e w17 ⟨v499, rfl, ho0, hb⟩; refine ⟨_, rfl, ?_⟩; have HO500 := am_ (Kd.a1v ho0 (a0y qb_)); replace BK494 := qkb_ BK494 hb; replace BK495 := qkb_ BK495 hb; replace HB := qbs_ hb; (try clear hb); (try clear hb2); (try clear hk); (try clear hi); (try clear ho0)))
  (try simp only [Act.put, List.setIfInBounds_toArray, List.set_cons_zero, List.set_cons_succ])
  go_cut [36] (fun v36 wc => ∃ (kq : Nat) (x36_6 : Bool), v36 = .bool x36_6 ∧ Aside0 (a0b.j0 kq t496 t498 x36_6 a0_0 a0_1 a0_2 a0_3 a0_4 a1_0 a1_1 a1_2 l1_3 l1_4 l1_5 = some r) ∧ Aside0 (kq ≤ k) ∧ Aside0 (Kd.R (Kd.int .i64) 3 wc w.heap.size (fun _ => True) v499 t498) ∧ Aside0 (wc.heap[gb494]? = some (.cells #[.int .i64 a0_0, .int .i64 a0_1, .int .i64 a0_2, .int .i64 a0_3, .bool a0_4] 25 (0, 0))) ∧ Aside0 (wc.heap[gb495]? = some (.cells #[.int .i64 a1_0, .int .i64 a1_1, .int .i64 a1_2, (.slice A1_3 l1_3.length c1_3), (.slice A1_4 l1_4.length c1_4), (.slice A1_5 l1_5.length c1_5)] 30 (0, 0))) ∧ Aside0 (Below w.heap.size w wc))
  case first =>
   have H := HC7.out
   clear HC7
   by_cases c18 : t501 = 0
   ·rw [if_pos c18] at H
    have c18b0 : (t501 == 0) = true := beq_iff_eq.mpr c18
    have c18b1 : (t501 != 0) = false := bne_eq_false_iff_eq.mpr c18
    clear c18
    (first | rw [c18b0] | (simp only [a2l, a2y]; rw [c18b0]) | skip)
    have H' := am_ H
    clear H
    obtain ⟨Ao19, co19, eo19⟩ := Kd.a1m HO500.out
    subst eo19
    have hnb20 := NB495_494.out
    have hnc20 := NB494_495.out
    obtain ⟨z'21_0, z'21_1, z'21_2, z'21_3, z'21_4, z'21_5⟩ := qz6_ BK495; obtain ⟨y'21_0, y'21_1, y'21_2, y'21_3, y'21_4, y'21_5⟩ := qf6_ BK495
    go_wp2
    go_meet
    case rel => exact ⟨_, (((t498.length : Int) != (l1_4.length : Int))), qs_, H', ⟨qo_⟩, ⟨by (with_reducible repeat (first | apply Kd.a0s | apply Kd.a0t | apply Kd.a0p)); exact HO500.out⟩, ⟨qk_ BK494⟩, ⟨qk_ BK495⟩, ⟨qb_⟩⟩
   ·rw [if_neg c18] at H
    have c18b0 : (t501 == 0) = false := beq_eq_false_iff_ne.mpr c18
    have c18b1 : (t501 != 0) = true := bne_iff_ne.mpr c18
    (first | rw [c18b0] | (simp only [a2l, a2y]; rw [c18b0]) | skip)
    have H' := am_ H
    clear H
    go_wp2
    go_meet
    case rel => exact ⟨_, (true), qs_, H', ⟨qo_⟩, ⟨by (with_reducible repeat (first | apply Kd.a0s | apply Kd.a0t | apply Kd.a0p)); exact HO500.out⟩, ⟨qk_ BK494⟩, ⟨qk_ BK495⟩, ⟨qb_⟩⟩
  case rest =>
   clear HC7
   try clear c1
   try clear c2
   try clear p2
   try clear c4
   try clear c5
   try clear c11
   try clear c13
   try clear c18
   try clear c18b0
   try clear c18b1
   try clear c20
   try clear z'12_0 z'12_1 z'12_2 z'12_3 z'12_4
   try clear z'13_0 z'13_1 z'13_2 z'13_3 z'13_4 z'13_5
   try clear z'15_0 z'15_1 z'15_2 z'15_3 z'15_4
   try clear z'16_0 z'16_1 z'16_2 z'16_3 z'16_4 z'16_5
   try clear z'21_0 z'21_1 z'21_2 z'21_3 z'21_4 z'21_5
   try clear y'12_0 y'12_1 y'12_2 y'12_3 y'12_4
   try clear y'13_0 y'13_1 y'13_2 y'13_3 y'13_4 y'13_5
   try clear y'15_0 y'15_1 y'15_2 y'15_3 y'15_4
   try clear y'16_0 y'16_1 y'16_2 y'16_3 y'16_4 y'16_5
   try clear y'21_0 y'21_1 y'21_2 y'21_3 y'21_4 y'21_5
   obtain ⟨kq, x36_6, rfl, HA, HJ6, HO_6, BK494, BK495, HB⟩ := hcut
   cases kq with
   | zero => exact absurd HA.out (by simp [a0b.j0])
   | succ kj6 =>
    have H := HA.out
    clear HA
    simp only [a0b.j0] at H
    by_cases c22 : x36_6 = true
    ·subst c22
     have H1 : (some false) = some r := by rw [if_pos rfl] at H; exact H
     clear H
     have H := H1
     clear H1
     obtain rfl := si_ H
     go_wp2
     go_ret
     exact ⟨qx_, qb_⟩
    ·replace c22 := be_ c22
     subst c22
     have H1 : ((some (([] : List (S43)) : List (S43))).bind fun y503 => (if y503.length + l1_4.length < 5864062014805 then (a0b.l0 kj6 t496 t498 0 0 l1_4 (l1_4.length : Int) 0 a0_0 a0_1 a0_2 a0_3 a0_4 a1_0 a1_1 a1_2 l1_3 l1_4 l1_5 a1_0 a1_1 a1_2 l1_3 (y503 ++ l1_4) l1_5) else (none))) = some r := by rw [if_neg (show ¬ (false = true) by decide)] at H; exact H
     clear H
     have H := H1
     clear H1
     obtain ⟨y503, hy503⟩ : ∃ y_ : List (S43), y_ = (([] : List (S43))) := ⟨_, rfl⟩
     replace H : (if y503.length + l1_4.length < 5864062014805 then (a0b.l0 kj6 t496 t498 0 0 l1_4 (l1_4.length : Int) 0 a0_0 a0_1 a0_2 a0_3 a0_4 a1_0 a1_1 a1_2 l1_3 l1_4 l1_5 a1_0 a1_1 a1_2 l1_3 (y503 ++ l1_4) l1_5) else (none)) = some r := by first | (rw [hy503]; with_reducible exact H) | (have H2_ := (Option.bind_some _ _).symm.trans H; rw [hy503]; with_reducible exact H2_) | (have H2_ := (Option.bind_some _ _).symm.trans H; with_reducible exact H2_) | with_reducible exact H | (rw [hy503]; exact H) | exact H
     have Ny503 := am_ hy503
     clear hy503
     by_cases c23 : y503.length + l1_4.length < 5864062014805
     ·rw [if_pos c23] at H
      have LMc23 := am_ c23
      clear c23
      obtain ⟨y506, hy506⟩ : ∃ y_ : List (S43), y_ = (y503 ++ l1_4) := ⟨_, rfl⟩
      replace H : (a0b.l0 kj6 t496 t498 0 0 l1_4 (l1_4.length : Int) 0 a0_0 a0_1 a0_2 a0_3 a0_4 a1_0 a1_1 a1_2 l1_3 l1_4 l1_5 a1_0 a1_1 a1_2 l1_3 y506 l1_5) = some r := by first | (rw [hy506]; with_reducible exact H) | (have H2_ := (Option.bind_some _ _).symm.trans H; rw [hy506]; with_reducible exact H2_) | (have H2_ := (Option.bind_some _ _).symm.trans H; with_reducible exact H2_) | with_reducible exact H | (rw [hy506]; exact H) | exact H
      have Ny506 := am_ hy506
      clear hy506
      have H' := am_ H
      clear H
      have hnb24 := NB495_494.out
      have hnc24 := NB494_495.out
      obtain ⟨z'25_0, z'25_1, z'25_2, z'25_3, z'25_4, z'25_5⟩ := qz6_ BK495; obtain ⟨y'25_0, y'25_1, y'25_2, y'25_3, y'25_4, y'25_5⟩ := qf6_ BK495
      go_wp2_with (first | ((with_reducible refine a0e (N := 10) rfl ?_); (try (refine a2x (by rfl) ?_; dsimp only)); refine qev_ 10 #[.int .i64 0, .int .i64 0, .int .i64 0, .slice none 0 0, .slice none 0 0, .slice none 0 0] 30 ?_; intro gb502 hg w26 hbox hb; replace HO_6 := qrb_ HO_6 hb; have BK502 := am_ (hbox); have GW502 := qga_ hg; have GE502 := qga_ hg; replace HB := qbs_ hb; have NB494_502 := am_ ((by rw [hg]; exact Nat.ne_of_lt (a1a (qk_ BK494)) : gb494 ≠ gb502)); have NB502_494 := am_ ((by rw [hg]; exact Nat.ne_of_gt (a1a (qk_ BK494)) : gb502 ≠ gb494)); replace BK494 := qkb_ BK494 hb; have NB495_502 := am_ ((by rw [hg]; exact Nat.ne_of_lt (a1a (qk_ BK495)) : gb495 ≠ gb502)); have NB502_495 := am_ ((by rw [hg]; exact Nat.ne_of_gt (a1a (qk_ BK495)) : gb502 ≠ gb495)); replace BK495 := qkb_ BK495 hb; clear hb hbox hg; have hnb27 := NB502_494.out; have hnc27 := NB494_502.out; have hnb28 := NB502_495.out; have hnc28 := NB495_502.out; obtain ⟨z'29_0, z'29_1, z'29_2, z'29_3, z'29_4, z'29_5⟩ := qz6_ BK502; obtain ⟨y'29_0, y'29_1, y'29_2, y'29_3, y'29_4, y'29_5⟩ := qf6_ BK502) | ((with_reducible refine a0e (N := 38) rfl ?_); (try (refine a2x (by rfl) ?_; dsimp only)); refine Kd.a4x k43 _ 43 ?hg (N := 38) ?hd (xs := ([] : List (S43))) (inner := []) (ok := fun _ => True) (okp := fun _ => True) ?hr ?hp (fun _ hk => hk) trivial (Below.refl _ _) (Nat.le_refl _) (by simp) ?_; (case hd => rfl); (case hg => rfl); (case hr => exact qq_); (case hp => exact (Reps.none _ _)); intro v504 w30 ho31 hb hg_ hnew_; clear hg_ hnew_; (first | rw [← Ny503.out] at ho31 | (simp only [Int.reduceToNat] at ho31; rw [← Ny503.out] at ho31)); replace HO_6 := am_ (Kd.a3b (by (with_reducible repeat (first | apply Kd.a0s | apply Kd.a0t | apply Kd.a0p)); exact (Kd.a2b (Kd.a1j (p := ⟨gb502, 5, none⟩) (Kd.a1j (p := ⟨gb502, 4, none⟩) (Kd.a1j (p := ⟨gb502, 3, none⟩) (Kd.a1j (p := ⟨gb502, 2, none⟩) (Kd.a1j (p := ⟨gb502, 1, none⟩) (Kd.a1j (p := ⟨gb502, 0, none⟩) (Kd.a3n HO_6.out BK502.out (by decide)) (fun _ hk => hk.2) (.int .i64 a1_0)) (fun _ hk => hk.2) (.int .i64 a1_1)) (fun _ hk => hk.2) (.int .i64 a1_2)) (fun _ hk => hk.2) (.slice A1_3 l1_3.length c1_3)) (fun _ hk => hk.2) (.slice A1_4 l1_4.length c1_4)) (fun _ hk => hk.2) (.slice A1_5 l1_5.length c1_5)) (fun _ h_ => h_.1))) hb); have HO505 := am_ (Kd.a1v ho31 (a0y qb_)); replace BK494 := am_ (a1p (g := gb494) (o := .cells #[.int .i64 a0_0, .int .i64 a0_1, .int .i64 a0_2, .int .i64 a0_3, .bool a0_4] 25 (0, 0)) (by refine qd_ ?_; refine a0f ?_ NB494_502.out _; refine qd_ ?_; refine a0f ?_ NB494_502.out _; refine qd_ ?_; refine a0f ?_ NB494_502.out _; refine qd_ ?_; refine a0f ?_ NB494_502.out _; refine qd_ ?_; refine a0f ?_ NB494_502.out _; refine qd_ ?_; refine a0f ?_ NB494_502.out _; refine qd_ ?_; exact BK494.out) hb); replace BK495 := am_ (a1p (g := gb495) (o := .cells #[.int .i64 a1_0, .int .i64 a1_1, .int .i64 a1_2, .slice A1_3 l1_3.length c1_3, .slice A1_4 l1_4.length c1_4, .slice A1_5 l1_5.length c1_5] 30 (0, 0)) (by refine qd_ ?_; refine a0f ?_ NB495_502.out _; refine qd_ ?_; refine a0f ?_ NB495_502.out _; refine qd_ ?_; refine a0f ?_ NB495_502.out _; refine qd_ ?_; refine a0f ?_ NB495_502.out _; refine qd_ ?_; refine a0f ?_ NB495_502.out _; refine qd_ ?_; refine a0f ?_ NB495_502.out _; refine qd_ ?_; exact BK495.out) hb); replace BK502 := am_ (a1p (g := gb502) (o := .cells #[.int .i64 a1_0, .int .i64 a1_1, .int .i64 a1_2, .slice A1_3 l1_3.length c1_3, .slice A1_4 l1_4.length c1_4, .slice A1_5 l1_5.length c1_5] 30 (0, 0)) (by refine qd_ ?_; refine a0h (cs := #[.int .i64 a1_0, .int .i64 a1_1, .int .i64 a1_2, .slice A1_3 l1_3.length c1_3, .slice A1_4 l1_4.length c1_4, .slice none 0 0]) ?_ 5 _ rfl; refine qd_ ?_; refine a0h (cs := #[.int .i64 a1_0, .int .i64 a1_1, .int .i64 a1_2, .slice A1_3 l1_3.length c1_3, .slice none 0 0, .slice none 0 0]) ?_ 4 _ rfl; refine qd_ ?_; refine a0h (cs := #[.int .i64 a1_0, .int .i64 a1_1, .int .i64 a1_2, .slice none 0 0, .slice none 0 0, .slice none 0 0]) ?_ 3 _ rfl; refine qd_ ?_; refine a0h (cs := #[.int .i64 a1_0, .int .i64 a1_1, .int .i64 0, .slice none 0 0, .slice none 0 0, .slice none 0 0]) ?_ 2 _ rfl; refine qd_ ?_; refine a0h (cs := #[.int .i64 a1_0, .int .i64 0, .int .i64 0, .slice none 0 0, .slice none 0 0, .slice none 0 0]) ?_ 1 _ rfl; refine qd_ ?_; refine a0h (cs := #[.int .i64 0, .int .i64 0, .int .i64 0, .slice none 0 0, .slice none 0 0, .slice none 0 0]) ?_ 0 _ rfl; refine qd_ ?_; exact BK502.out) hb); replace HB := qbs_ hb; clear hb ho31; obtain ⟨z'32_0, z'32_1, z'32_2, z'32_3, z'32_4, z'32_5⟩ := qz6_ BK495; obtain ⟨y'32_0, y'32_1, y'32_2, y'32_3, y'32_4, y'32_5⟩ := qf6_ BK495) | ((with_reducible refine a4i (b := .append) (xs := #[.tmp 38, .tmp 40]) rfl ?_); (try (refine a2x (by rfl) ?_; dsimp only)); at_builtin; refine Kd.a9x k43 (w0 := w) w.heap.size rfl (.tmp 38) (.tmp 40) 27 43 (.agg #[(.int .i64 0), (.int .i64 0), (.int .i64 0)]) 24 rfl Try.underlying27 b5w rfl (by decide) (by omega) v504 y503 l1_4 _ _ _ (fun _ => True) (fun _ => False) rfl rfl ?aO ?aR (fun _ _ h => h) (fun _ h => h.elim) ?aF ?aB ?aS ?aL ?_; (case aR => repeat (first | exact (Kd.a1g HR1_4.out HB.out) | (with_reducible refine Kd.a2f ?_ _) | (with_reducible refine Kd.a2g ?_ _) | (with_reducible refine Kd.a2s ?_))); (case aB => exact qb_); (case aF => exact (fun _ _ => trivial)); (case aO => exact (qr_ HO505)); (case aS => exact (a0y qb_)); (case aL => have := LMc23.out; omega); intro v507 w33 ho hb hg hat; rw [← Ny506.out] at ho; replace HO_6 := am_ (Kd.a8c (qr_ HO_6) (Kd.a8b (qr_ HO505)) (by decide) hg); replace BK494 := am_ (a2c (g := gb494) (o := .cells #[.int .i64 a0_0, .int .i64 a0_1, .int .i64 a0_2, .int .i64 a0_3, .bool a0_4] 25 (0, 0)) (qk_ BK494) hg (Kd.R_ne HO505.out BK494.out (by decide))); replace BK495 := am_ (a2c (g := gb495) (o := .cells #[.int .i64 a1_0, .int .i64 a1_1, .int .i64 a1_2, .slice A1_3 l1_3.length c1_3, .slice A1_4 l1_4.length c1_4, .slice A1_5 l1_5.length c1_5] 30 (0, 0)) (qk_ BK495) hg (Kd.R_ne HO505.out BK495.out (by decide))); replace BK502 := am_ (a2c (g := gb502) (o := .cells #[.int .i64 a1_0, .int .i64 a1_1, .int .i64 a1_2, .slice A1_3 l1_3.length c1_3, .slice A1_4 l1_4.length c1_4, .slice A1_5 l1_5.length c1_5] 30 (0, 0)) (qk_ BK502) hg (Kd.R_ne HO505.out BK502.out (by decide))); replace HB := am_ (hb); have HO508 := am_ (ho); clear HO505 ho hb hg hat; obtain ⟨Ao34, co34, eo34⟩ := Kd.a1m HO508.out; subst eo34; obtain ⟨z'35_0, z'35_1, z'35_2, z'35_3, z'35_4, z'35_5⟩ := qz6_ BK502; obtain ⟨y'35_0, y'35_1, y'35_2, y'35_3, y'35_4, y'35_5⟩ := qf6_ BK502; obtain ⟨z'36_0, z'36_1, z'36_2, z'36_3, z'36_4, z'36_5⟩ := qz6_ BK495; obtain ⟨y'36_0, y'36_1, y'36_2, y'36_3, y'36_4, y'36_5⟩ := qf6_ BK495))
      go_loopg [8, 9, 46] kj6 (fun kq v8 v9 v46 w' => ∃ (x8_2 : Int) (x9_2 : Int) (x46_2 : Int) (x503004_2 : List (S43)) (u503004 : Value), v8 = .int .i64 x8_2 ∧ v9 = .int .i64 x9_2 ∧ v46 = .int .i64 x46_2 ∧ Aside0 (a0b.l0 kq t496 t498 x8_2 x9_2 l1_4 (l1_4.length : Int) x46_2 a0_0 a0_1 a0_2 a0_3 a0_4 a1_0 a1_1 a1_2 l1_3 l1_4 l1_5 a1_0 a1_1 a1_2 l1_3 x503004_2 l1_5 = some r) ∧ Aside0 (kq ≤ kj6) ∧ Aside0 (Kd.R (Kd.int .i64) 3 w' w.heap.size (fun _ => True) v499 t498) ∧ Aside0 (Kd.R k43 43 w' w.heap.size (fun _ => True) u503004 x503004_2) ∧ Aside0 (w'.heap[gb494]? = some (.cells #[.int .i64 a0_0, .int .i64 a0_1, .int .i64 a0_2, .int .i64 a0_3, .bool a0_4] 25 (0, 0))) ∧ Aside0 (w'.heap[gb495]? = some (.cells #[.int .i64 a1_0, .int .i64 a1_1, .int .i64 a1_2, (.slice A1_3 l1_3.length c1_3), (.slice A1_4 l1_4.length c1_4), (.slice A1_5 l1_5.length c1_5)] 30 (0, 0))) ∧ Aside0 (w'.heap[gb502]? = some (.cells #[.int .i64 a1_0, .int .i64 a1_1, .int .i64 a1_2, (.slice A1_3 l1_3.length c1_3), u503004, (.slice A1_5 l1_5.length c1_5)] 30 (0, 0))) ∧ Aside0 (Below w.heap.size w w'))
      case atStart => exact ⟨(0), (0), (0), (y506), (.slice Ao34 y506.length co34), qs_, qs_, qs_, H', ⟨Nat.le_refl _⟩, ⟨by (with_reducible repeat (first | apply Kd.a0s | apply Kd.a0t | apply Kd.a0p)); exact Kd.a2b (Kd.a1j (p := ⟨gb502, 4, none⟩) (Kd.a3n HO_6.out BK502.out (by decide)) (fun _ hk => hk.2) (.slice Ao34 y506.length co34)) (fun _ hk => trivial)⟩, ⟨by (with_reducible repeat (first | apply Kd.a0s | apply Kd.a0t | apply Kd.a0p)); exact Kd.a2b (Kd.a1j (p := ⟨gb502, 4, none⟩) (Kd.a3n HO508.out BK502.out (by decide)) (fun _ hk => hk.2) (.slice Ao34 y506.length co34)) (fun _ hk => trivial)⟩, ⟨by refine qd_ ?_; refine a0f ?_ NB494_502.out _; refine qd_ ?_; exact BK494.out⟩, ⟨by refine qd_ ?_; refine a0f ?_ NB495_502.out _; refine qd_ ?_; exact BK495.out⟩, ⟨by refine qd_ ?_; refine a0h (cs := #[.int .i64 a1_0, .int .i64 a1_1, .int .i64 a1_2, .slice A1_3 l1_3.length c1_3, .slice A1_4 l1_4.length c1_4, .slice A1_5 l1_5.length c1_5]) ?_ 4 _ rfl; refine qd_ ?_; exact BK502.out⟩, ⟨qb_⟩⟩
      case round =>
       clear H'
       try clear c1
       try clear c2
       try clear p2
       try clear c4
       try clear c5
       try clear c11
       try clear c13
       try clear c18
       try clear c18b0
       try clear c18b1
       try clear c20
       try clear c22
       try clear c23
       try clear c24
       try clear c27
       try clear c28
       try clear z'12_0 z'12_1 z'12_2 z'12_3 z'12_4
       try clear z'13_0 z'13_1 z'13_2 z'13_3 z'13_4 z'13_5
       try clear z'15_0 z'15_1 z'15_2 z'15_3 z'15_4
       try clear z'16_0 z'16_1 z'16_2 z'16_3 z'16_4 z'16_5
       try clear z'21_0 z'21_1 z'21_2 z'21_3 z'21_4 z'21_5
       try clear z'25_0 z'25_1 z'25_2 z'25_3 z'25_4 z'25_5
       try clear z'29_0 z'29_1 z'29_2 z'29_3 z'29_4 z'29_5
       try clear z'32_0 z'32_1 z'32_2 z'32_3 z'32_4 z'32_5
       try clear z'35_0 z'35_1 z'35_2 z'35_3 z'35_4 z'35_5
       try clear z'36_0 z'36_1 z'36_2 z'36_3 z'36_4 z'36_5
       try clear y'12_0 y'12_1 y'12_2 y'12_3 y'12_4
       try clear y'13_0 y'13_1 y'13_2 y'13_3 y'13_4 y'13_5
       try clear y'15_0 y'15_1 y'15_2 y'15_3 y'15_4
       try clear y'16_0 y'16_1 y'16_2 y'16_3 y'16_4 y'16_5
       try clear y'21_0 y'21_1 y'21_2 y'21_3 y'21_4 y'21_5
       try clear y'25_0 y'25_1 y'25_2 y'25_3 y'25_4 y'25_5
       try clear y'29_0 y'29_1 y'29_2 y'29_3 y'29_4 y'29_5
       try clear y'32_0 y'32_1 y'32_2 y'32_3 y'32_4 y'32_5
       try clear y'35_0 y'35_1 y'35_2 y'35_3 y'35_4 y'35_5
       try clear y'36_0 y'36_1 y'36_2 y'36_3 y'36_4 y'36_5
       try clear p2
       try clear BK494
       try clear BK495
       try clear BK502
       obtain ⟨x8_2, x9_2, x46_2, x503004_2, u503004, rfl, rfl, rfl, HA, HK2, HO_6, HO_503004, BK494, BK495, BK502, HB⟩ := hrel
       cases gk with
       | zero => exact absurd HA.out (by simp [a0b.l0])
       | succ k2 =>
        have H := HA.out
        clear HA
        simp only [a0b.l0] at H
        by_cases c37 : x46_2 < (l1_4.length : Int)
        ·rw [if_pos c37] at H
         have c37b0 : decide (x46_2 < (l1_4.length : Int)) = true := decide_eq_true c37
         clear c37
         by_cases c38 : 0 ≤ x46_2
         ·rw [if_pos c38] at H
          have c38b0 : decide (0 ≤ x46_2) = true := decide_eq_true c38
          clear c38
          by_cases c39 : x46_2 < (l1_4.length : Int)
          ·rw [if_pos c39] at H
           have c39b0 : decide (x46_2 < (l1_4.length : Int)) = true := decide_eq_true c39
           clear c39
           by_cases c40 : x46_2 < (t498.length : Int)
           ·rw [if_pos c40] at H
            have c40b0 : decide (x46_2 < (t498.length : Int)) = true := decide_eq_true c40
            clear c40
            have HC41 := am_ H
            clear H
            have p509 : 0 ≤ (x46_2 : Int) := ot_
            have q509 : x46_2 < (l1_4.length : Int) := ot_
            obtain ⟨ad509, e509, hx509_0, hx509_1, hx509_2⟩ := a2d HR1_4.out x46_2 p509 q509
            cases e509
            replace hx509_0 := qh_ HB hx509_0
            replace hx509_1 := qh_ HB hx509_1
            replace hx509_2 := qh_ HB hx509_2
            replace p509 := eq_true p509
            replace q509 := eq_true q509
            go_upto_region 14 with (first | ((with_reducible refine a0e (N := 12) rfl ?_); (try (refine a2x (by rfl) ?_; dsimp only)); refine qev_ 12 #[.int .i64 0, .int .i64 0, .int .i64 0] 43 ?_; intro gb510 hg w42 hbox hb; replace HO_6 := qrb_ HO_6 hb; replace HO_503004 := am_ (Kd.a3b (Kd.b3z (qr_ HO_503004) gb510 (Nat.le_of_eq hg.symm)) hb); have BK510 := am_ (hbox); have GW510 := qga_ hg; have GE510 := qga_ hg; replace HB := qbs_ hb; have NB494_510 := am_ ((by rw [hg]; exact Nat.ne_of_lt (a1a (qk_ BK494)) : gb494 ≠ gb510)); have NB510_494 := am_ ((by rw [hg]; exact Nat.ne_of_gt (a1a (qk_ BK494)) : gb510 ≠ gb494)); replace BK494 := qkb_ BK494 hb; have NB495_510 := am_ ((by rw [hg]; exact Nat.ne_of_lt (a1a (qk_ BK495)) : gb495 ≠ gb510)); have NB510_495 := am_ ((by rw [hg]; exact Nat.ne_of_gt (a1a (qk_ BK495)) : gb510 ≠ gb495)); replace BK495 := qkb_ BK495 hb; have NB502_510 := am_ ((by rw [hg]; exact Nat.ne_of_lt (a1a (qk_ BK502)) : gb502 ≠ gb510)); have NB510_502 := am_ ((by rw [hg]; exact Nat.ne_of_gt (a1a (qk_ BK502)) : gb510 ≠ gb502)); replace BK502 := qkb_ BK502 hb; clear hb hbox hg; have hnb43 := NB510_494.out; have hnc43 := NB494_510.out; have hnb44 := NB510_495.out; have hnc44 := NB495_510.out; have hnb45 := NB510_502.out; have hnc45 := NB502_510.out; obtain ⟨z'46_0, z'46_1, z'46_2⟩ := qz3_ BK510; obtain ⟨y'46_0, y'46_1, y'46_2⟩ := qf3_ BK510; obtain ⟨Ao47, co47, eo47⟩ := Kd.a1m HO_6.out; subst eo47; have p511 : 0 ≤ (x46_2 : Int) := ot_; have q511 : x46_2 < (t498.length : Int) := ot_; obtain ⟨ad511, e511, hx511_0⟩ := Kd.a1u (Kd.a0j HO_6.out).2.2 x46_2 p511 q511; cases e511; have hn511_0 : ad511.block ≠ gb510 := Kd.a8d (Kd.R_ne HO_6.out BK510.out (by decide)); have hn511_1 : ad511.block ≠ gb510 := Kd.a8d (Kd.R_ne HO_6.out BK510.out (by decide)); have hn511_2 : ad511.block ≠ gb510 := Kd.a8d (Kd.R_ne HO_6.out BK510.out (by decide)); replace hx511_0 := (cell_far (p := ⟨gb510, 0, none⟩) (qn_ hn511_0) (.int .i64 ((a0a l1_4 x46_2).f0))).trans hx511_0; replace hx511_0 := (cell_far (p := ⟨gb510, 1, none⟩) (qn_ hn511_1) (.int .i64 ((a0a l1_4 x46_2).f1))).trans hx511_0; replace hx511_0 := (cell_far (p := ⟨gb510, 2, none⟩) (qn_ hn511_2) (.int .i64 ((a0a l1_4 x46_2).f2))).trans hx511_0; clear hn511_0 hn511_1 hn511_2; replace p511 := eq_true p511; replace q511 := eq_true q511))
            (try simp only [Act.put, List.setIfInBounds_toArray, List.set_cons_zero, List.set_cons_succ])
            go_cut [75] (fun v75 wc => ∃ (kq : Nat) (x75_40 : Bool), v75 = .bool x75_40 ∧ Aside0 (a0b.j2 kq t496 t498 (wrap64 (x8_2 + (rd t498 x46_2))) x9_2 x46_2 l1_4 (l1_4.length : Int) x46_2 x75_40 a0_0 a0_1 a0_2 a0_3 a0_4 a1_0 a1_1 a1_2 l1_3 l1_4 l1_5 a1_0 a1_1 a1_2 l1_3 x503004_2 l1_5 ((a0a l1_4 x46_2).f0) ((a0a l1_4 x46_2).f1) ((a0a l1_4 x46_2).f2) = some r) ∧ Aside0 (kq ≤ k2) ∧ Aside0 (Kd.R (Kd.int .i64) 3 wc w.heap.size (fun _ => True) (.slice (some ad511) t498.length co47) t498) ∧ Aside0 (Kd.R k43 43 wc w.heap.size (fun k_ => k_ ≠ gb510) u503004 x503004_2) ∧ Aside0 (wc.heap[gb494]? = some (.cells #[.int .i64 a0_0, .int .i64 a0_1, .int .i64 a0_2, .int .i64 a0_3, .bool a0_4] 25 (0, 0))) ∧ Aside0 (wc.heap[gb495]? = some (.cells #[.int .i64 a1_0, .int .i64 a1_1, .int .i64 a1_2, (.slice A1_3 l1_3.length c1_3), (.slice (some ad509) l1_4.length c1_4), (.slice A1_5 l1_5.length c1_5)] 30 (0, 0))) ∧ Aside0 (wc.heap[gb502]? = some (.cells #[.int .i64 a1_0, .int .i64 a1_1, .int .i64 a1_2, (.slice A1_3 l1_3.length c1_3), u503004, (.slice A1_5 l1_5.length c1_5)] 30 (0, 0))) ∧ Aside0 (wc.heap[gb510]? = some (.cells #[.int .i64 ((a0a l1_4 x46_2).f0), .int .i64 ((a0a l1_4 x46_2).f1), .int .i64 ((a0a l1_4 x46_2).f2)] 43 (0, 0))) ∧ Aside0 (Below w.heap.size w wc))
            case first =>
             have H := HC41.out
             clear HC41
             replace H := bm_ H
             obtain ⟨t512, A480, H⟩ := H
             replace H : (if t512 = true then (a0b.j2 k2 t496 t498 (wrap64 (x8_2 + (rd t498 x46_2))) x9_2 x46_2 l1_4 (l1_4.length : Int) x46_2 (decide ((rd t498 x46_2) < 0)) a0_0 a0_1 a0_2 a0_3 a0_4 a1_0 a1_1 a1_2 l1_3 l1_4 l1_5 a1_0 a1_1 a1_2 l1_3 x503004_2 l1_5 ((a0a l1_4 x46_2).f0) ((a0a l1_4 x46_2).f1) ((a0a l1_4 x46_2).f2)) else (if (rd t498 x46_2) = 0 then (a0b.j2 k2 t496 t498 (wrap64 (x8_2 + (rd t498 x46_2))) x9_2 x46_2 l1_4 (l1_4.length : Int) x46_2 (decide ((rd t498 x46_2) < 0)) a0_0 a0_1 a0_2 a0_3 a0_4 a1_0 a1_1 a1_2 l1_3 l1_4 l1_5 a1_0 a1_1 a1_2 l1_3 x503004_2 l1_5 ((a0a l1_4 x46_2).f0) ((a0a l1_4 x46_2).f1) ((a0a l1_4 x46_2).f2)) else (a0b.j2 k2 t496 t498 (wrap64 (x8_2 + (rd t498 x46_2))) x9_2 x46_2 l1_4 (l1_4.length : Int) x46_2 true a0_0 a0_1 a0_2 a0_3 a0_4 a1_0 a1_1 a1_2 l1_3 l1_4 l1_5 a1_0 a1_1 a1_2 l1_3 x503004_2 l1_5 ((a0a l1_4 x46_2).f0) ((a0a l1_4 x46_2).f1) ((a0a l1_4 x46_2).f2)))) = some r := H
             have A48 := am_ A480
             clear A480
             by_cases c49 : t512 = true
             ·subst c49
              have H1 : (a0b.j2 k2 t496 t498 (wrap64 (x8_2 + (rd t498 x46_2))) x9_2 x46_2 l1_4 (l1_4.length : Int) x46_2 (decide ((rd t498 x46_2) < 0)) a0_0 a0_1 a0_2 a0_3 a0_4 a1_0 a1_1 a1_2 l1_3 l1_4 l1_5 a1_0 a1_1 a1_2 l1_3 x503004_2 l1_5 ((a0a l1_4 x46_2).f0) ((a0a l1_4 x46_2).f1) ((a0a l1_4 x46_2).f2)) = some r := by rw [if_pos rfl] at H; exact H
              clear H
              have H := H1
              clear H1
              have H' := am_ H
              clear H
              have hnb50 := NB495_494.out
              have hnc50 := NB494_495.out
              have hnb51 := NB495_502.out
              have hnc51 := NB502_495.out
              have hnb52 := NB495_510.out
              have hnc52 := NB510_495.out
              obtain ⟨z'53_0, z'53_1, z'53_2, z'53_3, z'53_4, z'53_5⟩ := qz6_ BK495; obtain ⟨y'53_0, y'53_1, y'53_2, y'53_3, y'53_4, y'53_5⟩ := qf6_ BK495
              have hnb54 := NB510_494.out
              have hnc54 := NB494_510.out
              have hnb55 := NB510_502.out
              have hnc55 := NB502_510.out
              obtain ⟨z'56_0, z'56_1, z'56_2⟩ := qz3_ BK510; obtain ⟨y'56_0, y'56_1, y'56_2⟩ := qf3_ BK510
              go_wp2_with (first | ((with_reducible refine a0c (f := 23) rfl ?_); refine a0q (some 60) rfl rfl Try.func23 (by kernel_rfl) rfl #[.agg #[.int .i64 a1_0, .int .i64 a1_1, .int .i64 a1_2, .slice A1_3 l1_3.length c1_3, .slice (some ad509) l1_4.length c1_4, .slice A1_5 l1_5.length c1_5], .int .i64 ((a0a l1_4 x46_2).f0)] rfl ql_ ?_; (with_reducible refine (a1x.calls k2 a1_0 a1_1 a1_2 _ _ l1_3 _ _ l1_4 _ _ l1_5 ((a0a l1_4 x46_2).f0) true _ ?s1 ?s2 ?s3 ?s4 ?s5 ?s6 A48.out).mono ?_); (case s1 => exact Kd.a1g HR1_3.out qb_); (case s2 => exact HC1_3.out); (case s3 => exact Kd.a1g HR1_4.out qb_); (case s4 => exact HC1_4.out); (case s5 => exact Kd.a1g HR1_5.out qb_); (case s6 => exact HC1_5.out); rintro e w57 ⟨rfl, hb⟩; refine ⟨_, rfl, ?_⟩; replace HO_6 := am_ (Kd.a3b (by (with_reducible repeat (first | apply Kd.a0s | apply Kd.a0t | apply Kd.a0p)); exact (Kd.a2b (Kd.a1j (p := ⟨gb510, 2, none⟩) (Kd.a1j (p := ⟨gb510, 1, none⟩) (Kd.a1j (p := ⟨gb510, 0, none⟩) (Kd.a3n HO_6.out BK510.out (by decide)) (fun _ hk => hk.2) (.int .i64 ((a0a l1_4 x46_2).f0))) (fun _ hk => hk.2) (.int .i64 ((a0a l1_4 x46_2).f1))) (fun _ hk => hk.2) (.int .i64 ((a0a l1_4 x46_2).f2))) (fun _ h_ => h_.1))) hb); replace HO_503004 := am_ (Kd.a3b (by (with_reducible repeat (first | apply Kd.a0s | apply Kd.a0t | apply Kd.a0p)); exact (Kd.a2b (Kd.a1j (p := ⟨gb510, 2, none⟩) (Kd.a1j (p := ⟨gb510, 1, none⟩) (Kd.a1j (p := ⟨gb510, 0, none⟩) (Kd.a2b HO_503004.out (fun k_ hk => (⟨hk, hk.2⟩ : _ ∧ k_ ≠ gb510))) (fun _ hk => hk.2) (.int .i64 ((a0a l1_4 x46_2).f0))) (fun _ hk => hk.2) (.int .i64 ((a0a l1_4 x46_2).f1))) (fun _ hk => hk.2) (.int .i64 ((a0a l1_4 x46_2).f2))) (fun _ h_ => h_.1))) hb); replace BK494 := am_ (a1p (g := gb494) (o := .cells #[.int .i64 a0_0, .int .i64 a0_1, .int .i64 a0_2, .int .i64 a0_3, .bool a0_4] 25 (0, 0)) (by refine qd_ ?_; refine a0f ?_ NB494_510.out _; refine qd_ ?_; refine a0f ?_ NB494_510.out _; refine qd_ ?_; refine a0f ?_ NB494_510.out _; refine qd_ ?_; exact BK494.out) hb); replace BK495 := am_ (a1p (g := gb495) (o := .cells #[.int .i64 a1_0, .int .i64 a1_1, .int .i64 a1_2, .slice A1_3 l1_3.length c1_3, .slice (some ad509) l1_4.length c1_4, .slice A1_5 l1_5.length c1_5] 30 (0, 0)) (by refine qd_ ?_; refine a0f ?_ NB495_510.out _; refine qd_ ?_; refine a0f ?_ NB495_510.out _; refine qd_ ?_; refine a0f ?_ NB495_510.out _; refine qd_ ?_; exact BK495.out) hb); replace BK502 := am_ (a1p (g := gb502) (o := .cells #[.int .i64 a1_0, .int .i64 a1_1, .int .i64 a1_2, .slice A1_3 l1_3.length c1_3, u503004, .slice A1_5 l1_5.length c1_5] 30 (0, 0)) (by refine qd_ ?_; refine a0f ?_ NB502_510.out _; refine qd_ ?_; refine a0f ?_ NB502_510.out _; refine qd_ ?_; refine a0f ?_ NB502_510.out _; refine qd_ ?_; exact BK502.out) hb); replace BK510 := am_ (a1p (g := gb510) (o := .cells #[.int .i64 ((a0a l1_4 x46_2).f0), .int .i64 ((a0a l1_4 x46_2).f1), .int .i64 ((a0a l1_4 x46_2).f2)] 43 (0, 0)) (by refine qd_ ?_; refine a0h (cs := #[.int .i64 ((a0a l1_4 x46_2).f0), .int .i64 ((a0a l1_4 x46_2).f1), .int .i64 0]) ?_ 2 _ rfl; refine qd_ ?_; refine a0h (cs := #[.int .i64 ((a0a l1_4 x46_2).f0), .int .i64 0, .int .i64 0]) ?_ 1 _ rfl; refine qd_ ?_; refine a0h (cs := #[.int .i64 0, .int .i64 0, .int .i64 0]) ?_ 0 _ rfl; refine qd_ ?_; exact BK510.out) hb); replace HB := qbs_ hb; (try clear hb); (try clear hb2); (try clear hk); (try clear hi); have p513 : 0 ≤ (x46_2 : Int) := ot_; have q513 : x46_2 < (t498.length : Int) := ot_; obtain ⟨ad513, e513, hx513_0⟩ := Kd.a1u (Kd.a0j HO_6.out).2.2 x46_2 p513 q513; obtain rfl : ad511 = ad513 := (by injection e513); replace p513 := eq_true p513; replace q513 := eq_true q513))
              go_meet
              case rel => exact ⟨_, (decide ((rd t498 x46_2) < 0)), qs_, H', ⟨by have := HJ6.out; have := HK2.out; first | omega | exact Nat.le_refl _⟩, ⟨by (with_reducible repeat (first | apply Kd.a0s | apply Kd.a0t | apply Kd.a0p)); exact HO_6.out⟩, ⟨by (with_reducible repeat (first | apply Kd.a0s | apply Kd.a0t | apply Kd.a0p)); exact Kd.a2b HO_503004.out (fun _ hk => hk.2)⟩, ⟨qk_ BK494⟩, ⟨qk_ BK495⟩, ⟨qk_ BK502⟩, ⟨qk_ BK510⟩, ⟨qb_⟩⟩
             ·replace c49 := be_ c49
              subst c49
              have H1 : (if (rd t498 x46_2) = 0 then (a0b.j2 k2 t496 t498 (wrap64 (x8_2 + (rd t498 x46_2))) x9_2 x46_2 l1_4 (l1_4.length : Int) x46_2 (decide ((rd t498 x46_2) < 0)) a0_0 a0_1 a0_2 a0_3 a0_4 a1_0 a1_1 a1_2 l1_3 l1_4 l1_5 a1_0 a1_1 a1_2 l1_3 x503004_2 l1_5 ((a0a l1_4 x46_2).f0) ((a0a l1_4 x46_2).f1) ((a0a l1_4 x46_2).f2)) else (a0b.j2 k2 t496 t498 (wrap64 (x8_2 + (rd t498 x46_2))) x9_2 x46_2 l1_4 (l1_4.length : Int) x46_2 true a0_0 a0_1 a0_2 a0_3 a0_4 a1_0 a1_1 a1_2 l1_3 l1_4 l1_5 a1_0 a1_1 a1_2 l1_3 x503004_2 l1_5 ((a0a l1_4 x46_2).f0) ((a0a l1_4 x46_2).f1) ((a0a l1_4 x46_2).f2))) = some r := by rw [if_neg (show ¬ (false = true) by decide)] at H; exact H
              clear H
              have H := H1
              clear H1
              by_cases c58 : (rd t498 x46_2) = 0
              ·rw [if_pos c58] at H
               have c58b0 : ((rd t498 x46_2) == 0) = true := beq_iff_eq.mpr c58
               have c58b1 : ((rd t498 x46_2) != 0) = false := bne_eq_false_iff_eq.mpr c58
               clear c58
               (first | rw [c58b0] | (simp only [a2l, a2y]; rw [c58b0]) | skip)
               have H' := am_ H
               clear H
               have hnb59 := NB495_494.out
               have hnc59 := NB494_495.out
               have hnb60 := NB495_502.out
               have hnc60 := NB502_495.out
               have hnb61 := NB495_510.out
               have hnc61 := NB510_495.out
               obtain ⟨z'62_0, z'62_1, z'62_2, z'62_3, z'62_4, z'62_5⟩ := qz6_ BK495; obtain ⟨y'62_0, y'62_1, y'62_2, y'62_3, y'62_4, y'62_5⟩ := qf6_ BK495
               have hnb63 := NB510_494.out
               have hnc63 := NB494_510.out
               have hnb64 := NB510_502.out
               have hnc64 := NB502_510.out
               obtain ⟨z'65_0, z'65_1, z'65_2⟩ := qz3_ BK510; obtain ⟨y'65_0, y'65_1, y'65_2⟩ := qf3_ BK510
               go_wp2_with (first | ((with_reducible refine a0c (f := 23) rfl ?_); refine a0q (some 60) rfl rfl Try.func23 (by kernel_rfl) rfl #[.agg #[.int .i64 a1_0, .int .i64 a1_1, .int .i64 a1_2, .slice A1_3 l1_3.length c1_3, .slice (some ad509) l1_4.length c1_4, .slice A1_5 l1_5.length c1_5], .int .i64 ((a0a l1_4 x46_2).f0)] rfl ql_ ?_; (with_reducible refine (a1x.calls k2 a1_0 a1_1 a1_2 _ _ l1_3 _ _ l1_4 _ _ l1_5 ((a0a l1_4 x46_2).f0) false _ ?s1 ?s2 ?s3 ?s4 ?s5 ?s6 A48.out).mono ?_); (case s1 => exact Kd.a1g HR1_3.out qb_); (case s2 => exact HC1_3.out); (case s3 => exact Kd.a1g HR1_4.out qb_); (case s4 => exact HC1_4.out); (case s5 => exact Kd.a1g HR1_5.out qb_); (case s6 => exact HC1_5.out); rintro e w66 ⟨rfl, hb⟩; refine ⟨_, rfl, ?_⟩; replace HO_6 := am_ (Kd.a3b (by (with_reducible repeat (first | apply Kd.a0s | apply Kd.a0t | apply Kd.a0p)); exact (Kd.a2b (Kd.a1j (p := ⟨gb510, 2, none⟩) (Kd.a1j (p := ⟨gb510, 1, none⟩) (Kd.a1j (p := ⟨gb510, 0, none⟩) (Kd.a3n HO_6.out BK510.out (by decide)) (fun _ hk => hk.2) (.int .i64 ((a0a l1_4 x46_2).f0))) (fun _ hk => hk.2) (.int .i64 ((a0a l1_4 x46_2).f1))) (fun _ hk => hk.2) (.int .i64 ((a0a l1_4 x46_2).f2))) (fun _ h_ => h_.1))) hb); replace HO_503004 := am_ (Kd.a3b (by (with_reducible repeat (first | apply Kd.a0s | apply Kd.a0t | apply Kd.a0p)); exact (Kd.a2b (Kd.a1j (p := ⟨gb510, 2, none⟩) (Kd.a1j (p := ⟨gb510, 1, none⟩) (Kd.a1j (p := ⟨gb510, 0, none⟩) (Kd.a2b HO_503004.out (fun k_ hk => (⟨hk, hk.2⟩ : _ ∧ k_ ≠ gb510))) (fun _ hk => hk.2) (.int .i64 ((a0a l1_4 x46_2).f0))) (fun _ hk => hk.2) (.int .i64 ((a0a l1_4 x46_2).f1))) (fun _ hk => hk.2) (.int .i64 ((a0a l1_4 x46_2).f2))) (fun _ h_ => h_.1))) hb); replace BK494 := am_ (a1p (g := gb494) (o := .cells #[.int .i64 a0_0, .int .i64 a0_1, .int .i64 a0_2, .int .i64 a0_3, .bool a0_4] 25 (0, 0)) (by refine qd_ ?_; refine a0f ?_ NB494_510.out _; refine qd_ ?_; refine a0f ?_ NB494_510.out _; refine qd_ ?_; refine a0f ?_ NB494_510.out _; refine qd_ ?_; exact BK494.out) hb); replace BK495 := am_ (a1p (g := gb495) (o := .cells #[.int .i64 a1_0, .int .i64 a1_1, .int .i64 a1_2, .slice A1_3 l1_3.length c1_3, .slice (some ad509) l1_4.length c1_4, .slice A1_5 l1_5.length c1_5] 30 (0, 0)) (by refine qd_ ?_; refine a0f ?_ NB495_510.out _; refine qd_ ?_; refine a0f ?_ NB495_510.out _; refine qd_ ?_; refine a0f ?_ NB495_510.out _; refine qd_ ?_; exact BK495.out) hb); replace BK502 := am_ (a1p (g := gb502) (o := .cells #[.int .i64 a1_0, .int .i64 a1_1, .int .i64 a1_2, .slice A1_3 l1_3.length c1_3, u503004, .slice A1_5 l1_5.length c1_5] 30 (0, 0)) (by refine qd_ ?_; refine a0f ?_ NB502_510.out _; refine qd_ ?_; refine a0f ?_ NB502_510.out _; refine qd_ ?_; refine a0f ?_ NB502_510.out _; refine qd_ ?_; exact BK502.out) hb); replace BK510 := am_ (a1p (g := gb510) (o := .cells #[.int .i64 ((a0a l1_4 x46_2).f0), .int .i64 ((a0a l1_4 x46_2).f1), .int .i64 ((a0a l1_4 x46_2).f2)] 43 (0, 0)) (by refine qd_ ?_; refine a0h (cs := #[.int .i64 ((a0a l1_4 x46_2).f0), .int .i64 ((a0a l1_4 x46_2).f1), .int .i64 0]) ?_ 2 _ rfl; refine qd_ ?_; refine a0h (cs := #[.int .i64 ((a0a l1_4 x46_2).f0), .int .i64 0, .int .i64 0]) ?_ 1 _ rfl; refine qd_ ?_; refine a0h (cs := #[.int .i64 0, .int .i64 0, .int .i64 0]) ?_ 0 _ rfl; refine qd_ ?_; exact BK510.out) hb); replace HB := qbs_ hb; (try clear hb); (try clear hb2); (try clear hk); (try clear hi); have p514 : 0 ≤ (x46_2 : Int) := ot_; have q514 : x46_2 < (t498.length : Int) := ot_; obtain ⟨ad514, e514, hx514_0⟩ := Kd.a1u (Kd.a0j HO_6.out).2.2 x46_2 p514 q514; obtain rfl : ad511 = ad514 := (by injection e514); replace p514 := eq_true p514; replace q514 := eq_true q514; have p515 : 0 ≤ (x46_2 : Int) := ot_; have q515 : x46_2 < (t498.length : Int) := ot_; obtain ⟨ad515, e515, hx515_0⟩ := Kd.a1u (Kd.a0j HO_6.out).2.2 x46_2 p515 q515; obtain rfl : ad511 = ad515 := (by injection e515); replace p515 := eq_true p515; replace q515 := eq_true q515))
               go_meet
               case rel => exact ⟨_, (decide ((rd t498 x46_2) < 0)), qs_, H', ⟨by have := HJ6.out; have := HK2.out; first | omega | exact Nat.le_refl _⟩, ⟨by (with_reducible repeat (first | apply Kd.a0s | apply Kd.a0t | apply Kd.a0p)); exact HO_6.out⟩, ⟨by (with_reducible repeat (first | apply Kd.a0s | apply Kd.a0t | apply Kd.a0p)); exact Kd.a2b HO_503004.out (fun _ hk => hk.2)⟩, ⟨qk_ BK494⟩, ⟨qk_ BK495⟩, ⟨qk_ BK502⟩, ⟨qk_ BK510⟩, ⟨qb_⟩⟩
              ·rw [if_neg c58] at H
               have c58b0 : ((rd t498 x46_2) == 0) = false := beq_eq_false_iff_ne.mpr c58
               have c58b1 : ((rd t498 x46_2) != 0) = true := bne_iff_ne.mpr c58
               (first | rw [c58b0] | (simp only [a2l, a2y]; rw [c58b0]) | skip)
               have H' := am_ H
               clear H
               have hnb67 := NB495_494.out
               have hnc67 := NB494_495.out
               have hnb68 := NB495_502.out
               have hnc68 := NB502_495.out
               have hnb69 := NB495_510.out
               have hnc69 := NB510_495.out
               obtain ⟨z'70_0, z'70_1, z'70_2, z'70_3, z'70_4, z'70_5⟩ := qz6_ BK495; obtain ⟨y'70_0, y'70_1, y'70_2, y'70_3, y'70_4, y'70_5⟩ := qf6_ BK495
               have hnb71 := NB510_494.out
               have hnc71 := NB494_510.out
               have hnb72 := NB510_502.out
               have hnc72 := NB502_510.out
               obtain ⟨z'73_0, z'73_1, z'73_2⟩ := qz3_ BK510; obtain ⟨y'73_0, y'73_1, y'73_2⟩ := qf3_ BK510
               go_wp2_with (first | ((with_reducible refine a0c (f := 23) rfl ?_); refine a0q (some 60) rfl rfl Try.func23 (by kernel_rfl) rfl #[.agg #[.int .i64 a1_0, .int .i64 a1_1, .int .i64 a1_2, .slice A1_3 l1_3.length c1_3, .slice (some ad509) l1_4.length c1_4, .slice A1_5 l1_5.length c1_5], .int .i64 ((a0a l1_4 x46_2).f0)] rfl ql_ ?_; (with_reducible refine (a1x.calls k2 a1_0 a1_1 a1_2 _ _ l1_3 _ _ l1_4 _ _ l1_5 ((a0a l1_4 x46_2).f0) false _ ?s1 ?s2 ?s3 ?s4 ?s5 ?s6 A48.out).mono ?_); (case s1 => exact Kd.a1g HR1_3.out qb_); (case s2 => exact HC1_3.out); (case s3 => exact Kd.a1g HR1_4.out qb_); (case s4 => exact HC1_4.out); (case s5 => exact Kd.a1g HR1_5.out qb_); (case s6 => exact HC1_5.out); rintro e w74 ⟨rfl, hb⟩; refine ⟨_, rfl, ?_⟩; replace HO_6 := am_ (Kd.a3b (by (with_reducible repeat (first | apply Kd.a0s | apply Kd.a0t | apply Kd.a0p)); exact (Kd.a2b (Kd.a1j (p := ⟨gb510, 2, none⟩) (Kd.a1j (p := ⟨gb510, 1, none⟩) (Kd.a1j (p := ⟨gb510, 0, none⟩) (Kd.a3n HO_6.out BK510.out (by decide)) (fun _ hk => hk.2) (.int .i64 ((a0a l1_4 x46_2).f0))) (fun _ hk => hk.2) (.int .i64 ((a0a l1_4 x46_2).f1))) (fun _ hk => hk.2) (.int .i64 ((a0a l1_4 x46_2).f2))) (fun _ h_ => h_.1))) hb); replace HO_503004 := am_ (Kd.a3b (by (with_reducible repeat (first | apply Kd.a0s | apply Kd.a0t | apply Kd.a0p)); exact (Kd.a2b (Kd.a1j (p := ⟨gb510, 2, none⟩) (Kd.a1j (p := ⟨gb510, 1, none⟩) (Kd.a1j (p := ⟨gb510, 0, none⟩) (Kd.a2b HO_503004.out (fun k_ hk => (⟨hk, hk.2⟩ : _ ∧ k_ ≠ gb510))) (fun _ hk => hk.2) (.int .i64 ((a0a l1_4 x46_2).f0))) (fun _ hk => hk.2) (.int .i64 ((a0a l1_4 x46_2).f1))) (fun _ hk => hk.2) (.int .i64 ((a0a l1_4 x46_2).f2))) (fun _ h_ => h_.1))) hb); replace BK494 := am_ (a1p (g := gb494) (o := .cells #[.int .i64 a0_0, .int .i64 a0_1, .int .i64 a0_2, .int .i64 a0_3, .bool a0_4] 25 (0, 0)) (by refine qd_ ?_; refine a0f ?_ NB494_510.out _; refine qd_ ?_; refine a0f ?_ NB494_510.out _; refine qd_ ?_; refine a0f ?_ NB494_510.out _; refine qd_ ?_; exact BK494.out) hb); replace BK495 := am_ (a1p (g := gb495) (o := .cells #[.int .i64 a1_0, .int .i64 a1_1, .int .i64 a1_2, .slice A1_3 l1_3.length c1_3, .slice (some ad509) l1_4.length c1_4, .slice A1_5 l1_5.length c1_5] 30 (0, 0)) (by refine qd_ ?_; refine a0f ?_ NB495_510.out _; refine qd_ ?_; refine a0f ?_ NB495_510.out _; refine qd_ ?_; refine a0f ?_ NB495_510.out _; refine qd_ ?_; exact BK495.out) hb); replace BK502 := am_ (a1p (g := gb502) (o := .cells #[.int .i64 a1_0, .int .i64 a1_1, .int .i64 a1_2, .slice A1_3 l1_3.length c1_3, u503004, .slice A1_5 l1_5.length c1_5] 30 (0, 0)) (by refine qd_ ?_; refine a0f ?_ NB502_510.out _; refine qd_ ?_; refine a0f ?_ NB502_510.out _; refine qd_ ?_; refine a0f ?_ NB502_510.out _; refine qd_ ?_; exact BK502.out) hb); replace BK510 := am_ (a1p (g := gb510) (o := .cells #[.int .i64 ((a0a l1_4 x46_2).f0), .int .i64 ((a0a l1_4 x46_2).f1), .int .i64 ((a0a l1_4 x46_2).f2)] 43 (0, 0)) (by refine qd_ ?_; refine a0h (cs := #[.int .i64 ((a0a l1_4 x46_2).f0), .int .i64 ((a0a l1_4 x46_2).f1), .int .i64 0]) ?_ 2 _ rfl; refine qd_ ?_; refine a0h (cs := #[.int .i64 ((a0a l1_4 x46_2).f0), .int .i64 0, .int .i64 0]) ?_ 1 _ rfl; refine qd_ ?_; refine a0h (cs := #[.int .i64 0, .int .i64 0, .int .i64 0]) ?_ 0 _ rfl; refine qd_ ?_; exact BK510.out) hb); replace HB := qbs_ hb; (try clear hb); (try clear hb2); (try clear hk); (try clear hi); have p514 : 0 ≤ (x46_2 : Int) := ot_; have q514 : x46_2 < (t498.length : Int) := ot_; obtain ⟨ad514, e514, hx514_0⟩ := Kd.a1u (Kd.a0j HO_6.out).2.2 x46_2 p514 q514; obtain rfl : ad511 = ad514 := (by injection e514); replace p514 := eq_true p514; replace q514 := eq_true q514))
               go_meet
               case rel => exact ⟨_, (true), qs_, H', ⟨by have := HJ6.out; have := HK2.out; first | omega | exact Nat.le_refl _⟩, ⟨by (with_reducible repeat (first | apply Kd.a0s | apply Kd.a0t | apply Kd.a0p)); exact HO_6.out⟩, ⟨by (with_reducible repeat (first | apply Kd.a0s | apply Kd.a0t | apply Kd.a0p)); exact Kd.a2b HO_503004.out (fun _ hk => hk.2)⟩, ⟨qk_ BK494⟩, ⟨qk_ BK495⟩, ⟨qk_ BK502⟩, ⟨qk_ BK510⟩, ⟨qb_⟩⟩
            case rest =>
             clear HC41
             try clear c1
             try clear c2
             try clear p2
             try clear c3
             try clear c4
             try clear c5
             try clear p5
             try clear q5
             try clear hx5
             try clear c6
             try clear p6
             try clear c7
             try clear c11
             try clear c13
             try clear c18
             try clear c18b0
             try clear c18b1
             try clear c20
             try clear c22
             try clear c23
             try clear c24
             try clear c27
             try clear c28
             try clear c37
             try clear c37b0
             try clear c38
             try clear c38b0
             try clear c39
             try clear c39b0
             try clear c40
             try clear c40b0
             try clear c43
             try clear c44
             try clear c45
             try clear c49
             try clear c50
             try clear p50
             try clear q50
             try clear hx50
             try clear c51
             try clear p51
             try clear q51
             try clear hx51
             try clear c52
             try clear c54
             try clear c55
             try clear c58
             try clear c58b0
             try clear c58b1
             try clear c59
             try clear c60
             try clear c61
             try clear c63
             try clear c64
             try clear p64
             try clear c67
             try clear c68
             try clear c69
             try clear c71
             try clear c72
             try clear z'12_0 z'12_1 z'12_2 z'12_3 z'12_4
             try clear z'13_0 z'13_1 z'13_2 z'13_3 z'13_4 z'13_5
             try clear z'15_0 z'15_1 z'15_2 z'15_3 z'15_4
             try clear z'16_0 z'16_1 z'16_2 z'16_3 z'16_4 z'16_5
             try clear z'21_0 z'21_1 z'21_2 z'21_3 z'21_4 z'21_5
             try clear z'25_0 z'25_1 z'25_2 z'25_3 z'25_4 z'25_5
             try clear z'29_0 z'29_1 z'29_2 z'29_3 z'29_4 z'29_5
             try clear z'32_0 z'32_1 z'32_2 z'32_3 z'32_4 z'32_5
             try clear z'35_0 z'35_1 z'35_2 z'35_3 z'35_4 z'35_5
             try clear z'36_0 z'36_1 z'36_2 z'36_3 z'36_4 z'36_5
             try clear z'46_0 z'46_1 z'46_2
             try clear z'53_0 z'53_1 z'53_2 z'53_3 z'53_4 z'53_5
             try clear z'56_0 z'56_1 z'56_2
             try clear z'62_0 z'62_1 z'62_2 z'62_3 z'62_4 z'62_5
             try clear z'65_0 z'65_1 z'65_2
             try clear z'70_0 z'70_1 z'70_2 z'70_3 z'70_4 z'70_5
             try clear z'73_0 z'73_1 z'73_2
             try clear y'12_0 y'12_1 y'12_2 y'12_3 y'12_4
             try clear y'13_0 y'13_1 y'13_2 y'13_3 y'13_4 y'13_5
             try clear y'15_0 y'15_1 y'15_2 y'15_3 y'15_4
             try clear y'16_0 y'16_1 y'16_2 y'16_3 y'16_4 y'16_5
             try clear y'21_0 y'21_1 y'21_2 y'21_3 y'21_4 y'21_5
             try clear y'25_0 y'25_1 y'25_2 y'25_3 y'25_4 y'25_5
             try clear y'29_0 y'29_1 y'29_2 y'29_3 y'29_4 y'29_5
             try clear y'32_0 y'32_1 y'32_2 y'32_3 y'32_4 y'32_5
             try clear y'35_0 y'35_1 y'35_2 y'35_3 y'35_4 y'35_5
             try clear y'36_0 y'36_1 y'36_2 y'36_3 y'36_4 y'36_5
             try clear y'46_0 y'46_1 y'46_2
             try clear y'53_0 y'53_1 y'53_2 y'53_3 y'53_4 y'53_5
             try clear y'56_0 y'56_1 y'56_2
             try clear y'62_0 y'62_1 y'62_2 y'62_3 y'62_4 y'62_5
             try clear y'65_0 y'65_1 y'65_2
             try clear y'70_0 y'70_1 y'70_2 y'70_3 y'70_4 y'70_5
             try clear y'73_0 y'73_1 y'73_2
             try clear hx509_0
             try clear hx509_1
             try clear hx509_2
             try clear hx511_0
             try clear hx513_0
             try clear hx514_0
             try clear hx515_0
             try clear p2
             try clear p509
             try clear p511
             try clear p513
             try clear p514
             try clear p515
             try clear q509
             try clear q511
             try clear q513
             try clear q514
             try clear q515
             obtain ⟨kq, x75_40, rfl, HA, HJ40, HO_6, HO_503004, BK494, BK495, BK502, BK510, HB⟩ := hcut
             cases kq with
             | zero => exact absurd HA.out (by simp [a0b.j2])
             | succ kj40 =>
              have H := HA.out
              clear HA
              simp only [a0b.j2] at H
              by_cases c75 : x75_40 = true
              ·subst c75
               have H1 : (some false) = some r := by rw [if_pos rfl] at H; exact H
               clear H
               have H := H1
               clear H1
               obtain rfl := si_ H
               go_wp2
               go_ret
               exact ⟨qx_, qb_⟩
              ·replace c75 := be_ c75
               subst c75
               have H1 : ((a1x.f kj40 a1_0 a1_1 a1_2 l1_3 l1_4 l1_5 ((a0a l1_4 x46_2).f0)).bind fun t516 => (if t516 = true then (a0b.j3 kj40 t496 t498 (wrap64 (x8_2 + (rd t498 x46_2))) x9_2 x46_2 l1_4 (l1_4.length : Int) x46_2 true a0_0 a0_1 a0_2 a0_3 a0_4 a1_0 a1_1 a1_2 l1_3 l1_4 l1_5 a1_0 a1_1 a1_2 l1_3 x503004_2 l1_5 ((a0a l1_4 x46_2).f0) ((a0a l1_4 x46_2).f1) ((a0a l1_4 x46_2).f2)) else (if ((a0a l1_4 x46_2).f2) = 0 then (a0b.j3 kj40 t496 t498 (wrap64 (x8_2 + (rd t498 x46_2))) x9_2 x46_2 l1_4 (l1_4.length : Int) x46_2 false a0_0 a0_1 a0_2 a0_3 a0_4 a1_0 a1_1 a1_2 l1_3 l1_4 l1_5 a1_0 a1_1 a1_2 l1_3 x503004_2 l1_5 ((a0a l1_4 x46_2).f0) ((a0a l1_4 x46_2).f1) ((a0a l1_4 x46_2).f2)) else ((a1x.f kj40 a1_0 a1_1 a1_2 l1_3 l1_4 l1_5 ((a0a l1_4 x46_2).f2)).bind fun t517 => (a0b.j3 kj40 t496 t498 (wrap64 (x8_2 + (rd t498 x46_2))) x9_2 x46_2 l1_4 (l1_4.length : Int) x46_2 t517 a0_0 a0_1 a0_2 a0_3 a0_4 a1_0 a1_1 a1_2 l1_3 l1_4 l1_5 a1_0 a1_1 a1_2 l1_3 x503004_2 l1_5 ((a0a l1_4 x46_2).f0) ((a0a l1_4 x46_2).f1) ((a0a l1_4 x46_2).f2)))))) = some r := by rw [if_neg (show ¬ (false = true) by decide)] at H; exact H
               clear H
               have H := H1
               clear H1
               have HC76 := am_ H
               clear H
               go_upto_region 16 with (fail)
               go_cut [90] (fun v90 wc => ∃ (kq : Nat) (x90_75 : Bool), v90 = .bool x90_75 ∧ Aside0 (a0b.j3 kq t496 t498 (wrap64 (x8_2 + (rd t498 x46_2))) x9_2 x46_2 l1_4 (l1_4.length : Int) x46_2 x90_75 a0_0 a0_1 a0_2 a0_3 a0_4 a1_0 a1_1 a1_2 l1_3 l1_4 l1_5 a1_0 a1_1 a1_2 l1_3 x503004_2 l1_5 ((a0a l1_4 x46_2).f0) ((a0a l1_4 x46_2).f1) ((a0a l1_4 x46_2).f2) = some r) ∧ Aside0 (kq ≤ kj40) ∧ Aside0 (Kd.R (Kd.int .i64) 3 wc w.heap.size (fun _ => True) (.slice (some ad511) t498.length co47) t498) ∧ Aside0 (Kd.R k43 43 wc w.heap.size (fun k_ => k_ ≠ gb510) u503004 x503004_2) ∧ Aside0 (wc.heap[gb494]? = some (.cells #[.int .i64 a0_0, .int .i64 a0_1, .int .i64 a0_2, .int .i64 a0_3, .bool a0_4] 25 (0, 0))) ∧ Aside0 (wc.heap[gb495]? = some (.cells #[.int .i64 a1_0, .int .i64 a1_1, .int .i64 a1_2, (.slice A1_3 l1_3.length c1_3), (.slice (some ad509) l1_4.length c1_4), (.slice A1_5 l1_5.length c1_5)] 30 (0, 0))) ∧ Aside0 (wc.heap[gb502]? = some (.cells #[.int .i64 a1_0, .int .i64 a1_1, .int .i64 a1_2, (.slice A1_3 l1_3.length c1_3), u503004, (.slice A1_5 l1_5.length c1_5)] 30 (0, 0))) ∧ Aside0 (wc.heap[gb510]? = some (.cells #[.int .i64 ((a0a l1_4 x46_2).f0), .int .i64 ((a0a l1_4 x46_2).f1), .int .i64 ((a0a l1_4 x46_2).f2)] 43 (0, 0))) ∧ Aside0 (Below w.heap.size w wc))
               case first =>
                have H := HC76.out
                clear HC76
                replace H := bm_ H
                obtain ⟨t516, A770, H⟩ := H
                replace H : (if t516 = true then (a0b.j3 kj40 t496 t498 (wrap64 (x8_2 + (rd t498 x46_2))) x9_2 x46_2 l1_4 (l1_4.length : Int) x46_2 true a0_0 a0_1 a0_2 a0_3 a0_4 a1_0 a1_1 a1_2 l1_3 l1_4 l1_5 a1_0 a1_1 a1_2 l1_3 x503004_2 l1_5 ((a0a l1_4 x46_2).f0) ((a0a l1_4 x46_2).f1) ((a0a l1_4 x46_2).f2)) else (if ((a0a l1_4 x46_2).f2) = 0 then (a0b.j3 kj40 t496 t498 (wrap64 (x8_2 + (rd t498 x46_2))) x9_2 x46_2 l1_4 (l1_4.length : Int) x46_2 false a0_0 a0_1 a0_2 a0_3 a0_4 a1_0 a1_1 a1_2 l1_3 l1_4 l1_5 a1_0 a1_1 a1_2 l1_3 x503004_2 l1_5 ((a0a l1_4 x46_2).f0) ((a0a l1_4 x46_2).f1) ((a0a l1_4 x46_2).f2)) else ((a1x.f kj40 a1_0 a1_1 a1_2 l1_3 l1_4 l1_5 ((a0a l1_4 x46_2).f2)).bind fun t517 => (a0b.j3 kj40 t496 t498 (wrap64 (x8_2 + (rd t498 x46_2))) x9_2 x46_2 l1_4 (l1_4.length : Int) x46_2 t517 a0_0 a0_1 a0_2 a0_3 a0_4 a1_0 a1_1 a1_2 l1_3 l1_4 l1_5 a1_0 a1_1 a1_2 l1_3 x503004_2 l1_5 ((a0a l1_4 x46_2).f0) ((a0a l1_4 x46_2).f1) ((a0a l1_4 x46_2).f2))))) = some r := H
                have A77 := am_ A770
                clear A770
                by_cases c78 : t516 = true
                ·subst c78
                 have H1 : (a0b.j3 kj40 t496 t498 (wrap64 (x8_2 + (rd t498 x46_2))) x9_2 x46_2 l1_4 (l1_4.length : Int) x46_2 true a0_0 a0_1 a0_2 a0_3 a0_4 a1_0 a1_1 a1_2 l1_3 l1_4 l1_5 a1_0 a1_1 a1_2 l1_3 x503004_2 l1_5 ((a0a l1_4 x46_2).f0) ((a0a l1_4 x46_2).f1) ((a0a l1_4 x46_2).f2)) = some r := by rw [if_pos rfl] at H; exact H
                 clear H
                 have H := H1
                 clear H1
                 have H' := am_ H
                 clear H
                 have hnb79 := NB495_494.out
                 have hnc79 := NB494_495.out
                 have hnb80 := NB495_502.out
                 have hnc80 := NB502_495.out
                 have hnb81 := NB495_510.out
                 have hnc81 := NB510_495.out
                 obtain ⟨z'82_0, z'82_1, z'82_2, z'82_3, z'82_4, z'82_5⟩ := qz6_ BK495; obtain ⟨y'82_0, y'82_1, y'82_2, y'82_3, y'82_4, y'82_5⟩ := qf6_ BK495
                 have hnb83 := NB510_494.out
                 have hnc83 := NB494_510.out
                 have hnb84 := NB510_502.out
                 have hnc84 := NB502_510.out
                 obtain ⟨z'85_0, z'85_1, z'85_2⟩ := qz3_ BK510; obtain ⟨y'85_0, y'85_1, y'85_2⟩ := qf3_ BK510
                 go_wp2_with (first | ((with_reducible refine a0c (f := 23) rfl ?_); refine a0q (some 79) rfl rfl Try.func23 (by kernel_rfl) rfl #[.agg #[.int .i64 a1_0, .int .i64 a1_1, .int .i64 a1_2, .slice A1_3 l1_3.length c1_3, .slice (some ad509) l1_4.length c1_4, .slice A1_5 l1_5.length c1_5], .int .i64 ((a0a l1_4 x46_2).f0)] rfl ql_ ?_; (with_reducible refine (a1x.calls kj40 a1_0 a1_1 a1_2 _ _ l1_3 _ _ l1_4 _ _ l1_5 ((a0a l1_4 x46_2).f0) true _ ?s1 ?s2 ?s3 ?s4 ?s5 ?s6 A77.out).mono ?_); (case s1 => exact qc_ HR1_3); (case s2 => exact HC1_3.out); (case s3 => exact qc_ HR1_4); (case s4 => exact HC1_4.out); (case s5 => exact qc_ HR1_5); (case s6 => exact HC1_5.out); rintro e w86 ⟨rfl, hb⟩; refine ⟨_, rfl, ?_⟩; replace HO_6 := qrb_ HO_6 hb; replace HO_503004 := qrb_ HO_503004 hb; replace BK494 := qkb_ BK494 hb; replace BK495 := qkb_ BK495 hb; replace BK502 := qkb_ BK502 hb; replace BK510 := qkb_ BK510 hb; replace HB := qbs_ hb; (try clear hb); (try clear hb2); (try clear hk); (try clear hi)))
                 go_meet
                 case rel => exact ⟨_, (true), qs_, H', ⟨by have := HJ6.out; have := HK2.out; have := HJ40.out; first | omega | exact Nat.le_refl _⟩, ⟨by (with_reducible repeat (first | apply Kd.a0s | apply Kd.a0t | apply Kd.a0p)); exact HO_6.out⟩, ⟨by (with_reducible repeat (first | apply Kd.a0s | apply Kd.a0t | apply Kd.a0p)); exact HO_503004.out⟩, ⟨qk_ BK494⟩, ⟨qk_ BK495⟩, ⟨qk_ BK502⟩, ⟨qk_ BK510⟩, ⟨qb_⟩⟩
                ·replace c78 := be_ c78
                 subst c78
                 have H1 : (if ((a0a l1_4 x46_2).f2) = 0 then (a0b.j3 kj40 t496 t498 (wrap64 (x8_2 + (rd t498 x46_2))) x9_2 x46_2 l1_4 (l1_4.length : Int) x46_2 false a0_0 a0_1 a0_2 a0_3 a0_4 a1_0 a1_1 a1_2 l1_3 l1_4 l1_5 a1_0 a1_1 a1_2 l1_3 x503004_2 l1_5 ((a0a l1_4 x46_2).f0) ((a0a l1_4 x46_2).f1) ((a0a l1_4 x46_2).f2)) else ((a1x.f kj40 a1_0 a1_1 a1_2 l1_3 l1_4 l1_5 ((a0a l1_4 x46_2).f2)).bind fun t517 => (a0b.j3 kj40 t496 t498 (wrap64 (x8_2 + (rd t498 x46_2))) x9_2 x46_2 l1_4 (l1_4.length : Int) x46_2 t517 a0_0 a0_1 a0_2 a0_3 a0_4 a1_0 a1_1 a1_2 l1_3 l1_4 l1_5 a1_0 a1_1 a1_2 l1_3 x503004_2 l1_5 ((a0a l1_4 x46_2).f0) ((a0a l1_4 x46_2).f1) ((a0a l1_4 x46_2).f2)))) = some r := by rw [if_neg (show ¬ (false = true) by decide)] at H; exact H
                 clear H
                 have H := H1
                 clear H1
                 by_cases c87 : ((a0a l1_4 x46_2).f2) = 0
                 ·rw [if_pos c87] at H
                  have c87b0 : (((a0a l1_4 x46_2).f2) == 0) = true := beq_iff_eq.mpr c87
                  have c87b1 : (((a0a l1_4 x46_2).f2) != 0) = false := bne_eq_false_iff_eq.mpr c87
                  clear c87
                  (first | rw [c87b0] | (simp only [a2l, a2y]; rw [c87b0]) | skip)
                  have H' := am_ H
                  clear H
                  have hnb88 := NB495_494.out
                  have hnc88 := NB494_495.out
                  have hnb89 := NB495_502.out
                  have hnc89 := NB502_495.out
                  have hnb90 := NB495_510.out
                  have hnc90 := NB510_495.out
                  obtain ⟨z'91_0, z'91_1, z'91_2, z'91_3, z'91_4, z'91_5⟩ := qz6_ BK495; obtain ⟨y'91_0, y'91_1, y'91_2, y'91_3, y'91_4, y'91_5⟩ := qf6_ BK495
                  have hnb92 := NB510_494.out
                  have hnc92 := NB494_510.out
                  have hnb93 := NB510_502.out
                  have hnc93 := NB502_510.out
                  obtain ⟨z'94_0, z'94_1, z'94_2⟩ := qz3_ BK510; obtain ⟨y'94_0, y'94_1, y'94_2⟩ := qf3_ BK510
                  go_wp2_with (first | ((with_reducible refine a0c (f := 23) rfl ?_); refine a0q (some 79) rfl rfl Try.func23 (by kernel_rfl) rfl #[.agg #[.int .i64 a1_0, .int .i64 a1_1, .int .i64 a1_2, .slice A1_3 l1_3.length c1_3, .slice (some ad509) l1_4.length c1_4, .slice A1_5 l1_5.length c1_5], .int .i64 ((a0a l1_4 x46_2).f0)] rfl ql_ ?_; (with_reducible refine (a1x.calls kj40 a1_0 a1_1 a1_2 _ _ l1_3 _ _ l1_4 _ _ l1_5 ((a0a l1_4 x46_2).f0) false _ ?s1 ?s2 ?s3 ?s4 ?s5 ?s6 A77.out).mono ?_); (case s1 => exact qc_ HR1_3); (case s2 => exact HC1_3.out); (case s3 => exact qc_ HR1_4); (case s4 => exact HC1_4.out); (case s5 => exact qc_ HR1_5); (case s6 => exact HC1_5.out); rintro e w95 ⟨rfl, hb⟩; refine ⟨_, rfl, ?_⟩; replace HO_6 := qrb_ HO_6 hb; replace HO_503004 := qrb_ HO_503004 hb; replace BK494 := qkb_ BK494 hb; replace BK495 := qkb_ BK495 hb; replace BK502 := qkb_ BK502 hb; replace BK510 := qkb_ BK510 hb; replace HB := qbs_ hb; (try clear hb); (try clear hb2); (try clear hk); (try clear hi); obtain ⟨z'96_0, z'96_1, z'96_2⟩ := qz3_ BK510; obtain ⟨y'96_0, y'96_1, y'96_2⟩ := qf3_ BK510))
                  go_meet
                  case rel => exact ⟨_, (false), qs_, H', ⟨by have := HJ6.out; have := HK2.out; have := HJ40.out; first | omega | exact Nat.le_refl _⟩, ⟨by (with_reducible repeat (first | apply Kd.a0s | apply Kd.a0t | apply Kd.a0p)); exact HO_6.out⟩, ⟨by (with_reducible repeat (first | apply Kd.a0s | apply Kd.a0t | apply Kd.a0p)); exact HO_503004.out⟩, ⟨qk_ BK494⟩, ⟨qk_ BK495⟩, ⟨qk_ BK502⟩, ⟨qk_ BK510⟩, ⟨qb_⟩⟩
                 ·rw [if_neg c87] at H
                  have c87b0 : (((a0a l1_4 x46_2).f2) == 0) = false := beq_eq_false_iff_ne.mpr c87
                  have c87b1 : (((a0a l1_4 x46_2).f2) != 0) = true := bne_iff_ne.mpr c87
                  (first | rw [c87b0] | (simp only [a2l, a2y]; rw [c87b0]) | skip)
                  replace H := bm_ H
                  obtain ⟨t517, A970, H⟩ := H
                  replace H : (a0b.j3 kj40 t496 t498 (wrap64 (x8_2 + (rd t498 x46_2))) x9_2 x46_2 l1_4 (l1_4.length : Int) x46_2 t517 a0_0 a0_1 a0_2 a0_3 a0_4 a1_0 a1_1 a1_2 l1_3 l1_4 l1_5 a1_0 a1_1 a1_2 l1_3 x503004_2 l1_5 ((a0a l1_4 x46_2).f0) ((a0a l1_4 x46_2).f1) ((a0a l1_4 x46_2).f2)) = some r := H
                  have A97 := am_ A970
                  clear A970
                  have H' := am_ H
                  clear H
                  have hnb98 := NB495_494.out
                  have hnc98 := NB494_495.out
                  have hnb99 := NB495_502.out
                  have hnc99 := NB502_495.out
                  have hnb100 := NB495_510.out
                  have hnc100 := NB510_495.out
                  obtain ⟨z'101_0, z'101_1, z'101_2, z'101_3, z'101_4, z'101_5⟩ := qz6_ BK495; obtain ⟨y'101_0, y'101_1, y'101_2, y'101_3, y'101_4, y'101_5⟩ := qf6_ BK495
                  have hnb102 := NB510_494.out
                  have hnc102 := NB494_510.out
                  have hnb103 := NB510_502.out
                  have hnc103 := NB502_510.out
                  obtain ⟨z'104_0, z'104_1, z'104_2⟩ := qz3_ BK510; obtain ⟨y'104_0, y'104_1, y'104_2⟩ := qf3_ BK510
                  go_wp2_with (first | ((with_reducible refine a0c (f := 23) rfl ?_); refine a0q (some 79) rfl rfl Try.func23 (by kernel_rfl) rfl #[.agg #[.int .i64 a1_0, .int .i64 a1_1, .int .i64 a1_2, .slice A1_3 l1_3.length c1_3, .slice (some ad509) l1_4.length c1_4, .slice A1_5 l1_5.length c1_5], .int .i64 ((a0a l1_4 x46_2).f0)] rfl ql_ ?_; (with_reducible refine (a1x.calls kj40 a1_0 a1_1 a1_2 _ _ l1_3 _ _ l1_4 _ _ l1_5 ((a0a l1_4 x46_2).f0) false _ ?s1 ?s2 ?s3 ?s4 ?s5 ?s6 A77.out).mono ?_); (case s1 => exact qc_ HR1_3); (case s2 => exact HC1_3.out); (case s3 => exact qc_ HR1_4); (case s4 => exact HC1_4.out); (case s5 => exact qc_ HR1_5); (case s6 => exact HC1_5.out); rintro e w105 ⟨rfl, hb⟩; refine ⟨_, rfl, ?_⟩; replace HO_6 := qrb_ HO_6 hb; replace HO_503004 := qrb_ HO_503004 hb; replace BK494 := qkb_ BK494 hb; replace BK495 := qkb_ BK495 hb; replace BK502 := qkb_ BK502 hb; replace BK510 := qkb_ BK510 hb; replace HB := qbs_ hb; (try clear hb); (try clear hb2); (try clear hk); (try clear hi); obtain ⟨z'106_0, z'106_1, z'106_2⟩ := qz3_ BK510; obtain ⟨y'106_0, y'106_1, y'106_2⟩ := qf3_ BK510; obtain ⟨z'107_0, z'107_1, z'107_2, z'107_3, z'107_4, z'107_5⟩ := qz6_ BK495; obtain ⟨y'107_0, y'107_1, y'107_2, y'107_3, y'107_4, y'107_5⟩ := qf6_ BK495) | (go_at_call 23; (with_reducible refine (a1x.calls kj40 a1_0 a1_1 a1_2 _ _ l1_3 _ _ l1_4 _ _ l1_5 ((a0a l1_4 x46_2).f2) t517 _ ?s1 ?s2 ?s3 ?s4 ?s5 ?s6 A97.out).mono ?_); (case s1 => exact qc_ HR1_3); (case s2 => exact HC1_3.out); (case s3 => exact qc_ HR1_4); (case s4 => exact HC1_4.out); (case s5 => exact qc_ HR1_5); (case s6 => exact HC1_5.out); rintro e w108 ⟨rfl, hb⟩; replace HO_6 := qrb_ HO_6 hb; replace HO_503004 := qrb_ HO_503004 hb; replace BK494 := qkb_ BK494 hb; replace BK495 := qkb_ BK495 hb; replace BK502 := qkb_ BK502 hb; replace BK510 := qkb_ BK510 hb; replace HB := qbs_ hb; (try clear hb); (try clear hb2); (try clear hk); (try clear hi)))
                  go_meet
                  case rel => exact ⟨_, (t517), qs_, H', ⟨by have := HJ6.out; have := HK2.out; have := HJ40.out; first | omega | exact Nat.le_refl _⟩, ⟨by (with_reducible repeat (first | apply Kd.a0s | apply Kd.a0t | apply Kd.a0p)); exact HO_6.out⟩, ⟨by (with_reducible repeat (first | apply Kd.a0s | apply Kd.a0t | apply Kd.a0p)); exact HO_503004.out⟩, ⟨qk_ BK494⟩, ⟨qk_ BK495⟩, ⟨qk_ BK502⟩, ⟨qk_ BK510⟩, ⟨qb_⟩⟩
               case rest =>
                clear HC76
                try clear c1
                try clear c2
                try clear p2
                try clear c3
                try clear c4
                try clear c5
                try clear p5
                try clear q5
                try clear hx5
                try clear c6
                try clear p6
                try clear c7
                try clear c8
                try clear c9
                try clear c10
                try clear c11
                try clear c13
                try clear c18
                try clear c18b0
                try clear c18b1
                try clear c20
                try clear c22
                try clear c23
                try clear c24
                try clear c27
                try clear c28
                try clear c37
                try clear c37b0
                try clear c38
                try clear c38b0
                try clear c39
                try clear c39b0
                try clear c40
                try clear c40b0
                try clear c43
                try clear c44
                try clear c45
                try clear c49
                try clear c50
                try clear p50
                try clear q50
                try clear hx50
                try clear c51
                try clear p51
                try clear q51
                try clear hx51
                try clear c52
                try clear c54
                try clear c55
                try clear c58
                try clear c58b0
                try clear c58b1
                try clear c59
                try clear c60
                try clear c61
                try clear c63
                try clear c64
                try clear p64
                try clear c67
                try clear c68
                try clear c69
                try clear c71
                try clear c72
                try clear c75
                try clear c78
                try clear c79
                try clear c80
                try clear c81
                try clear c83
                try clear c84
                try clear c87
                try clear c87b0
                try clear c87b1
                try clear c88
                try clear c89
                try clear c90
                try clear c92
                try clear c93
                try clear c98
                try clear c99
                try clear c100
                try clear c102
                try clear c103
                try clear z'101_0 z'101_1 z'101_2 z'101_3 z'101_4 z'101_5
                try clear z'104_0 z'104_1 z'104_2
                try clear z'106_0 z'106_1 z'106_2
                try clear z'107_0 z'107_1 z'107_2 z'107_3 z'107_4 z'107_5
                try clear z'12_0 z'12_1 z'12_2 z'12_3 z'12_4
                try clear z'13_0 z'13_1 z'13_2 z'13_3 z'13_4 z'13_5
                try clear z'15_0 z'15_1 z'15_2 z'15_3 z'15_4
                try clear z'16_0 z'16_1 z'16_2 z'16_3 z'16_4 z'16_5
                try clear z'21_0 z'21_1 z'21_2 z'21_3 z'21_4 z'21_5
                try clear z'25_0 z'25_1 z'25_2 z'25_3 z'25_4 z'25_5
                try clear z'29_0 z'29_1 z'29_2 z'29_3 z'29_4 z'29_5
                try clear z'32_0 z'32_1 z'32_2 z'32_3 z'32_4 z'32_5
                try clear z'35_0 z'35_1 z'35_2 z'35_3 z'35_4 z'35_5
                try clear z'36_0 z'36_1 z'36_2 z'36_3 z'36_4 z'36_5
                try clear z'46_0 z'46_1 z'46_2
                try clear z'53_0 z'53_1 z'53_2 z'53_3 z'53_4 z'53_5
                try clear z'56_0 z'56_1 z'56_2
                try clear z'62_0 z'62_1 z'62_2 z'62_3 z'62_4 z'62_5
                try clear z'65_0 z'65_1 z'65_2
                try clear z'70_0 z'70_1 z'70_2 z'70_3 z'70_4 z'70_5
                try clear z'73_0 z'73_1 z'73_2
                try clear z'82_0 z'82_1 z'82_2 z'82_3 z'82_4 z'82_5
                try clear z'85_0 z'85_1 z'85_2
                try clear z'91_0 z'91_1 z'91_2 z'91_3 z'91_4 z'91_5
                try clear z'94_0 z'94_1 z'94_2
                try clear z'96_0 z'96_1 z'96_2
                try clear y'101_0 y'101_1 y'101_2 y'101_3 y'101_4 y'101_5
                try clear y'104_0 y'104_1 y'104_2
                try clear y'106_0 y'106_1 y'106_2
                try clear y'107_0 y'107_1 y'107_2 y'107_3 y'107_4 y'107_5
                try clear y'12_0 y'12_1 y'12_2 y'12_3 y'12_4
                try clear y'13_0 y'13_1 y'13_2 y'13_3 y'13_4 y'13_5
                try clear y'15_0 y'15_1 y'15_2 y'15_3 y'15_4
                try clear y'16_0 y'16_1 y'16_2 y'16_3 y'16_4 y'16_5
                try clear y'21_0 y'21_1 y'21_2 y'21_3 y'21_4 y'21_5
                try clear y'25_0 y'25_1 y'25_2 y'25_3 y'25_4 y'25_5
                try clear y'29_0 y'29_1 y'29_2 y'29_3 y'29_4 y'29_5
                try clear y'32_0 y'32_1 y'32_2 y'32_3 y'32_4 y'32_5
                try clear y'35_0 y'35_1 y'35_2 y'35_3 y'35_4 y'35_5
                try clear y'36_0 y'36_1 y'36_2 y'36_3 y'36_4 y'36_5
                try clear y'46_0 y'46_1 y'46_2
                try clear y'53_0 y'53_1 y'53_2 y'53_3 y'53_4 y'53_5
                try clear y'56_0 y'56_1 y'56_2
                try clear y'62_0 y'62_1 y'62_2 y'62_3 y'62_4 y'62_5
                try clear y'65_0 y'65_1 y'65_2
                try clear y'70_0 y'70_1 y'70_2 y'70_3 y'70_4 y'70_5
                try clear y'73_0 y'73_1 y'73_2
                try clear y'82_0 y'82_1 y'82_2 y'82_3 y'82_4 y'82_5
                try clear y'85_0 y'85_1 y'85_2
                try clear y'91_0 y'91_1 y'91_2 y'91_3 y'91_4 y'91_5
                try clear y'94_0 y'94_1 y'94_2
                try clear y'96_0 y'96_1 y'96_2
                try clear hx509_0
                try clear hx509_1
                try clear hx509_2
                try clear hx511_0
                try clear hx513_0
                try clear hx514_0
                try clear hx515_0
                try clear p2
                try clear p5
                try clear p50
                try clear p509
                try clear p51
                try clear p511
                try clear p513
                try clear p514
                try clear p515
                try clear p6
                try clear p64
                try clear q5
                try clear q50
                try clear q509
                try clear q51
                try clear q511
                try clear q513
                try clear q514
                try clear q515
                obtain ⟨kq, x90_75, rfl, HA, HJ75, HO_6, HO_503004, BK494, BK495, BK502, BK510, HB⟩ := hcut
                cases kq with
                | zero => exact absurd HA.out (by simp [a0b.j3])
                | succ kj75 =>
                 have H := HA.out
                 clear HA
                 simp only [a0b.j3] at H
                 by_cases c109 : x90_75 = true
                 ·subst c109
                  have H1 : (if a0_4 = true then (if 0 ≤ x46_2 then (if x46_2 < (x503004_2.length : Int) then (a0b.l0 kj75 t496 t498 (wrap64 (x8_2 + (rd t498 x46_2))) (wrap64 ((wrap64 (x9_2 + ((a0a l1_4 x46_2).f1))) + (wrap64 (1 - ((a0a l1_4 x46_2).f1))))) l1_4 (l1_4.length : Int) (wrap64 (x46_2 + 1)) a0_0 a0_1 a0_2 a0_3 a0_4 a1_0 a1_1 a1_2 l1_3 l1_4 l1_5 a1_0 a1_1 a1_2 l1_3 (x503004_2.set (x46_2 : Int).toNat (⟨(a0a x503004_2 x46_2).f0, wrap64 (1000 - ((a0a l1_4 x46_2).f1)), (a0a x503004_2 x46_2).f2⟩ : S43)) l1_5) else (none)) else (none)) else (if 0 ≤ x46_2 then (if x46_2 < (x503004_2.length : Int) then (a0b.l0 kj75 t496 t498 (wrap64 (x8_2 + (rd t498 x46_2))) (wrap64 (x9_2 + ((a0a l1_4 x46_2).f1))) l1_4 (l1_4.length : Int) (wrap64 (x46_2 + 1)) a0_0 a0_1 a0_2 a0_3 a0_4 a1_0 a1_1 a1_2 l1_3 l1_4 l1_5 a1_0 a1_1 a1_2 l1_3 (x503004_2.set (x46_2 : Int).toNat (⟨(a0a x503004_2 x46_2).f0, wrap64 (1000 - ((a0a l1_4 x46_2).f1)), (a0a x503004_2 x46_2).f2⟩ : S43)) l1_5) else (none)) else (none))) = some r := by rw [if_pos rfl] at H; exact H
                  clear H
                  have H := H1
                  clear H1
                  by_cases c110 : a0_4 = true
                  ·subst c110
                   have H1 : (if 0 ≤ x46_2 then (if x46_2 < (x503004_2.length : Int) then (a0b.l0 kj75 t496 t498 (wrap64 (x8_2 + (rd t498 x46_2))) (wrap64 ((wrap64 (x9_2 + ((a0a l1_4 x46_2).f1))) + (wrap64 (1 - ((a0a l1_4 x46_2).f1))))) l1_4 (l1_4.length : Int) (wrap64 (x46_2 + 1)) a0_0 a0_1 a0_2 a0_3 true a1_0 a1_1 a1_2 l1_3 l1_4 l1_5 a1_0 a1_1 a1_2 l1_3 (x503004_2.set (x46_2 : Int).toNat (⟨(a0a x503004_2 x46_2).f0, wrap64 (1000 - ((a0a l1_4 x46_2).f1)), (a0a x503004_2 x46_2).f2⟩ : S43)) l1_5) else (none)) else (none)) = some r := by rw [if_pos rfl] at H; exact H
                   clear H
                   have H := H1
                   clear H1
                   by_cases c111 : 0 ≤ x46_2
                   ·rw [if_pos c111] at H
                    have c111b0 : decide (0 ≤ x46_2) = true := decide_eq_true c111
                    clear c111
                    by_cases c112 : x46_2 < (x503004_2.length : Int)
                    ·rw [if_pos c112] at H
                     have c112b0 : decide (x46_2 < (x503004_2.length : Int)) = true := decide_eq_true c112
                     clear c112
                     obtain ⟨y518, hy518⟩ : ∃ y_ : List (S43), y_ = (x503004_2.set (x46_2 : Int).toNat (⟨(a0a x503004_2 x46_2).f0, wrap64 (1000 - ((a0a l1_4 x46_2).f1)), (a0a x503004_2 x46_2).f2⟩ : S43)) := ⟨_, rfl⟩
                     replace H : (a0b.l0 kj75 t496 t498 (wrap64 (x8_2 + (rd t498 x46_2))) (wrap64 ((wrap64 (x9_2 + ((a0a l1_4 x46_2).f1))) + (wrap64 (1 - ((a0a l1_4 x46_2).f1))))) l1_4 (l1_4.length : Int) (wrap64 (x46_2 + 1)) a0_0 a0_1 a0_2 a0_3 true a1_0 a1_1 a1_2 l1_3 l1_4 l1_5 a1_0 a1_1 a1_2 l1_3 y518 l1_5) = some r := by first | (rw [hy518]; with_reducible exact H) | (have H2_ := (Option.bind_some _ _).symm.trans H; rw [hy518]; with_reducible exact H2_) | (have H2_ := (Option.bind_some _ _).symm.trans H; with_reducible exact H2_) | with_reducible exact H | (rw [hy518]; exact H) | exact H
                     have Ny518 := am_ hy518
                     clear hy518
                     have H' := am_ H
                     clear H
                     have hnb114 := NB510_494.out
                     have hnc114 := NB494_510.out
                     have hnb115 := NB510_495.out
                     have hnc115 := NB495_510.out
                     have hnb116 := NB510_502.out
                     have hnc116 := NB502_510.out
                     obtain ⟨z'117_0, z'117_1, z'117_2⟩ := qz3_ BK510; obtain ⟨y'117_0, y'117_1, y'117_2⟩ := qf3_ BK510
                     have hnb118 := NB494_495.out
                     have hnc118 := NB495_494.out
                     have hnb119 := NB494_502.out
                     have hnc119 := NB502_494.out
                     obtain ⟨z'120_0, z'120_1, z'120_2, z'120_3, z'120_4⟩ := qz5_ BK494; obtain ⟨y'120_0, y'120_1, y'120_2, y'120_3, y'120_4⟩ := qf5_ BK494
                     have hnb121 := NB502_495.out
                     have hnc121 := NB495_502.out
                     obtain ⟨z'122_0, z'122_1, z'122_2, z'122_3, z'122_4, z'122_5⟩ := qz6_ BK502; obtain ⟨y'122_0, y'122_1, y'122_2, y'122_3, y'122_4, y'122_5⟩ := qf6_ BK502
                     have p113 : 0 ≤ (x46_2 : Int) := ot_
                     have q113 : (x46_2 : Int) < ((x503004_2.length : Int) : Int) := ot_
                     obtain ⟨go113, co113, eo113, gb113, gl113, cl113, HG113⟩ := Kd.a7b HO_503004.out (by omega)
                     (first | cases eo113 | (injection eo113 with ea_ en_ ec_; (first | subst ea_ | (injection ea_ with ea_; subst ea_)); subst ec_; clear en_))
                     have GB113 := am_ gb113
                     have GG113 := am_ HG113
                     clear gb113 gl113 HG113
                     obtain ⟨ce113, hcl113, hM113, hcc113, hfr113⟩ := Kd.a7c HO_503004.out z43 (x46_2 : Int) p113 q113
                     obtain rfl := a5u hM113
                     have hx113_0 : wc.cell? ⟨go113, (x46_2 : Int).toNat * 3, none⟩ = some (.int .i64 ((a0a x503004_2 x46_2).f0)) := hcc113 0 _ rfl
                     have hx113_1 : wc.cell? ⟨go113, (x46_2 : Int).toNat * 3 + 1, none⟩ = some (.int .i64 ((a0a x503004_2 x46_2).f1)) := hcc113 1 _ rfl
                     have hx113_2 : wc.cell? ⟨go113, (x46_2 : Int).toNat * 3 + 2, none⟩ = some (.int .i64 ((a0a x503004_2 x46_2).f2)) := hcc113 2 _ rfl
                     have hf113_0 : wc.frozen? ⟨go113, (x46_2 : Int).toNat * 3, none⟩ = false := hfr113 0
                     have hf113_1 : wc.frozen? ⟨go113, (x46_2 : Int).toNat * 3 + 1, none⟩ = false := hfr113 1
                     have hf113_2 : wc.frozen? ⟨go113, (x46_2 : Int).toNat * 3 + 2, none⟩ = false := hfr113 2
                     clear hcl113 hcc113 hfr113 hM113
                     replace p113 := eq_true p113
                     replace q113 := eq_true q113
                     have HX123 := am_ (show Kd.R k43 43 wc w.heap.size (fun k_ => k_ ≠ gb510) (.slice (some ⟨go113, 0, none⟩) x503004_2.length co113) x503004_2 from (qr_ HO_503004))
                     obtain ⟨ce123, hcl123, hM123, hcc123, hfr123⟩ := Kd.a7c HX123.out z43 (x46_2 : Int) (ot_) (by have h_ : (x46_2 : Int) < ((x503004_2.length : Int) : Int) := ot_; first | exact h_ | (have e_ := (Kd.a0j HO_503004.out).1; omega) | simpa using h_)
                     obtain rfl := a5u hM123
                     have HP123 := Kd.b1x HX123.out (x46_2 : Int) (ot_) (by have h_ : (x46_2 : Int) < ((x503004_2.length : Int) : Int) := ot_; first | exact h_ | (have e_ := (Kd.a0j HO_503004.out).1; omega) | simpa using h_) (seg := [.int .i64 (wrap64 (1000 - ((a0a l1_4 x46_2).f1)))]) (j := 1) hcl123 hcc123 (show 2 ≤ 3 from by decide) (x' := (⟨(a0a x503004_2 x46_2).f0, wrap64 (1000 - ((a0a l1_4 x46_2).f1)), (a0a x503004_2 x46_2).f2⟩ : S43)) (a6m _ _ _ (⟨(a0a x503004_2 x46_2).f0, wrap64 (1000 - ((a0a l1_4 x46_2).f1)), (a0a x503004_2 x46_2).f2⟩ : S43) ) (fun _ hk => hk)
                     have hx123_1 := hcc123 1 _ rfl
                     (try simp only [show (k43).sz = 3 from rfl, Nat.mul_one, Nat.add_zero] at hx123_1)
                     have hf123_1 := hfr123 1
                     (try simp only [show (k43).sz = 3 from rfl, Nat.mul_one, Nat.add_zero] at hf123_1)
                     clear hcl123 hcc123 hfr123 hM123
                     go_wp2_with (first | ((with_reducible refine a7h (t := 3) (p := 109) rfl ?_); refine a6z (t := 3) (p := 109) (v := ?vo_w124) (w1 := (wc.setCell ⟨go113, (x46_2 : Int).toNat * 3 + 1, none⟩ (.int .i64 (wrap64 (1000 - ((a0a l1_4 x46_2).f1)))))) ?hg ?ho ?hn ?hr ?_; (case ho => rfl); (case hg => rfl); (case hn => rfl); (case hr => exact qq_); intro w124 hw; have hg : wc.grownBy w124 (some go113) := (by rw [hw]; exact HP123.2); have hp_ : Kd.R k43 43 w124 w.heap.size (fun k_ => k_ ≠ gb510) (.slice (some ⟨go113, 0, none⟩) x503004_2.length co113) y518 := (by rw [hw, Ny518.out]; exact HP123.1); clear HP123; replace HO_6 := am_ (Kd.a8c (v := (.slice (some ⟨go113, 0, none⟩) x503004_2.length co113)) (qr_ HO_6) (Kd.a8b HO_503004.out) (by decide) hg); replace BK494 := am_ (a2c (g := gb494) (o := .cells #[.int .i64 a0_0, .int .i64 a0_1, .int .i64 a0_2, .int .i64 a0_3, .bool true] 25 (0, 0)) (qk_ BK494) hg (Kd.R_ne HO_503004.out BK494.out (by decide))); replace BK495 := am_ (a2c (g := gb495) (o := .cells #[.int .i64 a1_0, .int .i64 a1_1, .int .i64 a1_2, .slice A1_3 l1_3.length c1_3, .slice (some ad509) l1_4.length c1_4, .slice A1_5 l1_5.length c1_5] 30 (0, 0)) (qk_ BK495) hg (Kd.R_ne HO_503004.out BK495.out (by decide))); replace BK502 := am_ (a2c (g := gb502) (o := .cells #[.int .i64 a1_0, .int .i64 a1_1, .int .i64 a1_2, .slice A1_3 l1_3.length c1_3, .slice (some ⟨go113, 0, none⟩) x503004_2.length co113, .slice A1_5 l1_5.length c1_5] 30 (0, 0)) (qk_ BK502) hg (Kd.R_ne HO_503004.out BK502.out (by decide))); replace BK510 := am_ (a2c (g := gb510) (o := .cells #[.int .i64 ((a0a l1_4 x46_2).f0), .int .i64 ((a0a l1_4 x46_2).f1), .int .i64 ((a0a l1_4 x46_2).f2)] 43 (0, 0)) (qk_ BK510) hg (Kd.b0k HO_503004.out (fun _ hk => hk))); replace HO_503004 := am_ (hp_); replace HB := am_ ((by rw [hw]; exact ls_ (HB.out) GB113.out : Below w.heap.size w w124)); clear hg hw hp_))
                     go_roundg kj75
                     case measure => have := HJ6.out; have := HK2.out; have := HJ40.out; have := HJ75.out; omega
                     case rel => exact ⟨((wrap64 (x8_2 + (rd t498 x46_2)))), (wrap64 ((wrap64 (x9_2 + ((a0a l1_4 x46_2).f1))) + (wrap64 (1 - ((a0a l1_4 x46_2).f1))))), (wrap64 (x46_2 + 1)), (y518), (.slice (some ⟨go113, 0, none⟩) x503004_2.length co113), qs_, qs_, qs_, H', ⟨by have := HJ6.out; have := HK2.out; have := HJ40.out; have := HJ75.out; omega⟩, ⟨by (with_reducible repeat (first | apply Kd.a0s | apply Kd.a0t | apply Kd.a0p)); exact HO_6.out⟩, ⟨by (with_reducible repeat (first | apply Kd.a0s | apply Kd.a0t | apply Kd.a0p)); exact Kd.a2b HO_503004.out (fun _ hk => trivial)⟩, ⟨qk_ BK494⟩, ⟨qk_ BK495⟩, ⟨qk_ BK502⟩, ⟨qb_⟩⟩
                    ·rw [if_neg c112] at H
                     exact absurd H (by simp)
                   ·rw [if_neg c111] at H
                    exact absurd H (by simp)
                  ·replace c110 := be_ c110
                   subst c110
                   have H1 : (if 0 ≤ x46_2 then (if x46_2 < (x503004_2.length : Int) then (a0b.l0 kj75 t496 t498 (wrap64 (x8_2 + (rd t498 x46_2))) (wrap64 (x9_2 + ((a0a l1_4 x46_2).f1))) l1_4 (l1_4.length : Int) (wrap64 (x46_2 + 1)) a0_0 a0_1 a0_2 a0_3 false a1_0 a1_1 a1_2 l1_3 l1_4 l1_5 a1_0 a1_1 a1_2 l1_3 (x503004_2.set (x46_2 : Int).toNat (⟨(a0a x503004_2 x46_2).f0, wrap64 (1000 - ((a0a l1_4 x46_2).f1)), (a0a x503004_2 x46_2).f2⟩ : S43)) l1_5) else (none)) else (none)) = some r := by rw [if_neg (show ¬ (false = true) by decide)] at H; exact H
                   clear H
                   have H := H1
                   clear H1
                   by_cases c125 : 0 ≤ x46_2
                   ·rw [if_pos c125] at H
                    have c125b0 : decide (0 ≤ x46_2) = true := decide_eq_true c125
                    clear c125
                    by_cases c126 : x46_2 < (x503004_2.length : Int)
                    ·rw [if_pos c126] at H
                     have c126b0 : decide (x46_2 < (x503004_2.length : Int)) = true := decide_eq_true c126
                     clear c126
                     obtain ⟨y519, hy519⟩ : ∃ y_ : List (S43), y_ = (x503004_2.set (x46_2 : Int).toNat (⟨(a0a x503004_2 x46_2).f0, wrap64 (1000 - ((a0a l1_4 x46_2).f1)), (a0a x503004_2 x46_2).f2⟩ : S43)) := ⟨_, rfl⟩
                     replace H : (a0b.l0 kj75 t496 t498 (wrap64 (x8_2 + (rd t498 x46_2))) (wrap64 (x9_2 + ((a0a l1_4 x46_2).f1))) l1_4 (l1_4.length : Int) (wrap64 (x46_2 + 1)) a0_0 a0_1 a0_2 a0_3 false a1_0 a1_1 a1_2 l1_3 l1_4 l1_5 a1_0 a1_1 a1_2 l1_3 y519 l1_5) = some r := by first | (rw [hy519]; with_reducible exact H) | (have H2_ := (Option.bind_some _ _).symm.trans H; rw [hy519]; with_reducible exact H2_) | (have H2_ := (Option.bind_some _ _).symm.trans H; with_reducible exact H2_) | with_reducible exact H | (rw [hy519]; exact H) | exact H
                     have Ny519 := am_ hy519
                     clear hy519
                     have H' := am_ H
                     clear H
                     have hnb128 := NB510_494.out
                     have hnc128 := NB494_510.out
                     have hnb129 := NB510_495.out
                     have hnc129 := NB495_510.out
                     have hnb130 := NB510_502.out
                     have hnc130 := NB502_510.out
                     obtain ⟨z'131_0, z'131_1, z'131_2⟩ := qz3_ BK510; obtain ⟨y'131_0, y'131_1, y'131_2⟩ := qf3_ BK510
                     have hnb132 := NB494_495.out
                     have hnc132 := NB495_494.out
                     have hnb133 := NB494_502.out
                     have hnc133 := NB502_494.out
                     obtain ⟨z'134_0, z'134_1, z'134_2, z'134_3, z'134_4⟩ := qz5_ BK494; obtain ⟨y'134_0, y'134_1, y'134_2, y'134_3, y'134_4⟩ := qf5_ BK494
                     have hnb135 := NB502_495.out
                     have hnc135 := NB495_502.out
                     obtain ⟨z'136_0, z'136_1, z'136_2, z'136_3, z'136_4, z'136_5⟩ := qz6_ BK502; obtain ⟨y'136_0, y'136_1, y'136_2, y'136_3, y'136_4, y'136_5⟩ := qf6_ BK502
                     have p127 : 0 ≤ (x46_2 : Int) := ot_
                     have q127 : (x46_2 : Int) < ((x503004_2.length : Int) : Int) := ot_
                     obtain ⟨go127, co127, eo127, gb127, gl127, cl127, HG127⟩ := Kd.a7b HO_503004.out (by omega)
                     (first | cases eo127 | (injection eo127 with ea_ en_ ec_; (first | subst ea_ | (injection ea_ with ea_; subst ea_)); subst ec_; clear en_))
                     have GB127 := am_ gb127
                     have GG127 := am_ HG127
                     clear gb127 gl127 HG127
                     obtain ⟨ce127, hcl127, hM127, hcc127, hfr127⟩ := Kd.a7c HO_503004.out z43 (x46_2 : Int) p127 q127
                     obtain rfl := a5u hM127
                     have hx127_0 : wc.cell? ⟨go127, (x46_2 : Int).toNat * 3, none⟩ = some (.int .i64 ((a0a x503004_2 x46_2).f0)) := hcc127 0 _ rfl
                     have hx127_1 : wc.cell? ⟨go127, (x46_2 : Int).toNat * 3 + 1, none⟩ = some (.int .i64 ((a0a x503004_2 x46_2).f1)) := hcc127 1 _ rfl
                     have hx127_2 : wc.cell? ⟨go127, (x46_2 : Int).toNat * 3 + 2, none⟩ = some (.int .i64 ((a0a x503004_2 x46_2).f2)) := hcc127 2 _ rfl
                     have hf127_0 : wc.frozen? ⟨go127, (x46_2 : Int).toNat * 3, none⟩ = false := hfr127 0
                     have hf127_1 : wc.frozen? ⟨go127, (x46_2 : Int).toNat * 3 + 1, none⟩ = false := hfr127 1
                     have hf127_2 : wc.frozen? ⟨go127, (x46_2 : Int).toNat * 3 + 2, none⟩ = false := hfr127 2
                     clear hcl127 hcc127 hfr127 hM127
                     replace p127 := eq_true p127
                     replace q127 := eq_true q127
                     have HX137 := am_ (show Kd.R k43 43 wc w.heap.size (fun k_ => k_ ≠ gb510) (.slice (some ⟨go127, 0, none⟩) x503004_2.length co127) x503004_2 from (qr_ HO_503004))
                     obtain ⟨ce137, hcl137, hM137, hcc137, hfr137⟩ := Kd.a7c HX137.out z43 (x46_2 : Int) (ot_) (by have h_ : (x46_2 : Int) < ((x503004_2.length : Int) : Int) := ot_; first | exact h_ | (have e_ := (Kd.a0j HO_503004.out).1; omega) | simpa using h_)
                     obtain rfl := a5u hM137
                     have HP137 := Kd.b1x HX137.out (x46_2 : Int) (ot_) (by have h_ : (x46_2 : Int) < ((x503004_2.length : Int) : Int) := ot_; first | exact h_ | (have e_ := (Kd.a0j HO_503004.out).1; omega) | simpa using h_) (seg := [.int .i64 (wrap64 (1000 - ((a0a l1_4 x46_2).f1)))]) (j := 1) hcl137 hcc137 (show 2 ≤ 3 from by decide) (x' := (⟨(a0a x503004_2 x46_2).f0, wrap64 (1000 - ((a0a l1_4 x46_2).f1)), (a0a x503004_2 x46_2).f2⟩ : S43)) (a6m _ _ _ (⟨(a0a x503004_2 x46_2).f0, wrap64 (1000 - ((a0a l1_4 x46_2).f1)), (a0a x503004_2 x46_2).f2⟩ : S43) ) (fun _ hk => hk)
                     have hx137_1 := hcc137 1 _ rfl
                     (try simp only [show (k43).sz = 3 from rfl, Nat.mul_one, Nat.add_zero] at hx137_1)
                     have hf137_1 := hfr137 1
                     (try simp only [show (k43).sz = 3 from rfl, Nat.mul_one, Nat.add_zero] at hf137_1)
                     clear hcl137 hcc137 hfr137 hM137
                     go_wp2_with (first | ((with_reducible refine a7h (t := 3) (p := 109) rfl ?_); refine a6z (t := 3) (p := 109) (v := ?vo_w138) (w1 := (wc.setCell ⟨go127, (x46_2 : Int).toNat * 3 + 1, none⟩ (.int .i64 (wrap64 (1000 - ((a0a l1_4 x46_2).f1)))))) ?hg ?ho ?hn ?hr ?_; (case ho => rfl); (case hg => rfl); (case hn => rfl); (case hr => exact qq_); intro w138 hw; have hg : wc.grownBy w138 (some go127) := (by rw [hw]; exact HP137.2); have hp_ : Kd.R k43 43 w138 w.heap.size (fun k_ => k_ ≠ gb510) (.slice (some ⟨go127, 0, none⟩) x503004_2.length co127) y519 := (by rw [hw, Ny519.out]; exact HP137.1); clear HP137; replace HO_6 := am_ (Kd.a8c (v := (.slice (some ⟨go127, 0, none⟩) x503004_2.length co127)) (qr_ HO_6) (Kd.a8b HO_503004.out) (by decide) hg); replace BK494 := am_ (a2c (g := gb494) (o := .cells #[.int .i64 a0_0, .int .i64 a0_1, .int .i64 a0_2, .int .i64 a0_3, .bool false] 25 (0, 0)) (qk_ BK494) hg (Kd.R_ne HO_503004.out BK494.out (by decide))); replace BK495 := am_ (a2c (g := gb495) (o := .cells #[.int .i64 a1_0, .int .i64 a1_1, .int .i64 a1_2, .slice A1_3 l1_3.length c1_3, .slice (some ad509) l1_4.length c1_4, .slice A1_5 l1_5.length c1_5] 30 (0, 0)) (qk_ BK495) hg (Kd.R_ne HO_503004.out BK495.out (by decide))); replace BK502 := am_ (a2c (g := gb502) (o := .cells #[.int .i64 a1_0, .int .i64 a1_1, .int .i64 a1_2, .slice A1_3 l1_3.length c1_3, .slice (some ⟨go127, 0, none⟩) x503004_2.length co127, .slice A1_5 l1_5.length c1_5] 30 (0, 0)) (qk_ BK502) hg (Kd.R_ne HO_503004.out BK502.out (by decide))); replace BK510 := am_ (a2c (g := gb510) (o := .cells #[.int .i64 ((a0a l1_4 x46_2).f0), .int .i64 ((a0a l1_4 x46_2).f1), .int .i64 ((a0a l1_4 x46_2).f2)] 43 (0, 0)) (qk_ BK510) hg (Kd.b0k HO_503004.out (fun _ hk => hk))); replace HO_503004 := am_ (hp_); replace HB := am_ ((by rw [hw]; exact ls_ (HB.out) GB127.out : Below w.heap.size w w138)); clear hg hw hp_))
                     go_roundg kj75
                     case measure => have := HJ6.out; have := HK2.out; have := HJ40.out; have := HJ75.out; omega
                     case rel => exact ⟨((wrap64 (x8_2 + (rd t498 x46_2)))), (wrap64 (x9_2 + ((a0a l1_4 x46_2).f1))), (wrap64 (x46_2 + 1)), (y519), (.slice (some ⟨go127, 0, none⟩) x503004_2.length co127), qs_, qs_, qs_, H', ⟨by have := HJ6.out; have := HK2.out; have := HJ40.out; have := HJ75.out; omega⟩, ⟨by (with_reducible repeat (first | apply Kd.a0s | apply Kd.a0t | apply Kd.a0p)); exact HO_6.out⟩, ⟨by (with_reducible repeat (first | apply Kd.a0s | apply Kd.a0t | apply Kd.a0p)); exact Kd.a2b HO_503004.out (fun _ hk => trivial)⟩, ⟨qk_ BK494⟩, ⟨qk_ BK495⟩, ⟨qk_ BK502⟩, ⟨qb_⟩⟩
                    ·rw [if_neg c126] at H
                     exact absurd H (by simp)
                   ·rw [if_neg c125] at H
                    exact absurd H (by simp)
                 ·replace c109 := be_ c109
                  subst c109
                  have H1 : (if 0 ≤ x46_2 then (if x46_2 < (x503004_2.length : Int) then (a0b.l0 kj75 t496 t498 (wrap64 (x8_2 + (rd t498 x46_2))) x9_2 l1_4 (l1_4.length : Int) (wrap64 (x46_2 + 1)) a0_0 a0_1 a0_2 a0_3 a0_4 a1_0 a1_1 a1_2 l1_3 l1_4 l1_5 a1_0 a1_1 a1_2 l1_3 (x503004_2.set (x46_2 : Int).toNat (⟨(a0a x503004_2 x46_2).f0, wrap64 (1000 - ((a0a l1_4 x46_2).f1)), (a0a x503004_2 x46_2).f2⟩ : S43)) l1_5) else (none)) else (none)) = some r := by rw [if_neg (show ¬ (false = true) by decide)] at H; exact H
                  clear H
                  have H := H1
                  clear H1
                  by_cases c139 : 0 ≤ x46_2
                  ·rw [if_pos c139] at H
                   have c139b0 : decide (0 ≤ x46_2) = true := decide_eq_true c139
                   clear c139
                   by_cases c140 : x46_2 < (x503004_2.length : Int)
                   ·rw [if_pos c140] at H
                    have c140b0 : decide (x46_2 < (x503004_2.length : Int)) = true := decide_eq_true c140
                    clear c140
                    obtain ⟨y520, hy520⟩ : ∃ y_ : List (S43), y_ = (x503004_2.set (x46_2 : Int).toNat (⟨(a0a x503004_2 x46_2).f0, wrap64 (1000 - ((a0a l1_4 x46_2).f1)), (a0a x503004_2 x46_2).f2⟩ : S43)) := ⟨_, rfl⟩
                    replace H : (a0b.l0 kj75 t496 t498 (wrap64 (x8_2 + (rd t498 x46_2))) x9_2 l1_4 (l1_4.length : Int) (wrap64 (x46_2 + 1)) a0_0 a0_1 a0_2 a0_3 a0_4 a1_0 a1_1 a1_2 l1_3 l1_4 l1_5 a1_0 a1_1 a1_2 l1_3 y520 l1_5) = some r := by first | (rw [hy520]; with_reducible exact H) | (have H2_ := (Option.bind_some _ _).symm.trans H; rw [hy520]; with_reducible exact H2_) | (have H2_ := (Option.bind_some _ _).symm.trans H; with_reducible exact H2_) | with_reducible exact H | (rw [hy520]; exact H) | exact H
                    have Ny520 := am_ hy520
                    clear hy520
                    have H' := am_ H
                    clear H
                    have hnb142 := NB502_494.out
                    have hnc142 := NB494_502.out
                    have hnb143 := NB502_495.out
                    have hnc143 := NB495_502.out
                    have hnb144 := NB502_510.out
                    have hnc144 := NB510_502.out
                    obtain ⟨z'145_0, z'145_1, z'145_2, z'145_3, z'145_4, z'145_5⟩ := qz6_ BK502; obtain ⟨y'145_0, y'145_1, y'145_2, y'145_3, y'145_4, y'145_5⟩ := qf6_ BK502
                    have hnb146 := NB510_494.out
                    have hnc146 := NB494_510.out
                    have hnb147 := NB510_495.out
                    have hnc147 := NB495_510.out
                    obtain ⟨z'148_0, z'148_1, z'148_2⟩ := qz3_ BK510; obtain ⟨y'148_0, y'148_1, y'148_2⟩ := qf3_ BK510
                    have p141 : 0 ≤ (x46_2 : Int) := ot_
                    have q141 : (x46_2 : Int) < ((x503004_2.length : Int) : Int) := ot_
                    obtain ⟨go141, co141, eo141, gb141, gl141, cl141, HG141⟩ := Kd.a7b HO_503004.out (by omega)
                    (first | cases eo141 | (injection eo141 with ea_ en_ ec_; (first | subst ea_ | (injection ea_ with ea_; subst ea_)); subst ec_; clear en_))
                    have GB141 := am_ gb141
                    have GG141 := am_ HG141
                    clear gb141 gl141 HG141
                    obtain ⟨ce141, hcl141, hM141, hcc141, hfr141⟩ := Kd.a7c HO_503004.out z43 (x46_2 : Int) p141 q141
                    obtain rfl := a5u hM141
                    have hx141_0 : wc.cell? ⟨go141, (x46_2 : Int).toNat * 3, none⟩ = some (.int .i64 ((a0a x503004_2 x46_2).f0)) := hcc141 0 _ rfl
                    have hx141_1 : wc.cell? ⟨go141, (x46_2 : Int).toNat * 3 + 1, none⟩ = some (.int .i64 ((a0a x503004_2 x46_2).f1)) := hcc141 1 _ rfl
                    have hx141_2 : wc.cell? ⟨go141, (x46_2 : Int).toNat * 3 + 2, none⟩ = some (.int .i64 ((a0a x503004_2 x46_2).f2)) := hcc141 2 _ rfl
                    have hf141_0 : wc.frozen? ⟨go141, (x46_2 : Int).toNat * 3, none⟩ = false := hfr141 0
                    have hf141_1 : wc.frozen? ⟨go141, (x46_2 : Int).toNat * 3 + 1, none⟩ = false := hfr141 1
                    have hf141_2 : wc.frozen? ⟨go141, (x46_2 : Int).toNat * 3 + 2, none⟩ = false := hfr141 2
                    clear hcl141 hcc141 hfr141 hM141
                    replace p141 := eq_true p141
                    replace q141 := eq_true q141
                    have HX149 := am_ (show Kd.R k43 43 wc w.heap.size (fun k_ => k_ ≠ gb510) (.slice (some ⟨go141, 0, none⟩) x503004_2.length co141) x503004_2 from (qr_ HO_503004))
                    obtain ⟨ce149, hcl149, hM149, hcc149, hfr149⟩ := Kd.a7c HX149.out z43 (x46_2 : Int) (ot_) (by have h_ : (x46_2 : Int) < ((x503004_2.length : Int) : Int) := ot_; first | exact h_ | (have e_ := (Kd.a0j HO_503004.out).1; omega) | simpa using h_)
                    obtain rfl := a5u hM149
                    have HP149 := Kd.b1x HX149.out (x46_2 : Int) (ot_) (by have h_ : (x46_2 : Int) < ((x503004_2.length : Int) : Int) := ot_; first | exact h_ | (have e_ := (Kd.a0j HO_503004.out).1; omega) | simpa using h_) (seg := [.int .i64 (wrap64 (1000 - ((a0a l1_4 x46_2).f1)))]) (j := 1) hcl149 hcc149 (show 2 ≤ 3 from by decide) (x' := (⟨(a0a x503004_2 x46_2).f0, wrap64 (1000 - ((a0a l1_4 x46_2).f1)), (a0a x503004_2 x46_2).f2⟩ : S43)) (a6m _ _ _ (⟨(a0a x503004_2 x46_2).f0, wrap64 (1000 - ((a0a l1_4 x46_2).f1)), (a0a x503004_2 x46_2).f2⟩ : S43) ) (fun _ hk => hk)
                    have hx149_1 := hcc149 1 _ rfl
                    (try simp only [show (k43).sz = 3 from rfl, Nat.mul_one, Nat.add_zero] at hx149_1)
                    have hf149_1 := hfr149 1
                    (try simp only [show (k43).sz = 3 from rfl, Nat.mul_one, Nat.add_zero] at hf149_1)
                    clear hcl149 hcc149 hfr149 hM149
                    go_wp2_with (first | ((with_reducible refine a7h (t := 3) (p := 109) rfl ?_); refine a6z (t := 3) (p := 109) (v := ?vo_w150) (w1 := (wc.setCell ⟨go141, (x46_2 : Int).toNat * 3 + 1, none⟩ (.int .i64 (wrap64 (1000 - ((a0a l1_4 x46_2).f1)))))) ?hg ?ho ?hn ?hr ?_; (case ho => rfl); (case hg => rfl); (case hn => rfl); (case hr => exact qq_); intro w150 hw; have hg : wc.grownBy w150 (some go141) := (by rw [hw]; exact HP149.2); have hp_ : Kd.R k43 43 w150 w.heap.size (fun k_ => k_ ≠ gb510) (.slice (some ⟨go141, 0, none⟩) x503004_2.length co141) y520 := (by rw [hw, Ny520.out]; exact HP149.1); clear HP149; replace HO_6 := am_ (Kd.a8c (v := (.slice (some ⟨go141, 0, none⟩) x503004_2.length co141)) (qr_ HO_6) (Kd.a8b HO_503004.out) (by decide) hg); replace BK494 := am_ (a2c (g := gb494) (o := .cells #[.int .i64 a0_0, .int .i64 a0_1, .int .i64 a0_2, .int .i64 a0_3, .bool a0_4] 25 (0, 0)) (qk_ BK494) hg (Kd.R_ne HO_503004.out BK494.out (by decide))); replace BK495 := am_ (a2c (g := gb495) (o := .cells #[.int .i64 a1_0, .int .i64 a1_1, .int .i64 a1_2, .slice A1_3 l1_3.length c1_3, .slice (some ad509) l1_4.length c1_4, .slice A1_5 l1_5.length c1_5] 30 (0, 0)) (qk_ BK495) hg (Kd.R_ne HO_503004.out BK495.out (by decide))); replace BK502 := am_ (a2c (g := gb502) (o := .cells #[.int .i64 a1_0, .int .i64 a1_1, .int .i64 a1_2, .slice A1_3 l1_3.length c1_3, .slice (some ⟨go141, 0, none⟩) x503004_2.length co141, .slice A1_5 l1_5.length c1_5] 30 (0, 0)) (qk_ BK502) hg (Kd.R_ne HO_503004.out BK502.out (by decide))); replace BK510 := am_ (a2c (g := gb510) (o := .cells #[.int .i64 ((a0a l1_4 x46_2).f0), .int .i64 ((a0a l1_4 x46_2).f1), .int .i64 ((a0a l1_4 x46_2).f2)] 43 (0, 0)) (qk_ BK510) hg (Kd.b0k HO_503004.out (fun _ hk => hk))); replace HO_503004 := am_ (hp_); replace HB := am_ ((by rw [hw]; exact ls_ (HB.out) GB141.out : Below w.heap.size w w150)); clear hg hw hp_))
                    go_roundg kj75
                    case measure => have := HJ6.out; have := HK2.out; have := HJ40.out; have := HJ75.out; omega
                    case rel => exact ⟨((wrap64 (x8_2 + (rd t498 x46_2)))), (x9_2), (wrap64 (x46_2 + 1)), (y520), (.slice (some ⟨go141, 0, none⟩) x503004_2.length co141), qs_, qs_, qs_, H', ⟨by have := HJ6.out; have := HK2.out; have := HJ40.out; have := HJ75.out; omega⟩, ⟨by (with_reducible repeat (first | apply Kd.a0s | apply Kd.a0t | apply Kd.a0p)); exact HO_6.out⟩, ⟨by (with_reducible repeat (first | apply Kd.a0s | apply Kd.a0t | apply Kd.a0p)); exact Kd.a2b HO_503004.out (fun _ hk => trivial)⟩, ⟨qk_ BK494⟩, ⟨qk_ BK495⟩, ⟨qk_ BK502⟩, ⟨qb_⟩⟩
                   ·rw [if_neg c140] at H
                    exact absurd H (by simp)
                  ·rw [if_neg c139] at H
                   exact absurd H (by simp)
           ·rw [if_neg c40] at H
            exact absurd H (by simp)
          ·rw [if_neg c39] at H
           exact absurd H (by simp)
         ·rw [if_neg c38] at H
          exact absurd H (by simp)
        ·rw [if_neg c37] at H
         have c37b0 : decide (x46_2 < (l1_4.length : Int)) = false := decide_eq_false c37
         clear c37
         replace H := bm_ H
         obtain ⟨⟨t521, t524⟩, A1510, H⟩ := H
         replace H : (if t496 = true then (if x8_2 = x9_2 then (if t524 = 0 then (if a0_4 = true then ((a0l.f k2 t498 t521).bind fun t525 => (some t525)) else (some true)) else (some false)) else (some false)) else (some false)) = some r := H
         have A151 := am_ A1510
         clear A1510
         by_cases c152 : t496 = true
         ·subst c152
          have H1 : (if x8_2 = x9_2 then (if t524 = 0 then (if a0_4 = true then ((a0l.f k2 t498 t521).bind fun t525 => (some t525)) else (some true)) else (some false)) else (some false)) = some r := by rw [if_pos rfl] at H; exact H
          clear H
          have H := H1
          clear H1
          by_cases c153 : x8_2 = x9_2
          ·rw [if_pos c153] at H
           have c153b0 : (x8_2 == x9_2) = true := beq_iff_eq.mpr c153
           have c153b1 : (x8_2 != x9_2) = false := bne_eq_false_iff_eq.mpr c153
           clear c153
           by_cases c154 : t524 = 0
           ·rw [if_pos c154] at H
            have c154b0 : (t524 == 0) = true := beq_iff_eq.mpr c154
            have c154b1 : (t524 != 0) = false := bne_eq_false_iff_eq.mpr c154
            clear c154
            by_cases c155 : a0_4 = true
            ·subst c155
             have H1 : ((a0l.f k2 t498 t521).bind fun t525 => (some t525)) = some r := by rw [if_pos rfl] at H; exact H
             clear H
             have H := H1
             clear H1
             replace H := bm_ H
             obtain ⟨t525, A1560, H⟩ := H
             replace H : (some t525) = some r := H
             have A156 := am_ A1560
             clear A1560
             obtain rfl := si_ H
             have hnb157 := NB494_495.out
             have hnc157 := NB495_494.out
             have hnb158 := NB494_502.out
             have hnc158 := NB502_494.out
             obtain ⟨z'159_0, z'159_1, z'159_2, z'159_3, z'159_4⟩ := qz5_ BK494; obtain ⟨y'159_0, y'159_1, y'159_2, y'159_3, y'159_4⟩ := qf5_ BK494
             have hnb160 := NB502_495.out
             have hnc160 := NB495_502.out
             obtain ⟨z'161_0, z'161_1, z'161_2, z'161_3, z'161_4, z'161_5⟩ := qz6_ BK502; obtain ⟨y'161_0, y'161_1, y'161_2, y'161_3, y'161_4, y'161_5⟩ := qf6_ BK502
             obtain ⟨Ao162, co162, eo162⟩ := Kd.a1m HO_503004.out
             subst eo162
             go_wp2_with (first | ((with_reducible refine a0c (f := 13) rfl ?_); refine a0q (some 114) rfl rfl Try.func13 (by kernel_rfl) rfl #[.agg #[.int .i64 a0_0, .int .i64 a0_1, .int .i64 a0_2, .int .i64 a0_3, .bool true], .agg #[.int .i64 a1_0, .int .i64 a1_1, .int .i64 a1_2, .slice A1_3 l1_3.length c1_3, .slice Ao162 x503004_2.length co162, .slice A1_5 l1_5.length c1_5]] rfl ql_ ?_; (with_reducible refine (a1f.calls k2 a0_0 a0_1 a0_2 a0_3 true a1_0 a1_1 a1_2 _ _ l1_3 _ _ x503004_2 _ _ l1_5 t521 t524 _ ?s1 ?s2 ?s3 ?s4 ?s5 ?s6 A151.out).mono ?_); (case s1 => exact qc_ HR1_3); (case s2 => exact HC1_3.out); (case s3 => exact qv_ (Kd.a0j HO_503004.out).2.2); (case s4 => exact (Kd.a0j HO_503004.out).2.1); (case s5 => exact qc_ HR1_5); (case s6 => exact HC1_5.out); rintro e w163 ⟨v522, rfl, ho0, hb⟩; refine ⟨_, rfl, ?_⟩; replace HO_503004 := qrb_ HO_503004 hb; have HO523 := am_ (Kd.a1v (Kd.a0z ho0 (Kd.R_lt (qr_ HO_6))) (a0y qb_)); replace HO_6 := qel_ HO_6 ho0 hb; replace BK494 := qkb_ BK494 hb; replace BK495 := qkb_ BK495 hb; replace BK502 := qkb_ BK502 hb; replace HB := qbs_ hb; (try clear hb); (try clear hb2); (try clear hk); (try clear hi); (try clear ho0); obtain ⟨z'164_0, z'164_1, z'164_2, z'164_3, z'164_4⟩ := qz5_ BK494; obtain ⟨y'164_0, y'164_1, y'164_2, y'164_3, y'164_4⟩ := qf5_ BK494; obtain ⟨Ao165, co165, eo165⟩ := Kd.a1m HO_6.out; subst eo165; obtain ⟨Ao166, co166, eo166⟩ := Kd.a1m HO523.out; subst eo166) | (go_at_call 17; (with_reducible refine (a0l.calls k2 _ _ t498 _ _ t521 t525 _ ?s1 ?s2 ?s3 ?s4 A156.out).mono ?_); (case s1 => exact qv_ (Kd.a0j HO_6.out).2.2); (case s2 => exact (Kd.a0j HO_6.out).2.1); (case s3 => exact qv_ (Kd.a0j HO523.out).2.2); (case s4 => exact (Kd.a0j HO523.out).2.1); rintro e w' ⟨rfl, ⟨nd, rfl⟩⟩))
             go_ret
             exact ⟨qx_, qb_⟩
            ·replace c155 := be_ c155
             subst c155
             have H1 : (some true) = some r := by rw [if_neg (show ¬ (false = true) by decide)] at H; exact H
             clear H
             have H := H1
             clear H1
             obtain rfl := si_ H
             have hnb167 := NB494_495.out
             have hnc167 := NB495_494.out
             have hnb168 := NB494_502.out
             have hnc168 := NB502_494.out
             obtain ⟨z'169_0, z'169_1, z'169_2, z'169_3, z'169_4⟩ := qz5_ BK494; obtain ⟨y'169_0, y'169_1, y'169_2, y'169_3, y'169_4⟩ := qf5_ BK494
             have hnb170 := NB502_495.out
             have hnc170 := NB495_502.out
             obtain ⟨z'171_0, z'171_1, z'171_2, z'171_3, z'171_4, z'171_5⟩ := qz6_ BK502; obtain ⟨y'171_0, y'171_1, y'171_2, y'171_3, y'171_4, y'171_5⟩ := qf6_ BK502
             obtain ⟨Ao172, co172, eo172⟩ := Kd.a1m HO_503004.out
             subst eo172
             go_wp2_with (first | ((with_reducible refine a0c (f := 13) rfl ?_); refine a0q (some 114) rfl rfl Try.func13 (by kernel_rfl) rfl #[.agg #[.int .i64 a0_0, .int .i64 a0_1, .int .i64 a0_2, .int .i64 a0_3, .bool false], .agg #[.int .i64 a1_0, .int .i64 a1_1, .int .i64 a1_2, .slice A1_3 l1_3.length c1_3, .slice Ao172 x503004_2.length co172, .slice A1_5 l1_5.length c1_5]] rfl ql_ ?_; (with_reducible refine (a1f.calls k2 a0_0 a0_1 a0_2 a0_3 false a1_0 a1_1 a1_2 _ _ l1_3 _ _ x503004_2 _ _ l1_5 t521 t524 _ ?s1 ?s2 ?s3 ?s4 ?s5 ?s6 A151.out).mono ?_); (case s1 => exact qc_ HR1_3); (case s2 => exact HC1_3.out); (case s3 => exact qv_ (Kd.a0j HO_503004.out).2.2); (case s4 => exact (Kd.a0j HO_503004.out).2.1); (case s5 => exact qc_ HR1_5); (case s6 => exact HC1_5.out); rintro e w173 ⟨v522, rfl, ho0, hb⟩; refine ⟨_, rfl, ?_⟩; replace HO_503004 := qrb_ HO_503004 hb; have HO523 := am_ (Kd.a1v (Kd.a0z ho0 (Kd.R_lt (qr_ HO_6))) (a0y qb_)); replace HO_6 := qel_ HO_6 ho0 hb; replace BK494 := qkb_ BK494 hb; replace BK495 := qkb_ BK495 hb; replace BK502 := qkb_ BK502 hb; replace HB := qbs_ hb; (try clear hb); (try clear hb2); (try clear hk); (try clear hi); (try clear ho0); obtain ⟨z'174_0, z'174_1, z'174_2, z'174_3, z'174_4⟩ := qz5_ BK494; obtain ⟨y'174_0, y'174_1, y'174_2, y'174_3, y'174_4⟩ := qf5_ BK494))
             go_ret
             exact ⟨qx_, qb_⟩
           ·rw [if_neg c154] at H
            have c154b0 : (t524 == 0) = false := beq_eq_false_iff_ne.mpr c154
            have c154b1 : (t524 != 0) = true := bne_iff_ne.mpr c154
            obtain rfl := si_ H
            have hnb175 := NB494_495.out
            have hnc175 := NB495_494.out
            have hnb176 := NB494_502.out
            have hnc176 := NB502_494.out
            obtain ⟨z'177_0, z'177_1, z'177_2, z'177_3, z'177_4⟩ := qz5_ BK494; obtain ⟨y'177_0, y'177_1, y'177_2, y'177_3, y'177_4⟩ := qf5_ BK494
            have hnb178 := NB502_495.out
            have hnc178 := NB495_502.out
            obtain ⟨z'179_0, z'179_1, z'179_2, z'179_3, z'179_4, z'179_5⟩ := qz6_ BK502; obtain ⟨y'179_0, y'179_1, y'179_2, y'179_3, y'179_4, y'179_5⟩ := qf6_ BK502
            obtain ⟨Ao180, co180, eo180⟩ := Kd.a1m HO_503004.out
            subst eo180
            go_wp2_with (first | ((with_reducible refine a0c (f := 13) rfl ?_); refine a0q (some 114) rfl rfl Try.func13 (by kernel_rfl) rfl #[.agg #[.int .i64 a0_0, .int .i64 a0_1, .int .i64 a0_2, .int .i64 a0_3, .bool a0_4], .agg #[.int .i64 a1_0, .int .i64 a1_1, .int .i64 a1_2, .slice A1_3 l1_3.length c1_3, .slice Ao180 x503004_2.length co180, .slice A1_5 l1_5.length c1_5]] rfl ql_ ?_; (with_reducible refine (a1f.calls k2 a0_0 a0_1 a0_2 a0_3 a0_4 a1_0 a1_1 a1_2 _ _ l1_3 _ _ x503004_2 _ _ l1_5 t521 t524 _ ?s1 ?s2 ?s3 ?s4 ?s5 ?s6 A151.out).mono ?_); (case s1 => exact qc_ HR1_3); (case s2 => exact HC1_3.out); (case s3 => exact qv_ (Kd.a0j HO_503004.out).2.2); (case s4 => exact (Kd.a0j HO_503004.out).2.1); (case s5 => exact qc_ HR1_5); (case s6 => exact HC1_5.out); rintro e w181 ⟨v522, rfl, ho0, hb⟩; refine ⟨_, rfl, ?_⟩; replace HO_503004 := qrb_ HO_503004 hb; have HO523 := am_ (Kd.a1v (Kd.a0z ho0 (Kd.R_lt (qr_ HO_6))) (a0y qb_)); replace HO_6 := qel_ HO_6 ho0 hb; replace BK494 := qkb_ BK494 hb; replace BK495 := qkb_ BK495 hb; replace BK502 := qkb_ BK502 hb; replace HB := qbs_ hb; (try clear hb); (try clear hb2); (try clear hk); (try clear hi); (try clear ho0)))
            go_ret
            exact ⟨qx_, qb_⟩
          ·rw [if_neg c153] at H
           have c153b0 : (x8_2 == x9_2) = false := beq_eq_false_iff_ne.mpr c153
           have c153b1 : (x8_2 != x9_2) = true := bne_iff_ne.mpr c153
           obtain rfl := si_ H
           have hnb182 := NB494_495.out
           have hnc182 := NB495_494.out
           have hnb183 := NB494_502.out
           have hnc183 := NB502_494.out
           obtain ⟨z'184_0, z'184_1, z'184_2, z'184_3, z'184_4⟩ := qz5_ BK494; obtain ⟨y'184_0, y'184_1, y'184_2, y'184_3, y'184_4⟩ := qf5_ BK494
           have hnb185 := NB502_495.out
           have hnc185 := NB495_502.out
           obtain ⟨z'186_0, z'186_1, z'186_2, z'186_3, z'186_4, z'186_5⟩ := qz6_ BK502; obtain ⟨y'186_0, y'186_1, y'186_2, y'186_3, y'186_4, y'186_5⟩ := qf6_ BK502
           obtain ⟨Ao187, co187, eo187⟩ := Kd.a1m HO_503004.out
           subst eo187
           go_wp2_with (first | ((with_reducible refine a0c (f := 13) rfl ?_); refine a0q (some 114) rfl rfl Try.func13 (by kernel_rfl) rfl #[.agg #[.int .i64 a0_0, .int .i64 a0_1, .int .i64 a0_2, .int .i64 a0_3, .bool a0_4], .agg #[.int .i64 a1_0, .int .i64 a1_1, .int .i64 a1_2, .slice A1_3 l1_3.length c1_3, .slice Ao187 x503004_2.length co187, .slice A1_5 l1_5.length c1_5]] rfl ql_ ?_; (with_reducible refine (a1f.calls k2 a0_0 a0_1 a0_2 a0_3 a0_4 a1_0 a1_1 a1_2 _ _ l1_3 _ _ x503004_2 _ _ l1_5 t521 t524 _ ?s1 ?s2 ?s3 ?s4 ?s5 ?s6 A151.out).mono ?_); (case s1 => exact qc_ HR1_3); (case s2 => exact HC1_3.out); (case s3 => exact qv_ (Kd.a0j HO_503004.out).2.2); (case s4 => exact (Kd.a0j HO_503004.out).2.1); (case s5 => exact qc_ HR1_5); (case s6 => exact HC1_5.out); rintro e w188 ⟨v522, rfl, ho0, hb⟩; refine ⟨_, rfl, ?_⟩; replace HO_503004 := qrb_ HO_503004 hb; have HO523 := am_ (Kd.a1v (Kd.a0z ho0 (Kd.R_lt (qr_ HO_6))) (a0y qb_)); replace HO_6 := qel_ HO_6 ho0 hb; replace BK494 := qkb_ BK494 hb; replace BK495 := qkb_ BK495 hb; replace BK502 := qkb_ BK502 hb; replace HB := qbs_ hb; (try clear hb); (try clear hb2); (try clear hk); (try clear hi); (try clear ho0)))
           go_ret
           exact ⟨qx_, qb_⟩
         ·replace c152 := be_ c152
          subst c152
          have H1 : (some false) = some r := by rw [if_neg (show ¬ (false = true) by decide)] at H; exact H
          clear H
          have H := H1
          clear H1
          obtain rfl := si_ H
          have hnb189 := NB494_495.out
          have hnc189 := NB495_494.out
          have hnb190 := NB494_502.out
          have hnc190 := NB502_494.out
          obtain ⟨z'191_0, z'191_1, z'191_2, z'191_3, z'191_4⟩ := qz5_ BK494; obtain ⟨y'191_0, y'191_1, y'191_2, y'191_3, y'191_4⟩ := qf5_ BK494
          have hnb192 := NB502_495.out
          have hnc192 := NB495_502.out
          obtain ⟨z'193_0, z'193_1, z'193_2, z'193_3, z'193_4, z'193_5⟩ := qz6_ BK502; obtain ⟨y'193_0, y'193_1, y'193_2, y'193_3, y'193_4, y'193_5⟩ := qf6_ BK502
          obtain ⟨Ao194, co194, eo194⟩ := Kd.a1m HO_503004.out
          subst eo194
          go_wp2_with (first | ((with_reducible refine a0c (f := 13) rfl ?_); refine a0q (some 114) rfl rfl Try.func13 (by kernel_rfl) rfl #[.agg #[.int .i64 a0_0, .int .i64 a0_1, .int .i64 a0_2, .int .i64 a0_3, .bool a0_4], .agg #[.int .i64 a1_0, .int .i64 a1_1, .int .i64 a1_2, .slice A1_3 l1_3.length c1_3, .slice Ao194 x503004_2.length co194, .slice A1_5 l1_5.length c1_5]] rfl ql_ ?_; (with_reducible refine (a1f.calls k2 a0_0 a0_1 a0_2 a0_3 a0_4 a1_0 a1_1 a1_2 _ _ l1_3 _ _ x503004_2 _ _ l1_5 t521 t524 _ ?s1 ?s2 ?s3 ?s4 ?s5 ?s6 A151.out).mono ?_); (case s1 => exact qc_ HR1_3); (case s2 => exact HC1_3.out); (case s3 => exact qv_ (Kd.a0j HO_503004.out).2.2); (case s4 => exact (Kd.a0j HO_503004.out).2.1); (case s5 => exact qc_ HR1_5); (case s6 => exact HC1_5.out); rintro e w195 ⟨v522, rfl, ho0, hb⟩; refine ⟨_, rfl, ?_⟩; replace HO_503004 := qrb_ HO_503004 hb; have HO523 := am_ (Kd.a1v (Kd.a0z ho0 (Kd.R_lt (qr_ HO_6))) (a0y qb_)); replace HO_6 := qel_ HO_6 ho0 hb; replace BK494 := qkb_ BK494 hb; replace BK495 := qkb_ BK495 hb; replace BK502 := qkb_ BK502 hb; replace HB := qbs_ hb; (try clear hb); (try clear hb2); (try clear hk); (try clear hi); (try clear ho0)))
          go_ret
          exact ⟨qx_, qb_⟩
     ·rw [if_neg c23] at H
      exact absurd H (by simp)
 ·replace c5 := be_ c5
  subst c5
  have H1 : (some t496) = some r := by rw [if_neg (show ¬ (false = true) by decide)] at H; exact H
  clear H
  have H := H1
  clear H1
  obtain rfl := si_ H
  go_enter Try.func4, Try.ntmps4
  go_wp2_with (first | ((with_reducible refine a0e (N := 2) rfl ?_); (try (refine a2x (by rfl) ?_; dsimp only)); refine qev_ 2 #[.int .i64 a0_0, .int .i64 a0_1, .int .i64 a0_2, .int .i64 a0_3, .bool a0_4] 25 ?_; intro gb494 hg w196 hbox hb; have BK494 := am_ (hbox); have GW494 := qga_ hg; have GE494 := qga_ hg; replace HB := qbs_ hb; clear hb hbox hg) | ((with_reducible refine a0e (N := 3) rfl ?_); (try (refine a2x (by rfl) ?_; dsimp only)); refine qev_ 3 #[.int .i64 a1_0, .int .i64 a1_1, .int .i64 a1_2, .slice A1_3 l1_3.length c1_3, .slice A1_4 l1_4.length c1_4, .slice A1_5 l1_5.length c1_5] 30 ?_; intro gb495 hg w197 hbox hb; have BK495 := am_ (hbox); have GW495 := qga_ hg; have GE495 := qga_ hg; replace HB := qbs_ hb; have NB494_495 := am_ ((by rw [hg]; exact Nat.ne_of_lt (a1a (qk_ BK494)) : gb494 ≠ gb495)); have NB495_494 := am_ ((by rw [hg]; exact Nat.ne_of_gt (a1a (qk_ BK494)) : gb495 ≠ gb494)); replace BK494 := qkb_ BK494 hb; clear hb hbox hg) | ((with_reducible refine a0c (f := 11) rfl ?_); refine a0q (some 15) rfl rfl Try.func11 (by kernel_rfl) rfl #[] rfl ql_ ?_; (with_reducible refine (a0i.calls k  t496 _ A3.out).mono ?_); rintro e w198 ⟨rfl, hb⟩; refine ⟨_, rfl, ?_⟩; replace BK494 := qkb_ BK494 hb; replace BK495 := qkb_ BK495 hb; replace HB := qbs_ hb; (try clear hb); (try clear hb2); (try clear hk); (try clear hi); have hnb199 := NB494_495.out; have hnc199 := NB495_494.out; obtain ⟨z'200_0, z'200_1, z'200_2, z'200_3, z'200_4⟩ := qz5_ BK494; obtain ⟨y'200_0, y'200_1, y'200_2, y'200_3, y'200_4⟩ := qf5_ BK494; obtain ⟨z'201_0, z'201_1, z'201_2, z'201_3, z'201_4, z'201_5⟩ := qz6_ BK495; obtain ⟨y'201_0, y'201_1, y'201_2, y'201_3, y'201_4, y'201_5⟩ := qf6_ BK495) | ((with_reducible refine a0c (f := 22) rfl ?_); refine a0q (some 18) rfl rfl Try.func22 (by kernel_rfl) rfl #[.agg #[.int .i64 a0_0, .int .i64 a0_1, .int .i64 a0_2, .int .i64 a0_3, .bool a0_4], .agg #[.int .i64 a1_0, .int .i64 a1_1, .int .i64 a1_2, .slice A1_3 l1_3.length c1_3, .slice A1_4 l1_4.length c1_4, .slice A1_5 l1_5.length c1_5]] rfl ql_ ?_; (with_reducible refine (a3j.calls k a0_0 a0_1 a0_2 a0_3 a0_4 a1_0 a1_1 a1_2 _ _ l1_3 _ _ l1_4 _ _ l1_5 false _ ?s1 ?s2 ?s3 ?s4 ?s5 ?s6 A4.out).mono ?_); (case s1 => exact qc_ HR1_3); (case s2 => exact HC1_3.out); (case s3 => exact qc_ HR1_4); (case s4 => exact HC1_4.out); (case s5 => exact qc_ HR1_5); (case s6 => exact HC1_5.out); rintro e w202 ⟨rfl, hb⟩; refine ⟨_, rfl, ?_⟩; replace BK494 := qkb_ BK494 hb; replace BK495 := qkb_ BK495 hb; replace HB := qbs_ hb; (try clear hb); (try clear hb2); (try clear hk); (try clear hi)))
  go_ret
  exact ⟨qx_, qb_⟩
end Go.Proofs.Ytemnlgefngjliaa.Px
