/- Contracts of Go functions, printed. Conditions: as each theorem states. -/
import Derived.Test.YtemnlgefngjliaaPx0
import Derived.Test.YtemnlgefngjliaaPx17
import Derived.Test.YtemnlgefngjliaaPx21
import Derived.Test.YtemnlgefngjliaaPx24
import Derived.Test.YtemnlgefngjliaaPx25
import Derived.Test.YtemnlgefngjliaaPx26
import Derived.Test.YtemnlgefngjliaaPx27
namespace Go.Proofs.Ytemnlgefngjliaa.Px
open Go.Proofs.Ytemnlgefngjliaa.Given
open Go.RowKit Go.Proofs.YtemnlgefngjliaaW.PrintWords Go.Proofs.YtemnlgefngjliaaW.PrintLast Go.Proofs.YtemnlgefngjliaaW.PrintMore
attribute [local go_sem] a2h a2i a2t a2u a1x a1y a2j a2k
set_option linter.unusedVariables false
set_option linter.unusedSimpArgs false
mutual
def a0n.j0 : Nat → ByteArray → List Int → Bool → Int → Int → Int → Int → Bool → Int → Int → Int → List ByteArray → List (S43) → List Int → Option (List Int × Int)
 | 0, _, _, _, _, _, _, _, _, _, _, _, _, _, _ => none
 | k + 1, x2, x3, x30, z0, z1, z2, z3, z4, z5, z6, z7, z8, z9, z10 => if x30 = true then (some (([] : List Int), 1)) else ((a5e.f k z0 z1 z2 z3 z4 z5 z6 z7 z8 z9 z10 x3).bind fun t441 => (if t441 = true then (if ([] : List Int).length < 17592186044416 then (a0n.j1 k x2 (([] : List Int) ++ [1]) z0 z1 z2 z3 z4 z5 z6 z7 z8 z9 z10) else (none)) else (a0n.j1 k x2 ([] : List Int) z0 z1 z2 z3 z4 z5 z6 z7 z8 z9 z10)))
def a0n.j1 : Nat → ByteArray → List Int → Int → Int → Int → Int → Bool → Int → Int → Int → List ByteArray → List (S43) → List Int → Option (List Int × Int)
 | 0, _, _, _, _, _, _, _, _, _, _, _, _, _ => none
 | k + 1, x2, x10, z0, z1, z2, z3, z4, z5, z6, z7, z8, z9, z10 => (a3a.f k z8 x2).bind fun t445 => (if t445 = true then (a0n.j2 k x10 z0 z1 z2 z3 z4 z5 z6 z7 z8 z9 z10) else (if x10.length < 17592186044416 then (a0n.j2 k (x10 ++ [2]) z0 z1 z2 z3 z4 z5 z6 z7 z8 z9 z10) else (none)))
def a0n.j2 : Nat → List Int → Int → Int → Int → Int → Bool → Int → Int → Int → List ByteArray → List (S43) → List Int → Option (List Int × Int)
 | 0, _, _, _, _, _, _, _, _, _, _, _, _ => none
 | k + 1, x10, z0, z1, z2, z3, z4, z5, z6, z7, z8, z9, z10 => (a1v.f k z0 z1 z2 z3 z4 z5 z6 z7 z8 z9 z10).bind fun t449 => (if t449 = true then (a0n.j3 k x10 z0 z1 z2 z3 z4 z5 z6 z7 z8 z9 z10) else (if x10.length < 17592186044416 then (a0n.j3 k (x10 ++ [3]) z0 z1 z2 z3 z4 z5 z6 z7 z8 z9 z10) else (none)))
def a0n.j3 : Nat → List Int → Int → Int → Int → Int → Bool → Int → Int → Int → List ByteArray → List (S43) → List Int → Option (List Int × Int)
 | 0, _, _, _, _, _, _, _, _, _, _, _, _ => none
 | k + 1, x10, z0, z1, z2, z3, z4, z5, z6, z7, z8, z9, z10 => a0n.l0 k x10 0 0 z0 z1 z2 z3 z4 z5 z6 z7 z8 z9 z10
def a0n.l0 : Nat → List Int → Int → Int → Int → Int → Int → Int → Bool → Int → Int → Int → List ByteArray → List (S43) → List Int → Option (List Int × Int)
 | 0, _, _, _, _, _, _, _, _, _, _, _, _, _, _ => none
 | k + 1, x10, x11, x12, z0, z1, z2, z3, z4, z5, z6, z7, z8, z9, z10 => if x12 < (z10.length : Int) then (if 0 ≤ x12 then ((a1q.f k z5 z6 z7 z8 z9 z10 (rd z10 x12)).bind fun t454 => (a0n.l0 k x10 (mx x11 t454) (wrap64 (x12 + 1)) z0 z1 z2 z3 z4 z5 z6 z7 z8 z9 z10)) else (none)) else (if x11 > z3 then (if x10.length < 17592186044416 then (some ((x10 ++ [4]), 0)) else (none)) else (some (x10, 0)))
end
def a0n.f (k : Nat) (a0_0 a0_1 a0_2 a0_3 : Int) (a0_4 : Bool) (a1_0 a1_1 a1_2 : Int) (l1_3 : List ByteArray) (l1_4 : List (S43)) (l1_5 : List Int) (a2 : ByteArray) (l3 : List Int) : Option (List Int × Int) := (a2q.f k a0_0 a0_1 a0_2 a0_3 a0_4).bind fun t437 => (if t437 = true then ((a0f.f k a1_0 a1_1 a1_2 l1_3 l1_4 l1_5).bind fun t438 => (if t438 = true then ((a1e.f k a2).bind fun t439 => (if t439 = true then ((a0s.f k l3).bind fun t440 => (a0n.j0 k a2 l3 (!t440) a0_0 a0_1 a0_2 a0_3 a0_4 a1_0 a1_1 a1_2 l1_3 l1_4 l1_5)) else (a0n.j0 k a2 l3 true a0_0 a0_1 a0_2 a0_3 a0_4 a1_0 a1_1 a1_2 l1_3 l1_4 l1_5))) else (a0n.j0 k a2 l3 true a0_0 a0_1 a0_2 a0_3 a0_4 a1_0 a1_1 a1_2 l1_3 l1_4 l1_5))) else (a0n.j0 k a2 l3 true a0_0 a0_1 a0_2 a0_3 a0_4 a1_0 a1_1 a1_2 l1_3 l1_4 l1_5))
theorem a0n.a0v : ∀ k, (∀ y0 y1 y2 y3 y4 y5 y6 y7 y8 y9 y10 y11 y12 y13, LeO (a0n.j0 k y0 y1 y2 y3 y4 y5 y6 y7 y8 y9 y10 y11 y12 y13) (a0n.j0 (k + 1) y0 y1 y2 y3 y4 y5 y6 y7 y8 y9 y10 y11 y12 y13)) ∧ (∀ y0 y1 y2 y3 y4 y5 y6 y7 y8 y9 y10 y11 y12, LeO (a0n.j1 k y0 y1 y2 y3 y4 y5 y6 y7 y8 y9 y10 y11 y12) (a0n.j1 (k + 1) y0 y1 y2 y3 y4 y5 y6 y7 y8 y9 y10 y11 y12)) ∧ (∀ y0 y1 y2 y3 y4 y5 y6 y7 y8 y9 y10 y11, LeO (a0n.j2 k y0 y1 y2 y3 y4 y5 y6 y7 y8 y9 y10 y11) (a0n.j2 (k + 1) y0 y1 y2 y3 y4 y5 y6 y7 y8 y9 y10 y11)) ∧ (∀ y0 y1 y2 y3 y4 y5 y6 y7 y8 y9 y10 y11, LeO (a0n.j3 k y0 y1 y2 y3 y4 y5 y6 y7 y8 y9 y10 y11) (a0n.j3 (k + 1) y0 y1 y2 y3 y4 y5 y6 y7 y8 y9 y10 y11)) ∧ (∀ y0 y1 y2 y3 y4 y5 y6 y7 y8 y9 y10 y11 y12 y13, LeO (a0n.l0 k y0 y1 y2 y3 y4 y5 y6 y7 y8 y9 y10 y11 y12 y13) (a0n.l0 (k + 1) y0 y1 y2 y3 y4 y5 y6 y7 y8 y9 y10 y11 y12 y13))
 | 0 => ⟨fun _ _ _ _ _ _ _ _ _ _ _ _ _ _ r h => by simp [a0n.j0] at h, fun _ _ _ _ _ _ _ _ _ _ _ _ _ r h => by simp [a0n.j1] at h, fun _ _ _ _ _ _ _ _ _ _ _ _ r h => by simp [a0n.j2] at h, fun _ _ _ _ _ _ _ _ _ _ _ _ r h => by simp [a0n.j3] at h, fun _ _ _ _ _ _ _ _ _ _ _ _ _ _ r h => by simp [a0n.l0] at h⟩
 | k + 1 => by
  obtain ⟨ih0, ih1, ih2, ih3, ih4⟩ := a0n.a0v k
  refine ⟨?_, ?_, ?_, ?_, ?_⟩
  ·intro y0 y1 y2 y3 y4 y5 y6 y7 y8 y9 y10 y11 y12 y13
   unfold a0n.j0
   with_reducible (repeat' first | apply ih0 | apply ih1 | apply ih2 | apply ih3 | apply ih4 | apply a0s.mono | apply a3a.mono | apply a1e.mono | apply a1q.mono | apply a2q.mono | apply a0f.mono | apply a5e.mono | apply a1v.mono | apply LeO.refl | apply LeO.none | apply LeO.ite | refine LeO.bind ?_ (fun _ => ?_))
  ·intro y0 y1 y2 y3 y4 y5 y6 y7 y8 y9 y10 y11 y12
   unfold a0n.j1
   with_reducible (repeat' first | apply ih0 | apply ih1 | apply ih2 | apply ih3 | apply ih4 | apply a0s.mono | apply a3a.mono | apply a1e.mono | apply a1q.mono | apply a2q.mono | apply a0f.mono | apply a5e.mono | apply a1v.mono | apply LeO.refl | apply LeO.none | apply LeO.ite | refine LeO.bind ?_ (fun _ => ?_))
  ·intro y0 y1 y2 y3 y4 y5 y6 y7 y8 y9 y10 y11
   unfold a0n.j2
   with_reducible (repeat' first | apply ih0 | apply ih1 | apply ih2 | apply ih3 | apply ih4 | apply a0s.mono | apply a3a.mono | apply a1e.mono | apply a1q.mono | apply a2q.mono | apply a0f.mono | apply a5e.mono | apply a1v.mono | apply LeO.refl | apply LeO.none | apply LeO.ite | refine LeO.bind ?_ (fun _ => ?_))
  ·intro y0 y1 y2 y3 y4 y5 y6 y7 y8 y9 y10 y11
   unfold a0n.j3
   with_reducible (repeat' first | apply ih0 | apply ih1 | apply ih2 | apply ih3 | apply ih4 | apply a0s.mono | apply a3a.mono | apply a1e.mono | apply a1q.mono | apply a2q.mono | apply a0f.mono | apply a5e.mono | apply a1v.mono | apply LeO.refl | apply LeO.none | apply LeO.ite | refine LeO.bind ?_ (fun _ => ?_))
  ·intro y0 y1 y2 y3 y4 y5 y6 y7 y8 y9 y10 y11 y12 y13
   unfold a0n.l0
   with_reducible (repeat' first | apply ih0 | apply ih1 | apply ih2 | apply ih3 | apply ih4 | apply a0s.mono | apply a3a.mono | apply a1e.mono | apply a1q.mono | apply a2q.mono | apply a0f.mono | apply a5e.mono | apply a1v.mono | apply LeO.refl | apply LeO.none | apply LeO.ite | refine LeO.bind ?_ (fun _ => ?_))
theorem a0n.mono : ∀ a0 a1 a2 a3 a4 a5 a6 a7 a8 a9 a10 a11 a12 k, LeO (a0n.f k a0 a1 a2 a3 a4 a5 a6 a7 a8 a9 a10 a11 a12) (a0n.f (k + 1) a0 a1 a2 a3 a4 a5 a6 a7 a8 a9 a10 a11 a12) := by
 intro a0 a1 a2 a3 a4 a5 a6 a7 a8 a9 a10 a11 a12 k
 obtain ⟨ih0, ih1, ih2, ih3, ih4⟩ := a0n.a0v k
 unfold a0n.f
 with_reducible (repeat' first | apply ih0 | apply ih1 | apply ih2 | apply ih3 | apply ih4 | apply a0s.mono | apply a3a.mono | apply a1e.mono | apply a1q.mono | apply a2q.mono | apply a0f.mono | apply a5e.mono | apply a1v.mono | apply LeO.refl | apply LeO.none | apply LeO.ite | refine LeO.bind ?_ (fun _ => ?_))
def a0n.T14 : Bool × List (List Nat × List Nat) := (true, [([], []), ([], []), ([], []), ([2], [2]), ([], []), ([3, 4], [3, 4]), ([5], [5]), ([1, 6], [1, 6]), ([0, 7], [0, 7]), ([8, 7, 0, 1, 2, 3, 4, 5, 6, 7, 8], [0, 8])])
def a0n.B14 : List Nat := [0, 0, 0, 4, 0, 28, 60, 126, 255, 511]
theorem a0n.b8o : rtab .any (opsOf Try.f19 14) = a0n.T14 := by kernel_rfl
theorem a0n.b7r : a4j a0n.T14.2 a0n.B14 = true := by kernel_rfl
set_option maxHeartbeats 8000000 in
set_option maxRecDepth 100000 in
theorem a0n.calls (k : Nat) (a0_0 a0_1 a0_2 a0_3 : Int) (a0_4 : Bool) (a1_0 a1_1 a1_2 : Int) (A1_3 : Option Addr) (c1_3 : Nat) (l1_3 : List ByteArray) (A1_4 : Option Addr) (c1_4 : Nat) (l1_4 : List (S43)) (A1_5 : Option Addr) (c1_5 : Nat) (l1_5 : List Int) (a2 : ByteArray) (A3 : Option Addr) (c3 : Nat) (l3 r1 : List Int) (r2 : Int) (w : World) (hr1_3 : Kd.C Kd.string w A1_3 l1_3.length l1_3) (hc1_3 : l1_3.length ≤ c1_3) (hr1_4 : Kd.C k43 w A1_4 l1_4.length l1_4) (hc1_4 : l1_4.length ≤ c1_4) (hr1_5 : Kd.C (Kd.int .i64) w A1_5 l1_5.length l1_5) (hc1_5 : l1_5.length ≤ c1_5) (hr3 : Kd.C (Kd.int .i64) w A3 l3.length l3) (hc3 : l3.length ≤ c3) (h : a0n.f k a0_0 a0_1 a0_2 a0_3 a0_4 a1_0 a1_1 a1_2 l1_3 l1_4 l1_5 a2 l3 = some (r1, r2)) :
  Calls Try.prog 19 #[.agg #[.int .i64 a0_0, .int .i64 a0_1, .int .i64 a0_2, .int .i64 a0_3, .bool a0_4], .agg #[.int .i64 a1_0, .int .i64 a1_1, .int .i64 a1_2, .slice A1_3 l1_3.length c1_3, .slice A1_4 l1_4.length c1_4, .slice A1_5 l1_5.length c1_5], .string a2, .slice A3 l3.length c3] w fun e w' => ∃ v0_ : Value, e = .returned (.tuple #[v0_, .int .i64 r2]) ∧ Kd.R (Kd.int .i64) 3 w' w.heap.size (fun _ => True) v0_ r1 ∧ Below w.heap.size w w' := by
 have hu25 := Try.underlying25
 have hu30 := Try.underlying30
 have HR1_3 := am_ hr1_3
 have HC1_3 := am_ hc1_3
 clear hr1_3 hc1_3
 have HR1_4 := am_ hr1_4
 have HC1_4 := am_ hc1_4
 clear hr1_4 hc1_4
 have HR1_5 := am_ hr1_5
 have HC1_5 := am_ hc1_5
 clear hr1_5 hc1_5
 have HR3 := am_ hr3
 have HC3 := am_ hc3
 clear hr3 hc3
 have HB := am_ (Below.refl w.heap.size w)
 have H : ((a2q.f k a0_0 a0_1 a0_2 a0_3 a0_4).bind fun t437 => (if t437 = true then ((a0f.f k a1_0 a1_1 a1_2 l1_3 l1_4 l1_5).bind fun t438 => (if t438 = true then ((a1e.f k a2).bind fun t439 => (if t439 = true then ((a0s.f k l3).bind fun t440 => (a0n.j0 k a2 l3 (!t440) a0_0 a0_1 a0_2 a0_3 a0_4 a1_0 a1_1 a1_2 l1_3 l1_4 l1_5)) else (a0n.j0 k a2 l3 true a0_0 a0_1 a0_2 a0_3 a0_4 a1_0 a1_1 a1_2 l1_3 l1_4 l1_5))) else (a0n.j0 k a2 l3 true a0_0 a0_1 a0_2 a0_3 a0_4 a1_0 a1_1 a1_2 l1_3 l1_4 l1_5))) else (a0n.j0 k a2 l3 true a0_0 a0_1 a0_2 a0_3 a0_4 a1_0 a1_1 a1_2 l1_3 l1_4 l1_5))) = some (r1, r2) := h
 clear h
 have HC5 := am_ H
 clear H
 go_enter Try.func19, Try.ntmps19
 go_upto_region 1 with (first | ((with_reducible refine a0d (N := 4) rfl ?_); refine qev_ 4 #[.int .i64 a0_0, .int .i64 a0_1, .int .i64 a0_2, .int .i64 a0_3, .bool a0_4] 25 ?_; intro gb435 hg w6 hbox hb; have BK435 := am_ (hbox); have GW435 := qga_ hg; have GE435 := qga_ hg; replace HB := qbs_ hb; clear hb hbox hg) | ((with_reducible refine a0d (N := 5) rfl ?_); refine qev_ 5 #[.int .i64 a1_0, .int .i64 a1_1, .int .i64 a1_2, .slice A1_3 l1_3.length c1_3, .slice A1_4 l1_4.length c1_4, .slice A1_5 l1_5.length c1_5] 30 ?_; intro gb436 hg w7 hbox hb; have BK436 := am_ (hbox); have GW436 := qga_ hg; have GE436 := qga_ hg; replace HB := qbs_ hb; have NB435_436 := am_ ((by rw [hg]; exact Nat.ne_of_lt (a0y (qk_ BK435)) : gb435 ≠ gb436)); have NB436_435 := am_ ((by rw [hg]; exact Nat.ne_of_gt (a0y (qk_ BK435)) : gb436 ≠ gb435)); replace BK435 := qkb_ BK435 hb; clear hb hbox hg))
 (try simp only [Act.put, List.setIfInBounds_toArray, List.set_cons_zero, List.set_cons_succ])
 go_cut [30] (fun v30 wc => ∃ (kq : Nat) (x30_4 : Bool), v30 = .bool x30_4 ∧ Aside0 (a0n.j0 kq a2 l3 x30_4 a0_0 a0_1 a0_2 a0_3 a0_4 a1_0 a1_1 a1_2 l1_3 l1_4 l1_5 = some (r1, r2)) ∧ Aside0 (kq ≤ k) ∧ Aside0 (wc.heap[gb435]? = some (.cells #[.int .i64 a0_0, .int .i64 a0_1, .int .i64 a0_2, .int .i64 a0_3, .bool a0_4] 25 (0, 0))) ∧ Aside0 (wc.heap[gb436]? = some (.cells #[.int .i64 a1_0, .int .i64 a1_1, .int .i64 a1_2, (.slice A1_3 l1_3.length c1_3), (.slice A1_4 l1_4.length c1_4), (.slice A1_5 l1_5.length c1_5)] 30 (0, 0))) ∧ Aside0 (Below w.heap.size w wc))
 case first =>
  have H := HC5.out
  clear HC5
  replace H := bm_ H
  obtain ⟨t437, A80, H⟩ := H
  replace H : (if t437 = true then ((a0f.f k a1_0 a1_1 a1_2 l1_3 l1_4 l1_5).bind fun t438 => (if t438 = true then ((a1e.f k a2).bind fun t439 => (if t439 = true then ((a0s.f k l3).bind fun t440 => (a0n.j0 k a2 l3 (!t440) a0_0 a0_1 a0_2 a0_3 a0_4 a1_0 a1_1 a1_2 l1_3 l1_4 l1_5)) else (a0n.j0 k a2 l3 true a0_0 a0_1 a0_2 a0_3 a0_4 a1_0 a1_1 a1_2 l1_3 l1_4 l1_5))) else (a0n.j0 k a2 l3 true a0_0 a0_1 a0_2 a0_3 a0_4 a1_0 a1_1 a1_2 l1_3 l1_4 l1_5))) else (a0n.j0 k a2 l3 true a0_0 a0_1 a0_2 a0_3 a0_4 a1_0 a1_1 a1_2 l1_3 l1_4 l1_5)) = some (r1, r2) := H
  have A8 := am_ A80
  clear A80
  by_cases c9 : t437 = true
  ·subst c9
   have H1 : ((a0f.f k a1_0 a1_1 a1_2 l1_3 l1_4 l1_5).bind fun t438 => (if t438 = true then ((a1e.f k a2).bind fun t439 => (if t439 = true then ((a0s.f k l3).bind fun t440 => (a0n.j0 k a2 l3 (!t440) a0_0 a0_1 a0_2 a0_3 a0_4 a1_0 a1_1 a1_2 l1_3 l1_4 l1_5)) else (a0n.j0 k a2 l3 true a0_0 a0_1 a0_2 a0_3 a0_4 a1_0 a1_1 a1_2 l1_3 l1_4 l1_5))) else (a0n.j0 k a2 l3 true a0_0 a0_1 a0_2 a0_3 a0_4 a1_0 a1_1 a1_2 l1_3 l1_4 l1_5))) = some (r1, r2) := by rw [if_pos rfl] at H; exact H
   clear H
   have H := H1
   clear H1
   replace H := bm_ H
   obtain ⟨t438, A100, H⟩ := H
   replace H : (if t438 = true then ((a1e.f k a2).bind fun t439 => (if t439 = true then ((a0s.f k l3).bind fun t440 => (a0n.j0 k a2 l3 (!t440) a0_0 a0_1 a0_2 a0_3 a0_4 a1_0 a1_1 a1_2 l1_3 l1_4 l1_5)) else (a0n.j0 k a2 l3 true a0_0 a0_1 a0_2 a0_3 a0_4 a1_0 a1_1 a1_2 l1_3 l1_4 l1_5))) else (a0n.j0 k a2 l3 true a0_0 a0_1 a0_2 a0_3 a0_4 a1_0 a1_1 a1_2 l1_3 l1_4 l1_5)) = some (r1, r2) := H
   have A10 := am_ A100
   clear A100
   by_cases c11 : t438 = true
   ·subst c11
    have H1 : ((a1e.f k a2).bind fun t439 => (if t439 = true then ((a0s.f k l3).bind fun t440 => (a0n.j0 k a2 l3 (!t440) a0_0 a0_1 a0_2 a0_3 a0_4 a1_0 a1_1 a1_2 l1_3 l1_4 l1_5)) else (a0n.j0 k a2 l3 true a0_0 a0_1 a0_2 a0_3 a0_4 a1_0 a1_1 a1_2 l1_3 l1_4 l1_5))) = some (r1, r2) := by rw [if_pos rfl] at H; exact H
    clear H
    have H := H1
    clear H1
    replace H := bm_ H
    obtain ⟨t439, A120, H⟩ := H
    replace H : (if t439 = true then ((a0s.f k l3).bind fun t440 => (a0n.j0 k a2 l3 (!t440) a0_0 a0_1 a0_2 a0_3 a0_4 a1_0 a1_1 a1_2 l1_3 l1_4 l1_5)) else (a0n.j0 k a2 l3 true a0_0 a0_1 a0_2 a0_3 a0_4 a1_0 a1_1 a1_2 l1_3 l1_4 l1_5)) = some (r1, r2) := H
    have A12 := am_ A120
    clear A120
    by_cases c13 : t439 = true
    ·subst c13
     have H1 : ((a0s.f k l3).bind fun t440 => (a0n.j0 k a2 l3 (!t440) a0_0 a0_1 a0_2 a0_3 a0_4 a1_0 a1_1 a1_2 l1_3 l1_4 l1_5)) = some (r1, r2) := by rw [if_pos rfl] at H; exact H
     clear H
     have H := H1
     clear H1
     replace H := bm_ H
     obtain ⟨t440, A140, H⟩ := H
     replace H : (a0n.j0 k a2 l3 (!t440) a0_0 a0_1 a0_2 a0_3 a0_4 a1_0 a1_1 a1_2 l1_3 l1_4 l1_5) = some (r1, r2) := H
     have A14 := am_ A140
     clear A140
     have H' := am_ H
     clear H
     have hnb15 := NB435_436.out
     have hnc15 := NB436_435.out
     obtain ⟨z'16_0, z'16_1, z'16_2, z'16_3, z'16_4⟩ := qz5_ BK435; obtain ⟨y'16_0, y'16_1, y'16_2, y'16_3, y'16_4⟩ := qf5_ BK435
     go_wp2_with (first | ((with_reducible refine a0b (f := 35) rfl ?_); refine a0p (some 14) rfl rfl Try.func35 (by kernel_rfl) rfl #[.agg #[.int .i64 a0_0, .int .i64 a0_1, .int .i64 a0_2, .int .i64 a0_3, .bool a0_4]] rfl ql_ ?_; (with_reducible refine (a2q.calls k a0_0 a0_1 a0_2 a0_3 a0_4 true _ A8.out).mono ?_); rintro e w17 ⟨rfl, hb⟩; refine ⟨_, rfl, ?_⟩; replace BK435 := qkb_ BK435 hb; replace BK436 := qkb_ BK436 hb; replace HB := qbs_ hb; (try clear hb); (try clear hb2); (try clear hk); (try clear hi); obtain ⟨z'18_0, z'18_1, z'18_2, z'18_3, z'18_4, z'18_5⟩ := qz6_ BK436; obtain ⟨y'18_0, y'18_1, y'18_2, y'18_3, y'18_4, y'18_5⟩ := qf6_ BK436) | (go_at_call 16; (with_reducible refine (a0f.calls k a1_0 a1_1 a1_2 _ _ l1_3 _ _ l1_4 _ _ l1_5 true _ ?s1 ?s2 ?s3 ?s4 ?s5 ?s6 A10.out).mono ?_); (case s1 => exact qc_ HR1_3); (case s2 => exact HC1_3.out); (case s3 => exact qc_ HR1_4); (case s4 => exact HC1_4.out); (case s5 => exact qc_ HR1_5); (case s6 => exact HC1_5.out); rintro e w19 ⟨rfl, hb⟩; replace BK435 := qkb_ BK435 hb; replace BK436 := qkb_ BK436 hb; replace HB := qbs_ hb; (try clear hb); (try clear hb2); (try clear hk); (try clear hi)) | (go_at_call 25; (with_reducible refine (a1e.calls k a2 true _ A12.out).mono ?_); rintro e w' ⟨rfl, ⟨nd, rfl⟩⟩) | (go_at_call 26; (with_reducible refine (a0s.calls k _ _ l3 t440 _ ?s1 ?s2 A14.out).mono ?_); (case s1 => repeat (first | exact (Kd.a0w HR3.out qb_) | (with_reducible refine Kd.a2f ?_ _) | (with_reducible refine Kd.a2g ?_ _) | (with_reducible refine Kd.a2v ?_))); (case s2 => exact HC3.out); rintro e w' ⟨rfl, ⟨nd, rfl⟩⟩))
     go_meet
     case rel => exact ⟨_, (!t440), qs_, H', ⟨qo_⟩, ⟨qk_ BK435⟩, ⟨qk_ BK436⟩, ⟨qb_⟩⟩
    ·replace c13 := be_ c13
     subst c13
     have H1 : (a0n.j0 k a2 l3 true a0_0 a0_1 a0_2 a0_3 a0_4 a1_0 a1_1 a1_2 l1_3 l1_4 l1_5) = some (r1, r2) := by rw [if_neg (show ¬ (false = true) by decide)] at H; exact H
     clear H
     have H := H1
     clear H1
     have H' := am_ H
     clear H
     have hnb20 := NB435_436.out
     have hnc20 := NB436_435.out
     obtain ⟨z'21_0, z'21_1, z'21_2, z'21_3, z'21_4⟩ := qz5_ BK435; obtain ⟨y'21_0, y'21_1, y'21_2, y'21_3, y'21_4⟩ := qf5_ BK435
     go_wp2_with (first | ((with_reducible refine a0b (f := 35) rfl ?_); refine a0p (some 14) rfl rfl Try.func35 (by kernel_rfl) rfl #[.agg #[.int .i64 a0_0, .int .i64 a0_1, .int .i64 a0_2, .int .i64 a0_3, .bool a0_4]] rfl ql_ ?_; (with_reducible refine (a2q.calls k a0_0 a0_1 a0_2 a0_3 a0_4 true _ A8.out).mono ?_); rintro e w22 ⟨rfl, hb⟩; refine ⟨_, rfl, ?_⟩; replace BK435 := qkb_ BK435 hb; replace BK436 := qkb_ BK436 hb; replace HB := qbs_ hb; (try clear hb); (try clear hb2); (try clear hk); (try clear hi); obtain ⟨z'23_0, z'23_1, z'23_2, z'23_3, z'23_4, z'23_5⟩ := qz6_ BK436; obtain ⟨y'23_0, y'23_1, y'23_2, y'23_3, y'23_4, y'23_5⟩ := qf6_ BK436) | (go_at_call 16; (with_reducible refine (a0f.calls k a1_0 a1_1 a1_2 _ _ l1_3 _ _ l1_4 _ _ l1_5 true _ ?s1 ?s2 ?s3 ?s4 ?s5 ?s6 A10.out).mono ?_); (case s1 => exact qc_ HR1_3); (case s2 => exact HC1_3.out); (case s3 => exact qc_ HR1_4); (case s4 => exact HC1_4.out); (case s5 => exact qc_ HR1_5); (case s6 => exact HC1_5.out); rintro e w24 ⟨rfl, hb⟩; replace BK435 := qkb_ BK435 hb; replace BK436 := qkb_ BK436 hb; replace HB := qbs_ hb; (try clear hb); (try clear hb2); (try clear hk); (try clear hi)) | (go_at_call 25; (with_reducible refine (a1e.calls k a2 false _ A12.out).mono ?_); rintro e w' ⟨rfl, ⟨nd, rfl⟩⟩))
     go_meet
     case rel => exact ⟨_, (true), qs_, H', ⟨qo_⟩, ⟨qk_ BK435⟩, ⟨qk_ BK436⟩, ⟨qb_⟩⟩
   ·replace c11 := be_ c11
    subst c11
    have H1 : (a0n.j0 k a2 l3 true a0_0 a0_1 a0_2 a0_3 a0_4 a1_0 a1_1 a1_2 l1_3 l1_4 l1_5) = some (r1, r2) := by rw [if_neg (show ¬ (false = true) by decide)] at H; exact H
    clear H
    have H := H1
    clear H1
    have H' := am_ H
    clear H
    have hnb25 := NB435_436.out
    have hnc25 := NB436_435.out
    obtain ⟨z'26_0, z'26_1, z'26_2, z'26_3, z'26_4⟩ := qz5_ BK435; obtain ⟨y'26_0, y'26_1, y'26_2, y'26_3, y'26_4⟩ := qf5_ BK435
    go_wp2_with (first | ((with_reducible refine a0b (f := 35) rfl ?_); refine a0p (some 14) rfl rfl Try.func35 (by kernel_rfl) rfl #[.agg #[.int .i64 a0_0, .int .i64 a0_1, .int .i64 a0_2, .int .i64 a0_3, .bool a0_4]] rfl ql_ ?_; (with_reducible refine (a2q.calls k a0_0 a0_1 a0_2 a0_3 a0_4 true _ A8.out).mono ?_); rintro e w27 ⟨rfl, hb⟩; refine ⟨_, rfl, ?_⟩; replace BK435 := qkb_ BK435 hb; replace BK436 := qkb_ BK436 hb; replace HB := qbs_ hb; (try clear hb); (try clear hb2); (try clear hk); (try clear hi); obtain ⟨z'28_0, z'28_1, z'28_2, z'28_3, z'28_4, z'28_5⟩ := qz6_ BK436; obtain ⟨y'28_0, y'28_1, y'28_2, y'28_3, y'28_4, y'28_5⟩ := qf6_ BK436) | (go_at_call 16; (with_reducible refine (a0f.calls k a1_0 a1_1 a1_2 _ _ l1_3 _ _ l1_4 _ _ l1_5 false _ ?s1 ?s2 ?s3 ?s4 ?s5 ?s6 A10.out).mono ?_); (case s1 => exact qc_ HR1_3); (case s2 => exact HC1_3.out); (case s3 => exact qc_ HR1_4); (case s4 => exact HC1_4.out); (case s5 => exact qc_ HR1_5); (case s6 => exact HC1_5.out); rintro e w29 ⟨rfl, hb⟩; replace BK435 := qkb_ BK435 hb; replace BK436 := qkb_ BK436 hb; replace HB := qbs_ hb; (try clear hb); (try clear hb2); (try clear hk); (try clear hi)))
    go_meet
    case rel => exact ⟨_, (true), qs_, H', ⟨qo_⟩, ⟨qk_ BK435⟩, ⟨qk_ BK436⟩, ⟨qb_⟩⟩
  ·replace c9 := be_ c9
   subst c9
   have H1 : (a0n.j0 k a2 l3 true a0_0 a0_1 a0_2 a0_3 a0_4 a1_0 a1_1 a1_2 l1_3 l1_4 l1_5) = some (r1, r2) := by rw [if_neg (show ¬ (false = true) by decide)] at H; exact H
   clear H
   have H := H1
   clear H1
   have H' := am_ H
   clear H
   have hnb30 := NB435_436.out
   have hnc30 := NB436_435.out
   obtain ⟨z'31_0, z'31_1, z'31_2, z'31_3, z'31_4⟩ := qz5_ BK435; obtain ⟨y'31_0, y'31_1, y'31_2, y'31_3, y'31_4⟩ := qf5_ BK435
   go_wp2_with (first | ((with_reducible refine a0b (f := 35) rfl ?_); refine a0p (some 14) rfl rfl Try.func35 (by kernel_rfl) rfl #[.agg #[.int .i64 a0_0, .int .i64 a0_1, .int .i64 a0_2, .int .i64 a0_3, .bool a0_4]] rfl ql_ ?_; (with_reducible refine (a2q.calls k a0_0 a0_1 a0_2 a0_3 a0_4 false _ A8.out).mono ?_); rintro e w32 ⟨rfl, hb⟩; refine ⟨_, rfl, ?_⟩; replace BK435 := qkb_ BK435 hb; replace BK436 := qkb_ BK436 hb; replace HB := qbs_ hb; (try clear hb); (try clear hb2); (try clear hk); (try clear hi)))
   go_meet
   case rel => exact ⟨_, (true), qs_, H', ⟨qo_⟩, ⟨qk_ BK435⟩, ⟨qk_ BK436⟩, ⟨qb_⟩⟩
 case rest =>
  clear HC5
  try clear c1
  try clear c2
  try clear p2
  try clear c3
  try clear c9
  try clear c11
  try clear c13
  try clear c15
  try clear c19
  try clear c20
  try clear c25
  try clear c30
  try clear z'16_0 z'16_1 z'16_2 z'16_3 z'16_4
  try clear z'18_0 z'18_1 z'18_2 z'18_3 z'18_4 z'18_5
  try clear z'21_0 z'21_1 z'21_2 z'21_3 z'21_4
  try clear z'23_0 z'23_1 z'23_2 z'23_3 z'23_4 z'23_5
  try clear z'26_0 z'26_1 z'26_2 z'26_3 z'26_4
  try clear z'28_0 z'28_1 z'28_2 z'28_3 z'28_4 z'28_5
  try clear z'31_0 z'31_1 z'31_2 z'31_3 z'31_4
  try clear y'16_0 y'16_1 y'16_2 y'16_3 y'16_4
  try clear y'18_0 y'18_1 y'18_2 y'18_3 y'18_4 y'18_5
  try clear y'21_0 y'21_1 y'21_2 y'21_3 y'21_4
  try clear y'23_0 y'23_1 y'23_2 y'23_3 y'23_4 y'23_5
  try clear y'26_0 y'26_1 y'26_2 y'26_3 y'26_4
  try clear y'28_0 y'28_1 y'28_2 y'28_3 y'28_4 y'28_5
  try clear y'31_0 y'31_1 y'31_2 y'31_3 y'31_4
  obtain ⟨kq, x30_4, rfl, HA, HJ4, BK435, BK436, HB⟩ := hcut
  cases kq with
  | zero => exact absurd HA.out (by simp [a0n.j0])
  | succ kj4 =>
   have H := HA.out
   clear HA
   simp only [a0n.j0] at H
   by_cases c33 : x30_4 = true
   ·subst c33
    have H1 : (some (([] : List Int), 1)) = some (r1, r2) := by rw [if_pos rfl] at H; exact H
    clear H
    have H := H1
    clear H1
    simp only [Option.some.injEq, Prod.mk.injEq] at H
    obtain ⟨rfl, rfl⟩ := H
    go_wp2
    go_ret2
    exact ⟨_, qx_, by first | exact Kd.a5y _ _ _ _ _ | exact Kd.b0w _ _ _ _ _ | exact Kd.b0x _ _ _ _ _ | exact Kd.b0u _ _ _ _ _ | exact Kd.b0v _ _ _ _ _, qb_⟩
   ·replace c33 := be_ c33
    subst c33
    have H1 : ((a5e.f kj4 a0_0 a0_1 a0_2 a0_3 a0_4 a1_0 a1_1 a1_2 l1_3 l1_4 l1_5 l3).bind fun t441 => (if t441 = true then (if ([] : List Int).length < 17592186044416 then (a0n.j1 kj4 a2 (([] : List Int) ++ [1]) a0_0 a0_1 a0_2 a0_3 a0_4 a1_0 a1_1 a1_2 l1_3 l1_4 l1_5) else (none)) else (a0n.j1 kj4 a2 ([] : List Int) a0_0 a0_1 a0_2 a0_3 a0_4 a1_0 a1_1 a1_2 l1_3 l1_4 l1_5))) = some (r1, r2) := by rw [if_neg (show ¬ (false = true) by decide)] at H; exact H
    clear H
    have H := H1
    clear H1
    replace H := bm_ H
    obtain ⟨t441, A340, H⟩ := H
    replace H : (if t441 = true then (if ([] : List Int).length < 17592186044416 then (a0n.j1 kj4 a2 (([] : List Int) ++ [1]) a0_0 a0_1 a0_2 a0_3 a0_4 a1_0 a1_1 a1_2 l1_3 l1_4 l1_5) else (none)) else (a0n.j1 kj4 a2 ([] : List Int) a0_0 a0_1 a0_2 a0_3 a0_4 a1_0 a1_1 a1_2 l1_3 l1_4 l1_5)) = some (r1, r2) := H
    have A34 := am_ A340
    clear A340
    have HC35 := am_ H
    clear H
    have hnb36 := NB435_436.out
    have hnc36 := NB436_435.out
    obtain ⟨z'37_0, z'37_1, z'37_2, z'37_3, z'37_4⟩ := qz5_ BK435; obtain ⟨y'37_0, y'37_1, y'37_2, y'37_3, y'37_4⟩ := qf5_ BK435
    obtain ⟨z'38_0, z'38_1, z'38_2, z'38_3, z'38_4, z'38_5⟩ := qz6_ BK436; obtain ⟨y'38_0, y'38_1, y'38_2, y'38_3, y'38_4, y'38_5⟩ := qf6_ BK436
    go_upto_if 34 with (first | ((with_reducible refine a0b (f := 48) rfl ?_); refine a0p (some 34) rfl rfl Try.func48 (by kernel_rfl) rfl #[.agg #[.int .i64 a0_0, .int .i64 a0_1, .int .i64 a0_2, .int .i64 a0_3, .bool a0_4], .agg #[.int .i64 a1_0, .int .i64 a1_1, .int .i64 a1_2, .slice A1_3 l1_3.length c1_3, .slice A1_4 l1_4.length c1_4, .slice A1_5 l1_5.length c1_5], .slice A3 l3.length c3] rfl ql_ ?_; (with_reducible refine (a5e.calls kj4 a0_0 a0_1 a0_2 a0_3 a0_4 a1_0 a1_1 a1_2 _ _ l1_3 _ _ l1_4 _ _ l1_5 _ _ l3 t441 _ ?s1 ?s2 ?s3 ?s4 ?s5 ?s6 ?s7 ?s8 A34.out).mono ?_); (case s1 => exact qc_ HR1_3); (case s2 => exact HC1_3.out); (case s3 => exact qc_ HR1_4); (case s4 => exact HC1_4.out); (case s5 => exact qc_ HR1_5); (case s6 => exact HC1_5.out); (case s7 => exact qc_ HR3); (case s8 => exact HC3.out); rintro e w39 ⟨rfl, hb⟩; refine ⟨_, rfl, ?_⟩; replace BK435 := qkb_ BK435 hb; replace BK436 := qkb_ BK436 hb; replace HB := qbs_ hb; (try clear hb); (try clear hb2); (try clear hk); (try clear hi)))
    (try simp only [Act.put, List.setIfInBounds_toArray, List.set_cons_zero, List.set_cons_succ])
    go_cut [10] (fun v10 wc => ∃ (kq : Nat) (x10_34 : List Int), Aside0 (a0n.j1 kq a2 x10_34 a0_0 a0_1 a0_2 a0_3 a0_4 a1_0 a1_1 a1_2 l1_3 l1_4 l1_5 = some (r1, r2)) ∧ Aside0 (kq ≤ kj4) ∧ Aside0 (Kd.R (Kd.int .i64) 3 wc w.heap.size (fun _ => True) v10 x10_34) ∧ Aside0 (wc.heap[gb435]? = some (.cells #[.int .i64 a0_0, .int .i64 a0_1, .int .i64 a0_2, .int .i64 a0_3, .bool a0_4] 25 (0, 0))) ∧ Aside0 (wc.heap[gb436]? = some (.cells #[.int .i64 a1_0, .int .i64 a1_1, .int .i64 a1_2, (.slice A1_3 l1_3.length c1_3), (.slice A1_4 l1_4.length c1_4), (.slice A1_5 l1_5.length c1_5)] 30 (0, 0))) ∧ Aside0 (Below w.heap.size w wc))
    case first =>
     have H := HC35.out
     clear HC35
     by_cases c40 : t441 = true
     ·subst c40
      have H1 : (if ([] : List Int).length < 17592186044416 then (a0n.j1 kj4 a2 (([] : List Int) ++ [1]) a0_0 a0_1 a0_2 a0_3 a0_4 a1_0 a1_1 a1_2 l1_3 l1_4 l1_5) else (none)) = some (r1, r2) := by rw [if_pos rfl] at H; exact H
      clear H
      have H := H1
      clear H1
      by_cases c41 : ([] : List Int).length < 17592186044416
      ·rw [if_pos c41] at H
       have LMc41 := am_ c41
       clear c41
       obtain ⟨y442, hy442⟩ : ∃ y_ : List Int, y_ = (([] : List Int) ++ [1]) := ⟨_, rfl⟩
       replace H : (a0n.j1 kj4 a2 y442 a0_0 a0_1 a0_2 a0_3 a0_4 a1_0 a1_1 a1_2 l1_3 l1_4 l1_5) = some (r1, r2) := by first | (rw [hy442]; with_reducible exact H) | (have H2_ := (Option.bind_some _ _).symm.trans H; rw [hy442]; with_reducible exact H2_) | (have H2_ := (Option.bind_some _ _).symm.trans H; with_reducible exact H2_) | with_reducible exact H | (rw [hy442]; exact H) | exact H
       have Ny442 := am_ hy442
       clear hy442
       have H' := am_ H
       clear H
       go_wp2_with (first | ((with_reducible refine a4x (b := .append) (xs := #[.tmp 35, .tmp 36]) rfl ?_); at_builtin; refine Kd.a5w (Kd.int .i64) (w0 := w) w.heap.size rfl (.tmp 35) (.tmp 36) 28 3 (.int .i64 0) 8 rfl Try.underlying28 info3 rfl (by decide) (by omega) (.slice none 0 0) ([] : List Int) 1 [.int .i64 1] (fun _ => True) (fun _ => False) rfl rfl ?aP (fun _ hk => hk.elim) ?aF ?aO ?aB ?aS ?aL ?_; (case aP => exact rfl); (case aB => exact qb_); (case aF => exact (fun _ _ => trivial)); (case aO => exact ((Kd.a5y _ _ _ _ (fun _ => True)))); (case aS => exact (a1d qb_)); (case aL => have := LMc41.out; omega); intro v443 w42 ho hb hg hat; rw [← Ny442.out] at ho; replace BK435 := am_ (a3k (g := gb435) (o := .cells #[.int .i64 a0_0, .int .i64 a0_1, .int .i64 a0_2, .int .i64 a0_3, .bool a0_4] 25 (0, 0)) (qk_ BK435) hg (by simp [Value.ownBlock])); replace BK436 := am_ (a3k (g := gb436) (o := .cells #[.int .i64 a1_0, .int .i64 a1_1, .int .i64 a1_2, .slice A1_3 l1_3.length c1_3, .slice A1_4 l1_4.length c1_4, .slice A1_5 l1_5.length c1_5] 30 (0, 0)) (qk_ BK436) hg (by simp [Value.ownBlock])); replace HB := am_ (hb); have HO444 := am_ (ho); clear ho hb hg hat))
       go_meet
       case rel => exact ⟨_, (y442), H', ⟨by have := HJ4.out; first | omega | exact Nat.le_refl _⟩, ⟨by (with_reducible repeat (first | apply Kd.a1h | apply Kd.a1i | apply Kd.a0x)); exact HO444.out⟩, ⟨qk_ BK435⟩, ⟨qk_ BK436⟩, ⟨qb_⟩⟩
      ·rw [if_neg c41] at H
       exact absurd H (by simp)
     ·replace c40 := be_ c40
      subst c40
      have H1 : (a0n.j1 kj4 a2 ([] : List Int) a0_0 a0_1 a0_2 a0_3 a0_4 a1_0 a1_1 a1_2 l1_3 l1_4 l1_5) = some (r1, r2) := by rw [if_neg (show ¬ (false = true) by decide)] at H; exact H
      clear H
      have H := H1
      clear H1
      have H' := am_ H
      clear H
      go_wp2
      go_meet
      case rel => exact ⟨_, (([] : List Int)), H', ⟨by have := HJ4.out; first | omega | exact Nat.le_refl _⟩, ⟨by first | exact Kd.a5y _ _ _ _ _ | exact Kd.b0w _ _ _ _ _ | exact Kd.b0x _ _ _ _ _ | exact Kd.b0u _ _ _ _ _ | exact Kd.b0v _ _ _ _ _⟩, ⟨qk_ BK435⟩, ⟨qk_ BK436⟩, ⟨qb_⟩⟩
    case rest =>
     clear HC35
     try clear c1
     try clear c2
     try clear p2
     try clear c3
     try clear c4
     try clear c9
     try clear c11
     try clear c13
     try clear c15
     try clear c19
     try clear c20
     try clear c25
     try clear c30
     try clear c33
     try clear c35
     try clear c36
     try clear c40
     try clear c41
     try clear z'16_0 z'16_1 z'16_2 z'16_3 z'16_4
     try clear z'18_0 z'18_1 z'18_2 z'18_3 z'18_4 z'18_5
     try clear z'21_0 z'21_1 z'21_2 z'21_3 z'21_4
     try clear z'23_0 z'23_1 z'23_2 z'23_3 z'23_4 z'23_5
     try clear z'26_0 z'26_1 z'26_2 z'26_3 z'26_4
     try clear z'28_0 z'28_1 z'28_2 z'28_3 z'28_4 z'28_5
     try clear z'31_0 z'31_1 z'31_2 z'31_3 z'31_4
     try clear z'37_0 z'37_1 z'37_2 z'37_3 z'37_4
     try clear z'38_0 z'38_1 z'38_2 z'38_3 z'38_4 z'38_5
     try clear y'16_0 y'16_1 y'16_2 y'16_3 y'16_4
     try clear y'18_0 y'18_1 y'18_2 y'18_3 y'18_4 y'18_5
     try clear y'21_0 y'21_1 y'21_2 y'21_3 y'21_4
     try clear y'23_0 y'23_1 y'23_2 y'23_3 y'23_4 y'23_5
     try clear y'26_0 y'26_1 y'26_2 y'26_3 y'26_4
     try clear y'28_0 y'28_1 y'28_2 y'28_3 y'28_4 y'28_5
     try clear y'31_0 y'31_1 y'31_2 y'31_3 y'31_4
     try clear y'37_0 y'37_1 y'37_2 y'37_3 y'37_4
     try clear y'38_0 y'38_1 y'38_2 y'38_3 y'38_4 y'38_5
     try clear p2
     obtain ⟨kq, x10_34, HA, HJ34, HO_10, BK435, BK436, HB⟩ := hcut
     cases kq with
     | zero => exact absurd HA.out (by simp [a0n.j1])
     | succ kj34 =>
      have H := HA.out
      clear HA
      simp only [a0n.j1] at H
      replace H := bm_ H
      obtain ⟨t445, A430, H⟩ := H
      replace H : (if t445 = true then (a0n.j2 kj34 x10_34 a0_0 a0_1 a0_2 a0_3 a0_4 a1_0 a1_1 a1_2 l1_3 l1_4 l1_5) else (if x10_34.length < 17592186044416 then (a0n.j2 kj34 (x10_34 ++ [2]) a0_0 a0_1 a0_2 a0_3 a0_4 a1_0 a1_1 a1_2 l1_3 l1_4 l1_5) else (none))) = some (r1, r2) := H
      have A43 := am_ A430
      clear A430
      have HC44 := am_ H
      clear H
      have hnb45 := NB436_435.out
      have hnc45 := NB435_436.out
      obtain ⟨z'46_0, z'46_1, z'46_2, z'46_3, z'46_4, z'46_5⟩ := qz6_ BK436; obtain ⟨y'46_0, y'46_1, y'46_2, y'46_3, y'46_4, y'46_5⟩ := qf6_ BK436
      go_upto_if 42 with (first | ((with_reducible refine a0b (f := 28) rfl ?_); refine a0p (some 41) rfl rfl Try.func28 (by kernel_rfl) rfl #[.slice A1_3 l1_3.length c1_3, .string a2] rfl ql_ ?_; (with_reducible refine (a3a.calls kj34 _ _ l1_3 a2 t445 _ ?s1 ?s2 A43.out).mono ?_); (case s1 => exact qc_ HR1_3); (case s2 => exact HC1_3.out); rintro e w' ⟨rfl, ⟨nd, rfl⟩⟩; refine ⟨_, rfl, ?_⟩))
      (try simp only [Act.put, List.setIfInBounds_toArray, List.set_cons_zero, List.set_cons_succ])
      go_cut [10] (fun v10 wc => ∃ (kq : Nat) (x10_43 : List Int), Aside0 (a0n.j2 kq x10_43 a0_0 a0_1 a0_2 a0_3 a0_4 a1_0 a1_1 a1_2 l1_3 l1_4 l1_5 = some (r1, r2)) ∧ Aside0 (kq ≤ kj34) ∧ Aside0 (Kd.R (Kd.int .i64) 3 wc w.heap.size (fun _ => True) v10 x10_43) ∧ Aside0 (wc.heap[gb435]? = some (.cells #[.int .i64 a0_0, .int .i64 a0_1, .int .i64 a0_2, .int .i64 a0_3, .bool a0_4] 25 (0, 0))) ∧ Aside0 (wc.heap[gb436]? = some (.cells #[.int .i64 a1_0, .int .i64 a1_1, .int .i64 a1_2, (.slice A1_3 l1_3.length c1_3), (.slice A1_4 l1_4.length c1_4), (.slice A1_5 l1_5.length c1_5)] 30 (0, 0))) ∧ Aside0 (Below w.heap.size w wc))
      case first =>
       have H := HC44.out
       clear HC44
       by_cases c47 : t445 = true
       ·subst c47
        have H1 : (a0n.j2 kj34 x10_34 a0_0 a0_1 a0_2 a0_3 a0_4 a1_0 a1_1 a1_2 l1_3 l1_4 l1_5) = some (r1, r2) := by rw [if_pos rfl] at H; exact H
        clear H
        have H := H1
        clear H1
        have H' := am_ H
        clear H
        go_wp2
        go_meet
        case rel => exact ⟨_, (x10_34), H', ⟨by have := HJ4.out; have := HJ34.out; first | omega | exact Nat.le_refl _⟩, ⟨by (with_reducible repeat (first | apply Kd.a1h | apply Kd.a1i | apply Kd.a0x)); exact HO_10.out⟩, ⟨qk_ BK435⟩, ⟨qk_ BK436⟩, ⟨qb_⟩⟩
       ·replace c47 := be_ c47
        subst c47
        have H1 : (if x10_34.length < 17592186044416 then (a0n.j2 kj34 (x10_34 ++ [2]) a0_0 a0_1 a0_2 a0_3 a0_4 a1_0 a1_1 a1_2 l1_3 l1_4 l1_5) else (none)) = some (r1, r2) := by rw [if_neg (show ¬ (false = true) by decide)] at H; exact H
        clear H
        have H := H1
        clear H1
        by_cases c48 : x10_34.length < 17592186044416
        ·rw [if_pos c48] at H
         have LMc48 := am_ c48
         clear c48
         obtain ⟨y446, hy446⟩ : ∃ y_ : List Int, y_ = (x10_34 ++ [2]) := ⟨_, rfl⟩
         replace H : (a0n.j2 kj34 y446 a0_0 a0_1 a0_2 a0_3 a0_4 a1_0 a1_1 a1_2 l1_3 l1_4 l1_5) = some (r1, r2) := by first | (rw [hy446]; with_reducible exact H) | (have H2_ := (Option.bind_some _ _).symm.trans H; rw [hy446]; with_reducible exact H2_) | (have H2_ := (Option.bind_some _ _).symm.trans H; with_reducible exact H2_) | with_reducible exact H | (rw [hy446]; exact H) | exact H
         have Ny446 := am_ hy446
         clear hy446
         have H' := am_ H
         clear H
         go_wp2_with (first | ((with_reducible refine a4x (b := .append) (xs := #[.tmp 43, .tmp 44]) rfl ?_); at_builtin; refine Kd.a5w (Kd.int .i64) (w0 := w) w.heap.size rfl (.tmp 43) (.tmp 44) 28 3 (.int .i64 0) 8 rfl Try.underlying28 info3 rfl (by decide) (by omega) u10 x10_34 2 [.int .i64 2] (fun _ => True) (fun _ => False) rfl rfl ?aP (fun _ hk => hk.elim) ?aF ?aO ?aB ?aS ?aL ?_; (case aP => exact rfl); (case aB => exact qb_); (case aF => exact (fun _ _ => trivial)); (case aO => exact (qr_ HO_10)); (case aS => exact (a1d qb_)); (case aL => have := LMc48.out; omega); intro v447 w49 ho hb hg hat; rw [← Ny446.out] at ho; replace BK435 := am_ (a3k (g := gb435) (o := .cells #[.int .i64 a0_0, .int .i64 a0_1, .int .i64 a0_2, .int .i64 a0_3, .bool a0_4] 25 (0, 0)) (qk_ BK435) hg (Kd.R_ne HO_10.out BK435.out (by decide))); replace BK436 := am_ (a3k (g := gb436) (o := .cells #[.int .i64 a1_0, .int .i64 a1_1, .int .i64 a1_2, .slice A1_3 l1_3.length c1_3, .slice A1_4 l1_4.length c1_4, .slice A1_5 l1_5.length c1_5] 30 (0, 0)) (qk_ BK436) hg (Kd.R_ne HO_10.out BK436.out (by decide))); replace HB := am_ (hb); have HO448 := am_ (ho); clear HO_10 ho hb hg hat))
         go_meet
         case rel => exact ⟨_, (y446), H', ⟨by have := HJ4.out; have := HJ34.out; first | omega | exact Nat.le_refl _⟩, ⟨by (with_reducible repeat (first | apply Kd.a1h | apply Kd.a1i | apply Kd.a0x)); exact HO448.out⟩, ⟨qk_ BK435⟩, ⟨qk_ BK436⟩, ⟨qb_⟩⟩
        ·rw [if_neg c48] at H
         exact absurd H (by simp)
      case rest =>
       clear HC44
       try clear c1
       try clear c2
       try clear p2
       try clear c3
       try clear c4
       try clear c9
       try clear c11
       try clear c13
       try clear c15
       try clear c19
       try clear c20
       try clear c25
       try clear c28
       try clear c30
       try clear c33
       try clear c35
       try clear c36
       try clear c40
       try clear c41
       try clear c45
       try clear c47
       try clear c48
       try clear z'16_0 z'16_1 z'16_2 z'16_3 z'16_4
       try clear z'18_0 z'18_1 z'18_2 z'18_3 z'18_4 z'18_5
       try clear z'21_0 z'21_1 z'21_2 z'21_3 z'21_4
       try clear z'23_0 z'23_1 z'23_2 z'23_3 z'23_4 z'23_5
       try clear z'26_0 z'26_1 z'26_2 z'26_3 z'26_4
       try clear z'28_0 z'28_1 z'28_2 z'28_3 z'28_4 z'28_5
       try clear z'31_0 z'31_1 z'31_2 z'31_3 z'31_4
       try clear z'37_0 z'37_1 z'37_2 z'37_3 z'37_4
       try clear z'38_0 z'38_1 z'38_2 z'38_3 z'38_4 z'38_5
       try clear z'46_0 z'46_1 z'46_2 z'46_3 z'46_4 z'46_5
       try clear y'16_0 y'16_1 y'16_2 y'16_3 y'16_4
       try clear y'18_0 y'18_1 y'18_2 y'18_3 y'18_4 y'18_5
       try clear y'21_0 y'21_1 y'21_2 y'21_3 y'21_4
       try clear y'23_0 y'23_1 y'23_2 y'23_3 y'23_4 y'23_5
       try clear y'26_0 y'26_1 y'26_2 y'26_3 y'26_4
       try clear y'28_0 y'28_1 y'28_2 y'28_3 y'28_4 y'28_5
       try clear y'31_0 y'31_1 y'31_2 y'31_3 y'31_4
       try clear y'37_0 y'37_1 y'37_2 y'37_3 y'37_4
       try clear y'38_0 y'38_1 y'38_2 y'38_3 y'38_4 y'38_5
       try clear y'46_0 y'46_1 y'46_2 y'46_3 y'46_4 y'46_5
       try clear p2
       obtain ⟨kq, x10_43, HA, HJ43, HO_10, BK435, BK436, HB⟩ := hcut
       cases kq with
       | zero => exact absurd HA.out (by simp [a0n.j2])
       | succ kj43 =>
        have H := HA.out
        clear HA
        simp only [a0n.j2] at H
        replace H := bm_ H
        obtain ⟨t449, A500, H⟩ := H
        replace H : (if t449 = true then (a0n.j3 kj43 x10_43 a0_0 a0_1 a0_2 a0_3 a0_4 a1_0 a1_1 a1_2 l1_3 l1_4 l1_5) else (if x10_43.length < 17592186044416 then (a0n.j3 kj43 (x10_43 ++ [3]) a0_0 a0_1 a0_2 a0_3 a0_4 a1_0 a1_1 a1_2 l1_3 l1_4 l1_5) else (none))) = some (r1, r2) := H
        have A50 := am_ A500
        clear A500
        have HC51 := am_ H
        clear H
        have hnb52 := NB435_436.out
        have hnc52 := NB436_435.out
        obtain ⟨z'53_0, z'53_1, z'53_2, z'53_3, z'53_4⟩ := qz5_ BK435; obtain ⟨y'53_0, y'53_1, y'53_2, y'53_3, y'53_4⟩ := qf5_ BK435
        obtain ⟨z'54_0, z'54_1, z'54_2, z'54_3, z'54_4, z'54_5⟩ := qz6_ BK436; obtain ⟨y'54_0, y'54_1, y'54_2, y'54_3, y'54_4, y'54_5⟩ := qf6_ BK436
        go_upto_if 49 with (first | ((with_reducible refine a0b (f := 49) rfl ?_); refine a0p (some 48) rfl rfl Try.func49 (by kernel_rfl) rfl #[.agg #[.int .i64 a0_0, .int .i64 a0_1, .int .i64 a0_2, .int .i64 a0_3, .bool a0_4], .agg #[.int .i64 a1_0, .int .i64 a1_1, .int .i64 a1_2, .slice A1_3 l1_3.length c1_3, .slice A1_4 l1_4.length c1_4, .slice A1_5 l1_5.length c1_5]] rfl ql_ ?_; (with_reducible refine (a1v.calls kj43 a0_0 a0_1 a0_2 a0_3 a0_4 a1_0 a1_1 a1_2 _ _ l1_3 _ _ l1_4 _ _ l1_5 t449 _ ?s1 ?s2 ?s3 ?s4 ?s5 ?s6 A50.out).mono ?_); (case s1 => exact qc_ HR1_3); (case s2 => exact HC1_3.out); (case s3 => exact qc_ HR1_4); (case s4 => exact HC1_4.out); (case s5 => exact qc_ HR1_5); (case s6 => exact HC1_5.out); rintro e w55 ⟨rfl, hb⟩; refine ⟨_, rfl, ?_⟩; replace HO_10 := qrb_ HO_10 hb; replace BK435 := qkb_ BK435 hb; replace BK436 := qkb_ BK436 hb; replace HB := qbs_ hb; (try clear hb); (try clear hb2); (try clear hk); (try clear hi)))
        (try simp only [Act.put, List.setIfInBounds_toArray, List.set_cons_zero, List.set_cons_succ])
        go_cut [10] (fun v10 wc => ∃ (kq : Nat) (x10_50 : List Int), Aside0 (a0n.j3 kq x10_50 a0_0 a0_1 a0_2 a0_3 a0_4 a1_0 a1_1 a1_2 l1_3 l1_4 l1_5 = some (r1, r2)) ∧ Aside0 (kq ≤ kj43) ∧ Aside0 (Kd.R (Kd.int .i64) 3 wc w.heap.size (fun _ => True) v10 x10_50) ∧ Aside0 (wc.heap[gb435]? = some (.cells #[.int .i64 a0_0, .int .i64 a0_1, .int .i64 a0_2, .int .i64 a0_3, .bool a0_4] 25 (0, 0))) ∧ Aside0 (wc.heap[gb436]? = some (.cells #[.int .i64 a1_0, .int .i64 a1_1, .int .i64 a1_2, (.slice A1_3 l1_3.length c1_3), (.slice A1_4 l1_4.length c1_4), (.slice A1_5 l1_5.length c1_5)] 30 (0, 0))) ∧ Aside0 (Below w.heap.size w wc))
        case first =>
         have H := HC51.out
         clear HC51
         by_cases c56 : t449 = true
         ·subst c56
          have H1 : (a0n.j3 kj43 x10_43 a0_0 a0_1 a0_2 a0_3 a0_4 a1_0 a1_1 a1_2 l1_3 l1_4 l1_5) = some (r1, r2) := by rw [if_pos rfl] at H; exact H
          clear H
          have H := H1
          clear H1
          have H' := am_ H
          clear H
          go_wp2
          go_meet
          case rel => exact ⟨_, (x10_43), H', ⟨by have := HJ4.out; have := HJ34.out; have := HJ43.out; first | omega | exact Nat.le_refl _⟩, ⟨by (with_reducible repeat (first | apply Kd.a1h | apply Kd.a1i | apply Kd.a0x)); exact HO_10.out⟩, ⟨qk_ BK435⟩, ⟨qk_ BK436⟩, ⟨qb_⟩⟩
         ·replace c56 := be_ c56
          subst c56
          have H1 : (if x10_43.length < 17592186044416 then (a0n.j3 kj43 (x10_43 ++ [3]) a0_0 a0_1 a0_2 a0_3 a0_4 a1_0 a1_1 a1_2 l1_3 l1_4 l1_5) else (none)) = some (r1, r2) := by rw [if_neg (show ¬ (false = true) by decide)] at H; exact H
          clear H
          have H := H1
          clear H1
          by_cases c57 : x10_43.length < 17592186044416
          ·rw [if_pos c57] at H
           have LMc57 := am_ c57
           clear c57
           obtain ⟨y450, hy450⟩ : ∃ y_ : List Int, y_ = (x10_43 ++ [3]) := ⟨_, rfl⟩
           replace H : (a0n.j3 kj43 y450 a0_0 a0_1 a0_2 a0_3 a0_4 a1_0 a1_1 a1_2 l1_3 l1_4 l1_5) = some (r1, r2) := by first | (rw [hy450]; with_reducible exact H) | (have H2_ := (Option.bind_some _ _).symm.trans H; rw [hy450]; with_reducible exact H2_) | (have H2_ := (Option.bind_some _ _).symm.trans H; with_reducible exact H2_) | with_reducible exact H | (rw [hy450]; exact H) | exact H
           have Ny450 := am_ hy450
           clear hy450
           have H' := am_ H
           clear H
           go_wp2_with (first | ((with_reducible refine a4x (b := .append) (xs := #[.tmp 50, .tmp 51]) rfl ?_); at_builtin; refine Kd.a5w (Kd.int .i64) (w0 := w) w.heap.size rfl (.tmp 50) (.tmp 51) 28 3 (.int .i64 0) 8 rfl Try.underlying28 info3 rfl (by decide) (by omega) u10 x10_43 3 [.int .i64 3] (fun _ => True) (fun _ => False) rfl rfl ?aP (fun _ hk => hk.elim) ?aF ?aO ?aB ?aS ?aL ?_; (case aP => exact rfl); (case aB => exact qb_); (case aF => exact (fun _ _ => trivial)); (case aO => exact (qr_ HO_10)); (case aS => exact (a1d qb_)); (case aL => have := LMc57.out; omega); intro v451 w58 ho hb hg hat; rw [← Ny450.out] at ho; replace BK435 := am_ (a3k (g := gb435) (o := .cells #[.int .i64 a0_0, .int .i64 a0_1, .int .i64 a0_2, .int .i64 a0_3, .bool a0_4] 25 (0, 0)) (qk_ BK435) hg (Kd.R_ne HO_10.out BK435.out (by decide))); replace BK436 := am_ (a3k (g := gb436) (o := .cells #[.int .i64 a1_0, .int .i64 a1_1, .int .i64 a1_2, .slice A1_3 l1_3.length c1_3, .slice A1_4 l1_4.length c1_4, .slice A1_5 l1_5.length c1_5] 30 (0, 0)) (qk_ BK436) hg (Kd.R_ne HO_10.out BK436.out (by decide))); replace HB := am_ (hb); have HO452 := am_ (ho); clear HO_10 ho hb hg hat))
           go_meet
           case rel => exact ⟨_, (y450), H', ⟨by have := HJ4.out; have := HJ34.out; have := HJ43.out; first | omega | exact Nat.le_refl _⟩, ⟨by (with_reducible repeat (first | apply Kd.a1h | apply Kd.a1i | apply Kd.a0x)); exact HO452.out⟩, ⟨qk_ BK435⟩, ⟨qk_ BK436⟩, ⟨qb_⟩⟩
          ·rw [if_neg c57] at H
           exact absurd H (by simp)
        case rest =>
         clear HC51
         try clear c1
         try clear c2
         try clear p2
         try clear c3
         try clear c4
         try clear c5
         try clear c9
         try clear c11
         try clear c13
         try clear c15
         try clear c19
         try clear c20
         try clear c25
         try clear c28
         try clear c30
         try clear c33
         try clear c35
         try clear c36
         try clear c40
         try clear c41
         try clear c45
         try clear c47
         try clear c48
         try clear c49
         try clear c52
         try clear c56
         try clear c57
         try clear z'16_0 z'16_1 z'16_2 z'16_3 z'16_4
         try clear z'18_0 z'18_1 z'18_2 z'18_3 z'18_4 z'18_5
         try clear z'21_0 z'21_1 z'21_2 z'21_3 z'21_4
         try clear z'23_0 z'23_1 z'23_2 z'23_3 z'23_4 z'23_5
         try clear z'26_0 z'26_1 z'26_2 z'26_3 z'26_4
         try clear z'28_0 z'28_1 z'28_2 z'28_3 z'28_4 z'28_5
         try clear z'31_0 z'31_1 z'31_2 z'31_3 z'31_4
         try clear z'37_0 z'37_1 z'37_2 z'37_3 z'37_4
         try clear z'38_0 z'38_1 z'38_2 z'38_3 z'38_4 z'38_5
         try clear z'46_0 z'46_1 z'46_2 z'46_3 z'46_4 z'46_5
         try clear z'53_0 z'53_1 z'53_2 z'53_3 z'53_4
         try clear z'54_0 z'54_1 z'54_2 z'54_3 z'54_4 z'54_5
         try clear y'16_0 y'16_1 y'16_2 y'16_3 y'16_4
         try clear y'18_0 y'18_1 y'18_2 y'18_3 y'18_4 y'18_5
         try clear y'21_0 y'21_1 y'21_2 y'21_3 y'21_4
         try clear y'23_0 y'23_1 y'23_2 y'23_3 y'23_4 y'23_5
         try clear y'26_0 y'26_1 y'26_2 y'26_3 y'26_4
         try clear y'28_0 y'28_1 y'28_2 y'28_3 y'28_4 y'28_5
         try clear y'31_0 y'31_1 y'31_2 y'31_3 y'31_4
         try clear y'37_0 y'37_1 y'37_2 y'37_3 y'37_4
         try clear y'38_0 y'38_1 y'38_2 y'38_3 y'38_4 y'38_5
         try clear y'46_0 y'46_1 y'46_2 y'46_3 y'46_4 y'46_5
         try clear y'53_0 y'53_1 y'53_2 y'53_3 y'53_4
         try clear y'54_0 y'54_1 y'54_2 y'54_3 y'54_4 y'54_5
         try clear p2
         obtain ⟨kq, x10_50, HA, HJ50, HO_10, BK435, BK436, HB⟩ := hcut
         cases kq with
         | zero => exact absurd HA.out (by simp [a0n.j3])
         | succ kj50 =>
          have H := HA.out
          clear HA
          simp only [a0n.j3] at H
          have H' := am_ H
          clear H
          go_wp2
          go_loopg [11, 12] kj50 (fun kq v11 v12 w' => ∃ (x11_5 : Int) (x12_5 : Int), v11 = .int .i64 x11_5 ∧ v12 = .int .i64 x12_5 ∧ Aside0 (a0n.l0 kq x10_50 x11_5 x12_5 a0_0 a0_1 a0_2 a0_3 a0_4 a1_0 a1_1 a1_2 l1_3 l1_4 l1_5 = some (r1, r2)) ∧ Aside0 (kq ≤ kj50) ∧ Aside0 (Kd.R (Kd.int .i64) 3 w' w.heap.size (fun _ => True) u10 x10_50) ∧ Aside0 (w'.heap[gb435]? = some (.cells #[.int .i64 a0_0, .int .i64 a0_1, .int .i64 a0_2, .int .i64 a0_3, .bool a0_4] 25 (0, 0))) ∧ Aside0 (w'.heap[gb436]? = some (.cells #[.int .i64 a1_0, .int .i64 a1_1, .int .i64 a1_2, (.slice A1_3 l1_3.length c1_3), (.slice A1_4 l1_4.length c1_4), (.slice A1_5 l1_5.length c1_5)] 30 (0, 0))) ∧ Aside0 (Below w.heap.size w w'))
          case atStart => exact ⟨(0), (0), qs_, qs_, H', ⟨Nat.le_refl _⟩, ⟨by (with_reducible repeat (first | apply Kd.a1h | apply Kd.a1i | apply Kd.a0x)); exact HO_10.out⟩, ⟨qk_ BK435⟩, ⟨qk_ BK436⟩, ⟨qb_⟩⟩
          case round =>
           clear H'
           try clear c1
           try clear c2
           try clear p2
           try clear c3
           try clear c4
           try clear c5
           try clear c9
           try clear c11
           try clear c13
           try clear c15
           try clear c19
           try clear c20
           try clear c25
           try clear c28
           try clear c30
           try clear c33
           try clear c35
           try clear c36
           try clear c40
           try clear c41
           try clear c45
           try clear c47
           try clear c48
           try clear c49
           try clear c52
           try clear c56
           try clear c57
           try clear z'16_0 z'16_1 z'16_2 z'16_3 z'16_4
           try clear z'18_0 z'18_1 z'18_2 z'18_3 z'18_4 z'18_5
           try clear z'21_0 z'21_1 z'21_2 z'21_3 z'21_4
           try clear z'23_0 z'23_1 z'23_2 z'23_3 z'23_4 z'23_5
           try clear z'26_0 z'26_1 z'26_2 z'26_3 z'26_4
           try clear z'28_0 z'28_1 z'28_2 z'28_3 z'28_4 z'28_5
           try clear z'31_0 z'31_1 z'31_2 z'31_3 z'31_4
           try clear z'37_0 z'37_1 z'37_2 z'37_3 z'37_4
           try clear z'38_0 z'38_1 z'38_2 z'38_3 z'38_4 z'38_5
           try clear z'46_0 z'46_1 z'46_2 z'46_3 z'46_4 z'46_5
           try clear z'53_0 z'53_1 z'53_2 z'53_3 z'53_4
           try clear z'54_0 z'54_1 z'54_2 z'54_3 z'54_4 z'54_5
           try clear y'16_0 y'16_1 y'16_2 y'16_3 y'16_4
           try clear y'18_0 y'18_1 y'18_2 y'18_3 y'18_4 y'18_5
           try clear y'21_0 y'21_1 y'21_2 y'21_3 y'21_4
           try clear y'23_0 y'23_1 y'23_2 y'23_3 y'23_4 y'23_5
           try clear y'26_0 y'26_1 y'26_2 y'26_3 y'26_4
           try clear y'28_0 y'28_1 y'28_2 y'28_3 y'28_4 y'28_5
           try clear y'31_0 y'31_1 y'31_2 y'31_3 y'31_4
           try clear y'37_0 y'37_1 y'37_2 y'37_3 y'37_4
           try clear y'38_0 y'38_1 y'38_2 y'38_3 y'38_4 y'38_5
           try clear y'46_0 y'46_1 y'46_2 y'46_3 y'46_4 y'46_5
           try clear y'53_0 y'53_1 y'53_2 y'53_3 y'53_4
           try clear y'54_0 y'54_1 y'54_2 y'54_3 y'54_4 y'54_5
           try clear p2
           obtain ⟨x11_5, x12_5, rfl, rfl, HA, HK5, HO_10, BK435, BK436, HB⟩ := hrel
           cases gk with
           | zero => exact absurd HA.out (by simp [a0n.l0])
           | succ k5 =>
            have H := HA.out
            clear HA
            simp only [a0n.l0] at H
            by_cases c59 : x12_5 < (l1_5.length : Int)
            ·rw [if_pos c59] at H
             have c59b0 : decide (x12_5 < (l1_5.length : Int)) = true := decide_eq_true c59
             clear c59
             by_cases c60 : 0 ≤ x12_5
             ·rw [if_pos c60] at H
              have c60b0 : decide (0 ≤ x12_5) = true := decide_eq_true c60
              clear c60
              replace H := bm_ H
              obtain ⟨t454, A610, H⟩ := H
              replace H : (a0n.l0 k5 x10_50 (mx x11_5 t454) (wrap64 (x12_5 + 1)) a0_0 a0_1 a0_2 a0_3 a0_4 a1_0 a1_1 a1_2 l1_3 l1_4 l1_5) = some (r1, r2) := H
              have A61 := am_ A610
              clear A610
              obtain ⟨ji62, hji62⟩ : ∃ j_ : Int, (mx x11_5 t454) = j_ := ⟨_, rfl⟩
              replace H : (a0n.l0 k5 x10_50 ji62 (wrap64 (x12_5 + 1)) a0_0 a0_1 a0_2 a0_3 a0_4 a1_0 a1_1 a1_2 l1_3 l1_4 l1_5) = some (r1, r2) := by first | (rw [hji62] at H; exact H) | (simp only [hji62] at H ⊢; exact H)
              (try rw [hji62] at A61)
              have hji62_ : (if x11_5 < t454 then t454 else x11_5) = ji62 := hji62
              have H' := am_ H
              clear H
              have hnb63 := NB436_435.out
              have hnc63 := NB435_436.out
              obtain ⟨z'64_0, z'64_1, z'64_2, z'64_3, z'64_4, z'64_5⟩ := qz6_ BK436; obtain ⟨y'64_0, y'64_1, y'64_2, y'64_3, y'64_4, y'64_5⟩ := qf6_ BK436
              try go_wp2
              replace HO_10 := am_ (Kd.a0x HO_10.out)
              replace BK435 := am_ (bd_ BK435.out)
              replace BK436 := am_ (bd_ BK436.out)
              replace HB := am_ (ld_ HB.out)
              have p453 : 0 ≤ (x12_5 : Int) := ot_
              have q453 : x12_5 < (l1_5.length : Int) := ot_
              obtain ⟨ad453, e453, hx453_0⟩ := Kd.a1w HR1_5.out x12_5 p453 q453
              have hw453_0 := hx453_0
              cases e453
              replace hx453_0 := qh_ HB hx453_0
              replace p453 := eq_true p453
              replace q453 := eq_true q453
              refine a4p (n := 10) (S := fun w' => w'.cell? ⟨gb436, 0, none⟩ = some (.int .i64 a1_0) ∧ w'.cell? ⟨gb436, 1, none⟩ = some (.int .i64 a1_1) ∧ w'.cell? ⟨gb436, 2, none⟩ = some (.int .i64 a1_2) ∧ w'.cell? ⟨gb436, 3, none⟩ = some (.slice A1_3 l1_3.length c1_3) ∧ w'.cell? ⟨gb436, 4, none⟩ = some (.slice A1_4 l1_4.length c1_4) ∧ w'.cell? ⟨gb436, 5, none⟩ = some (.slice (some ad453) l1_5.length c1_5) ∧ w'.cell? (ad453.add (x12_5).toNat) = some (.int .i64 (rd l1_5 x12_5))) (ds := []) #[i_,i_,i_,i_,i_,i_,i_,i_,i_,i_] (by kernel_rfl) rfl rfl ⟨(bc_ BK436.out 0).trans rfl, (bc_ BK436.out 1).trans rfl, (bc_ BK436.out 2).trans rfl, (bc_ BK436.out 3).trans rfl, (bc_ BK436.out 4).trans rfl, (bc_ BK436.out 5).trans rfl, ((HB.out.cell (World.block_lt_of_cell? w _ hw453_0)).trans hw453_0)⟩ (fun hHeld => ?_); refine a3l a0n.b8o a0n.b7r (fun HT_ HW_ => ?_)
              generalize wr.drew = w65 at HO_10 BK435 BK436 HB hx453_0 hHeld ⊢
              refine qpu_ 0 (some 60) #[o_,i_,i_,i_,i_,i_,i_,i_,i_,i_] ?_
              refine qpu_ 2 (some 62) #[o_,i_,o_,i_,i_,i_,i_,i_,i_,i_] ?_
              refine qpu_ 4 (some 64) #[o_,i_,o_,i_,o_,i_,i_,i_,i_,i_] ?_
              refine a2m (i := 1) (N := some 61) (v := ?_) (a' := ?_) #[o_,o_,o_,i_,o_,i_,i_,i_,i_,i_] rfl rfl (a1m HT_.out HW_.out (by kernel_rfl)) (fun _ _ _ h => h) (Or.inl ⟨by rfl, ?_⟩) hHeld ?_ ?_
              rotate_left
              ·rintro w' ⟨s0, s1, s2, s3, s4, s5, s6⟩
               go_simp
               with_reducible rfl
              rotate_left
              ·exact qp_
              refine a2m (i := 3) (N := some 63) (v := ?_) (a' := ?_) #[o_,o_,o_,o_,o_,i_,i_,i_,i_,i_] rfl rfl (a1m HT_.out HW_.out (by kernel_rfl)) (fun _ _ _ h => h) (Or.inl ⟨by rfl, ?_⟩) hHeld ?_ ?_
              rotate_left
              ·rintro w' ⟨s0, s1, s2, s3, s4, s5, s6⟩
               go_simp
               with_reducible rfl
              rotate_left
              ·exact qp_
              refine qpu_ 5 (some 65) #[o_,o_,o_,o_,o_,o_,i_,i_,i_,i_] ?_
              refine a2m (i := 6) (N := some 66) (v := ?_) (a' := ?_) #[o_,o_,o_,o_,o_,o_,o_,i_,i_,i_] rfl rfl (a1m HT_.out HW_.out (by kernel_rfl)) (fun _ _ _ h => h) (Or.inl ⟨by rfl, ?_⟩) hHeld ?_ ?_
              rotate_left
              ·rintro w' ⟨s0, s1, s2, s3, s4, s5, s6⟩
               go_simp
               with_reducible rfl
              rotate_left
              ·exact qp_
              refine one_ (i := 7) (N := some 67) #[o_,o_,o_,o_,o_,o_,o_,o_,i_,i_] rfl rfl (a3j HT_.out (by kernel_rfl)) (by decide) (fun K hK => ?_)
              refine a4h Try.func50 (by kernel_rfl) rfl #[.agg #[.int .i64 a1_0, .int .i64 a1_1, .int .i64 a1_2, .slice A1_3 l1_3.length c1_3, .slice A1_4 l1_4.length c1_4, .slice (some ad453) l1_5.length c1_5], .int .i64 (rd l1_5 x12_5)] (by rfl) rfl rfl ql_ ?_
              with_reducible refine (a1q.calls k5 a1_0 a1_1 a1_2 _ _ l1_3 _ _ l1_4 _ _ l1_5 (rd l1_5 x12_5) t454 _ ?s1 ?s2 ?s3 ?s4 ?s5 ?s6 A61.out).mono ?_
              (case s1 => exact qc_ HR1_3)
              (case s2 => exact HC1_3.out)
              (case s3 => exact qc_ HR1_4)
              (case s4 => exact HC1_4.out)
              (case s5 => exact qc_ HR1_5)
              (case s6 => exact HC1_5.out)
              rintro e w66 ⟨rfl, hb⟩
              refine ⟨_, rfl, ?_⟩
              replace HO_10 := qrb_ HO_10 hb
              replace BK435 := qkb_ BK435 hb
              replace BK436 := qkb_ BK436 hb
              replace HB := qbs_ hb
              (try clear hb)
              (try clear hb2)
              (try clear hk)
              (try clear hi)
              refine hK.out _ _ ⟨(bc_ BK436.out 0).trans rfl, (bc_ BK436.out 1).trans rfl, (bc_ BK436.out 2).trans rfl, (bc_ BK436.out 3).trans rfl, (bc_ BK436.out 4).trans rfl, (bc_ BK436.out 5).trans rfl, ((HB.out.cell (World.block_lt_of_cell? w _ hw453_0)).trans hw453_0)⟩ (fun hHeld => ?_)
              clear hK K
              refine a4b (a' := ?_) ?_ ?_
              rotate_left
              ·show Act.put _ (some 67) _ = _
               exact qp_
              refine qpu_ 8 (some 68) #[o_,o_,o_,o_,o_,o_,o_,o_,o_,i_] ?_
              refine qpu_ 9 (some 11) #[o_,o_,o_,o_,o_,o_,o_,o_,o_,o_] ?_
              refine a4y (a4c HT_.out (by kernel_rfl)) ?_
              try go_wp2
              go_roundg k5
              case measure => have := HJ4.out; have := HJ34.out; have := HJ43.out; have := HJ50.out; have := HK5.out; omega
              case rel => exact ⟨(ji62), (wrap64 (x12_5 + 1)), (by first | rfl | (simp; done) | (simp only [← hji62] <;> (first | rfl | simp)) | (simp [*]; done)), qs_, H', ⟨by have := HJ4.out; have := HJ34.out; have := HJ43.out; have := HJ50.out; have := HK5.out; omega⟩, ⟨by (with_reducible repeat (first | apply Kd.a1h | apply Kd.a1i | apply Kd.a0x)); exact HO_10.out⟩, ⟨qk_ BK435⟩, ⟨qk_ BK436⟩, ⟨qb_⟩⟩
             ·rw [if_neg c60] at H
              exact absurd H (by simp)
            ·rw [if_neg c59] at H
             have c59b0 : decide (x12_5 < (l1_5.length : Int)) = false := decide_eq_false c59
             clear c59
             by_cases c67 : x11_5 > a0_3
             ·rw [if_pos c67] at H
              have c67b0 : decide (a0_3 < x11_5) = true := decide_eq_true c67
              clear c67
              by_cases c68 : x10_50.length < 17592186044416
              ·rw [if_pos c68] at H
               have LMc68 := am_ c68
               clear c68
               obtain ⟨y455, hy455⟩ : ∃ y_ : List Int, y_ = (x10_50 ++ [4]) := ⟨_, rfl⟩
               replace H : (some (y455, 0)) = some (r1, r2) := by first | (rw [hy455]; with_reducible exact H) | (have H2_ := (Option.bind_some _ _).symm.trans H; rw [hy455]; with_reducible exact H2_) | (have H2_ := (Option.bind_some _ _).symm.trans H; with_reducible exact H2_) | with_reducible exact H | (rw [hy455]; exact H) | exact H
               have Ny455 := am_ hy455
               clear hy455
               simp only [Option.some.injEq, Prod.mk.injEq] at H
               obtain ⟨rfl, rfl⟩ := H
               have hnb69 := NB436_435.out
               have hnc69 := NB435_436.out
               obtain ⟨z'70_0, z'70_1, z'70_2, z'70_3, z'70_4, z'70_5⟩ := qz6_ BK436; obtain ⟨y'70_0, y'70_1, y'70_2, y'70_3, y'70_4, y'70_5⟩ := qf6_ BK436
               obtain ⟨z'71_0, z'71_1, z'71_2, z'71_3, z'71_4⟩ := qz5_ BK435; obtain ⟨y'71_0, y'71_1, y'71_2, y'71_3, y'71_4⟩ := qf5_ BK435
               go_wp2_with (first | ((with_reducible refine a4x (b := .append) (xs := #[.tmp 73, .tmp 74]) rfl ?_); at_builtin; refine Kd.a5w (Kd.int .i64) (w0 := w) w.heap.size rfl (.tmp 73) (.tmp 74) 28 3 (.int .i64 0) 8 rfl Try.underlying28 info3 rfl (by decide) (by omega) u10 x10_50 4 [.int .i64 4] (fun _ => True) (fun _ => False) rfl rfl ?aP (fun _ hk => hk.elim) ?aF ?aO ?aB ?aS ?aL ?_; (case aP => exact rfl); (case aB => exact qb_); (case aF => exact (fun _ _ => trivial)); (case aO => exact (qr_ HO_10)); (case aS => exact (a1d qb_)); (case aL => have := LMc68.out; omega); intro v456 w72 ho hb hg hat; rw [← Ny455.out] at ho; replace BK435 := am_ (a3k (g := gb435) (o := .cells #[.int .i64 a0_0, .int .i64 a0_1, .int .i64 a0_2, .int .i64 a0_3, .bool a0_4] 25 (0, 0)) (qk_ BK435) hg (Kd.R_ne HO_10.out BK435.out (by decide))); replace BK436 := am_ (a3k (g := gb436) (o := .cells #[.int .i64 a1_0, .int .i64 a1_1, .int .i64 a1_2, .slice A1_3 l1_3.length c1_3, .slice A1_4 l1_4.length c1_4, .slice A1_5 l1_5.length c1_5] 30 (0, 0)) (qk_ BK436) hg (Kd.R_ne HO_10.out BK436.out (by decide))); replace HB := am_ (hb); have HO457 := am_ (ho); clear HO_10 ho hb hg hat))
               go_ret2
               exact ⟨_, qx_, by (with_reducible repeat (first | apply Kd.a1h | apply Kd.a1i | apply Kd.a0x)); exact HO457.out, qb_⟩
              ·rw [if_neg c68] at H
               exact absurd H (by simp)
             ·rw [if_neg c67] at H
              have c67b0 : decide (a0_3 < x11_5) = false := decide_eq_false c67
              clear c67
              simp only [Option.some.injEq, Prod.mk.injEq] at H
              obtain ⟨rfl, rfl⟩ := H
              have hnb73 := NB436_435.out
              have hnc73 := NB435_436.out
              obtain ⟨z'74_0, z'74_1, z'74_2, z'74_3, z'74_4, z'74_5⟩ := qz6_ BK436; obtain ⟨y'74_0, y'74_1, y'74_2, y'74_3, y'74_4, y'74_5⟩ := qf6_ BK436
              obtain ⟨z'75_0, z'75_1, z'75_2, z'75_3, z'75_4⟩ := qz5_ BK435; obtain ⟨y'75_0, y'75_1, y'75_2, y'75_3, y'75_4⟩ := qf5_ BK435
              go_wp2
              go_ret2
              exact ⟨_, qx_, by (with_reducible repeat (first | apply Kd.a1h | apply Kd.a1i | apply Kd.a0x)); exact HO_10.out, qb_⟩
end Go.Proofs.Ytemnlgefngjliaa.Px
