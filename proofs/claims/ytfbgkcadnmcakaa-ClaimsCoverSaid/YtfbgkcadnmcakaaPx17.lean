/- Contracts of Go functions, printed. Conditions: as each theorem states. -/
import Derived.Test.YtfbgkcadnmcakaaPx0
import Derived.Test.YtfbgkcadnmcakaaPx1
import Derived.Test.YtfbgkcadnmcakaaPx14
import Derived.Test.YtfbgkcadnmcakaaPx15
import Derived.Test.YtfbgkcadnmcakaaPx16
namespace Go.Proofs.Ytfbgkcadnmcakaa.Px
open Go.Proofs.Ytfbgkcadnmcakaa.Given
open Go.RowKit Go.Proofs.YtfbgkcadnmcakaaW.PrintWords Go.Proofs.YtfbgkcadnmcakaaW.PrintLast Go.Proofs.YtfbgkcadnmcakaaW.PrintMore
attribute [local go_sem] a2w a2u a3d a3c a2q a2r a2x a2y
set_option linter.unusedVariables false
set_option linter.unusedSimpArgs false
attribute [local go_sem high] b3u
mutual
def a0d.l0 : Nat → List (S30) → List Int → Int → Bool → List (S30) → Int → Int → List Int → Int → Option (Bool)
 | 0, _, _, _, _, _, _, _, _, _ => none
 | k + 1, x0, x1, x2, x7, x8, x9, x10, x11, x12 => if x12 ≥ 0 then (if 0 ≤ x12 then (if x12 < (x1.length : Int) then (if x11.length < 17592186044416 then (a0d.l0 k x0 x1 x2 x7 x8 x9 x10 (x11 ++ [rd x1 x12]) (wrap64 (x12 - 1))) else (none)) else (none)) else (none)) else ((a0g.f k x0 x11 x2).bind fun bt310 => (if x10 = 0 then (if bt310.2.2 = 0 then (if bt310.2.1 = x9 then ((a0t.f k x8 bt310.1).bind fun t315 => (if t315 = true then (a0d.j1 k x0 x1 x2 x7 x8 x9 (decide (x9 < 0))) else (a0d.j1 k x0 x1 x2 x7 x8 x9 true))) else (a0d.j1 k x0 x1 x2 x7 x8 x9 true)) else (a0d.j1 k x0 x1 x2 x7 x8 x9 true)) else (if x7 = true then (if (x8.length : Int) = 0 then (if x9 = 0 then (some (bt310.2.2 != 0)) else (some false)) else (some false)) else (some false))))
def a0d.j1 : Nat → List (S30) → List Int → Int → Bool → List (S30) → Int → Bool → Option (Bool)
 | 0, _, _, _, _, _, _, _ => none
 | k + 1, x0, x1, x2, x7, x8, x9, x94 => if x94 = true then (some false) else (a0d.l1 k x0 x1 x2 x7 x8 x9 x9 0 x8 (x8.length : Int) 0)
def a0d.l1 : Nat → List (S30) → List Int → Int → Bool → List (S30) → Int → Int → Int → List (S30) → Int → Int → Option (Bool)
 | 0, _, _, _, _, _, _, _, _, _, _, _ => none
 | k + 1, x0, x1, x2, x7, x8, x9, x16, x17, x96, x97, x98 => if x98 < x97 then (if 0 ≤ x98 then (if x98 < (x96.length : Int) then (a0d.l2 k x0 x1 x2 x7 x8 x9 x16 x17 x98 0 x96 x97 x98 x0 (x0.length : Int) 0 ((a0a x96 x98).f0) ((a0a x96 x98).f1) ((a0a x96 x98).f2) ((a0a x96 x98).f3) ((a0a x96 x98).f4.f0) ((a0a x96 x98).f4.f1)) else (none)) else (none)) else (a0d.l3 k x0 x1 x2 x7 x8 x9 x16 x17 x1 (x1.length : Int) 0)
def a0d.l2 : Nat → List (S30) → List Int → Int → Bool → List (S30) → Int → Int → Int → Int → Int → List (S30) → Int → Int → List (S30) → Int → Int → Int → Int → Int → Int → Int → Int → Option (Bool)
 | 0, _, _, _, _, _, _, _, _, _, _, _, _, _, _, _, _, _, _, _, _, _, _ => none
 | k + 1, x0, x1, x2, x7, x8, x9, x16, x17, x18, x20, x96, x97, x98, x103, x104, x105, z0, z1, z2, z3, z4, z5 => if x105 < x104 then (if 0 ≤ x105 then (if x105 < (x103.length : Int) then (if ((a0a x103 x105).f0) = z0 then (if x7 = true then (a0d.l2 k x0 x1 x2 (((a0a x103 x105).f0) == z0 && (((a0a x103 x105).f1) == z1 && (((a0a x103 x105).f2) == z2 && ((((a0a x103 x105).f4.f0) == z4 && (((a0a x103 x105).f4.f1) == z5)))))) x8 x9 x16 x17 x18 ((a0a x103 x105).f3) x96 x97 x98 x103 x104 (wrap64 (x105 + 1)) z0 z1 z2 z3 z4 z5) else (a0d.l2 k x0 x1 x2 false x8 x9 x16 x17 x18 ((a0a x103 x105).f3) x96 x97 x98 x103 x104 (wrap64 (x105 + 1)) z0 z1 z2 z3 z4 z5)) else (a0d.l2 k x0 x1 x2 x7 x8 x9 x16 x17 x18 x20 x96 x97 x98 x103 x104 (wrap64 (x105 + 1)) z0 z1 z2 z3 z4 z5)) else (none)) else (none)) else (if x7 = true then (if z3 > 0 then (if z3 ≤ x20 then (if x18 = (wrap64 ((x8.length : Int) - 1)) then (if x18 = 0 then (a0d.l1 k x0 x1 x2 true x8 x9 (wrap64 (x16 + z3)) x17 x96 x97 (wrap64 (x98 + 1))) else (if 0 ≤ (wrap64 (x18 - 1)) then (if (wrap64 (x18 - 1)) < (x8.length : Int) then ((a2e.f ((a0a x8 (wrap64 (x18 - 1))).f0) ((a0a x8 (wrap64 (x18 - 1))).f1) ((a0a x8 (wrap64 (x18 - 1))).f2) ((a0a x8 (wrap64 (x18 - 1))).f3) ((a0a x8 (wrap64 (x18 - 1))).f4.f0) ((a0a x8 (wrap64 (x18 - 1))).f4.f1) z0 z1 z2 z3 z4 z5).bind fun t319 => (a0d.l1 k x0 x1 x2 t319 x8 x9 (wrap64 (x16 + z3)) x17 x96 x97 (wrap64 (x98 + 1)))) else (none)) else (none))) else (if z3 = x20 then (if x18 = 0 then (a0d.l1 k x0 x1 x2 true x8 x9 (wrap64 (x16 + z3)) x17 x96 x97 (wrap64 (x98 + 1))) else (if 0 ≤ (wrap64 (x18 - 1)) then (if (wrap64 (x18 - 1)) < (x8.length : Int) then ((a2e.f ((a0a x8 (wrap64 (x18 - 1))).f0) ((a0a x8 (wrap64 (x18 - 1))).f1) ((a0a x8 (wrap64 (x18 - 1))).f2) ((a0a x8 (wrap64 (x18 - 1))).f3) ((a0a x8 (wrap64 (x18 - 1))).f4.f0) ((a0a x8 (wrap64 (x18 - 1))).f4.f1) z0 z1 z2 z3 z4 z5).bind fun t321 => (a0d.l1 k x0 x1 x2 t321 x8 x9 (wrap64 (x16 + z3)) x17 x96 x97 (wrap64 (x98 + 1)))) else (none)) else (none))) else (a0d.l1 k x0 x1 x2 false x8 x9 (wrap64 (x16 + z3)) x17 x96 x97 (wrap64 (x98 + 1))))) else (a0d.l1 k x0 x1 x2 false x8 x9 (wrap64 (x16 + z3)) x17 x96 x97 (wrap64 (x98 + 1)))) else (a0d.l1 k x0 x1 x2 false x8 x9 (wrap64 (x16 + z3)) x17 x96 x97 (wrap64 (x98 + 1)))) else (a0d.l1 k x0 x1 x2 false x8 x9 (wrap64 (x16 + z3)) x17 x96 x97 (wrap64 (x98 + 1))))
def a0d.l3 : Nat → List (S30) → List Int → Int → Bool → List (S30) → Int → Int → Int → List Int → Int → Int → Option (Bool)
 | 0, _, _, _, _, _, _, _, _, _, _, _ => none
 | k + 1, x0, x1, x2, x7, x8, x9, x16, x17, x169, x170, x171 => if x171 < x170 then (if 0 ≤ x171 then (if x171 < (x169.length : Int) then (a0d.l4 k x0 x1 x2 x7 x8 x9 x16 x17 (rd x169 x171) x169 x170 x171 x0 (x0.length : Int) 0) else (none)) else (none)) else (if x7 = true then (if x16 = x2 then (if x9 = 0 then (some true) else (if x17 = (wrap64 (x2 - x9)) then (some ((x8.length : Int) == (x1.length : Int))) else (some false))) else (some false)) else (some false))
def a0d.l4 : Nat → List (S30) → List Int → Int → Bool → List (S30) → Int → Int → Int → Int → List Int → Int → Int → List (S30) → Int → Int → Option (Bool)
 | 0, _, _, _, _, _, _, _, _, _, _, _, _, _, _, _ => none
 | k + 1, x0, x1, x2, x7, x8, x9, x16, x17, x24, x169, x170, x171, x175, x176, x177 => if x177 < x176 then (if 0 ≤ x177 then (if x177 < (x175.length : Int) then (if ((a0a x175 x177).f0) = x24 then (a0d.l4 k x0 x1 x2 x7 x8 x9 x16 (wrap64 (x17 + ((a0a x175 x177).f3))) x24 x169 x170 x171 x175 x176 (wrap64 (x177 + 1))) else (a0d.l4 k x0 x1 x2 x7 x8 x9 x16 x17 x24 x169 x170 x171 x175 x176 (wrap64 (x177 + 1)))) else (none)) else (none)) else (a0d.l3 k x0 x1 x2 x7 x8 x9 x16 x17 x169 x170 (wrap64 (x171 + 1)))
end
def a0d.f (k : Nat) (l0 : List (S30)) (l1 : List Int) (a2 : Int) : Option (Bool) := (a0e.f k).bind fun t300 => (if (l1.length : Int) > 100 then (some t300) else ((a0g.f k l0 l1 a2).bind fun bt301 => (a0d.l0 k l0 l1 a2 t300 bt301.1 bt301.2.1 bt301.2.2 ([] : List Int) (wrap64 ((l1.length : Int) - 1)))))
theorem a0d.a1k : ∀ k, (∀ y0 y1 y2 y3 y4 y5 y6 y7 y8, LeO (a0d.l0 k y0 y1 y2 y3 y4 y5 y6 y7 y8) (a0d.l0 (k + 1) y0 y1 y2 y3 y4 y5 y6 y7 y8)) ∧ (∀ y0 y1 y2 y3 y4 y5 y6, LeO (a0d.j1 k y0 y1 y2 y3 y4 y5 y6) (a0d.j1 (k + 1) y0 y1 y2 y3 y4 y5 y6)) ∧ (∀ y0 y1 y2 y3 y4 y5 y6 y7 y8 y9 y10, LeO (a0d.l1 k y0 y1 y2 y3 y4 y5 y6 y7 y8 y9 y10) (a0d.l1 (k + 1) y0 y1 y2 y3 y4 y5 y6 y7 y8 y9 y10)) ∧ (∀ y0 y1 y2 y3 y4 y5 y6 y7 y8 y9 y10 y11 y12 y13 y14 y15 y16 y17 y18 y19 y20 y21, LeO (a0d.l2 k y0 y1 y2 y3 y4 y5 y6 y7 y8 y9 y10 y11 y12 y13 y14 y15 y16 y17 y18 y19 y20 y21) (a0d.l2 (k + 1) y0 y1 y2 y3 y4 y5 y6 y7 y8 y9 y10 y11 y12 y13 y14 y15 y16 y17 y18 y19 y20 y21)) ∧ (∀ y0 y1 y2 y3 y4 y5 y6 y7 y8 y9 y10, LeO (a0d.l3 k y0 y1 y2 y3 y4 y5 y6 y7 y8 y9 y10) (a0d.l3 (k + 1) y0 y1 y2 y3 y4 y5 y6 y7 y8 y9 y10)) ∧ (∀ y0 y1 y2 y3 y4 y5 y6 y7 y8 y9 y10 y11 y12 y13 y14, LeO (a0d.l4 k y0 y1 y2 y3 y4 y5 y6 y7 y8 y9 y10 y11 y12 y13 y14) (a0d.l4 (k + 1) y0 y1 y2 y3 y4 y5 y6 y7 y8 y9 y10 y11 y12 y13 y14))
 | 0 => ⟨fun _ _ _ _ _ _ _ _ _ r h => by simp [a0d.l0] at h, fun _ _ _ _ _ _ _ r h => by simp [a0d.j1] at h, fun _ _ _ _ _ _ _ _ _ _ _ r h => by simp [a0d.l1] at h, fun _ _ _ _ _ _ _ _ _ _ _ _ _ _ _ _ _ _ _ _ _ _ r h => by simp [a0d.l2] at h, fun _ _ _ _ _ _ _ _ _ _ _ r h => by simp [a0d.l3] at h, fun _ _ _ _ _ _ _ _ _ _ _ _ _ _ _ r h => by simp [a0d.l4] at h⟩
 | k + 1 => by
  obtain ⟨ih0, ih1, ih2, ih3, ih4, ih5⟩ := a0d.a1k k
  refine ⟨?_, ?_, ?_, ?_, ?_, ?_⟩
  ·intro y0 y1 y2 y3 y4 y5 y6 y7 y8
   unfold a0d.l0
   with_reducible (repeat' first | apply ih0 | apply ih1 | apply ih2 | apply ih3 | apply ih4 | apply ih5 | apply a0g.mono | apply a0e.mono | apply a0t.mono | apply LeO.refl | apply LeO.none | apply LeO.ite | refine LeO.bind ?_ (fun _ => ?_))
  ·intro y0 y1 y2 y3 y4 y5 y6
   unfold a0d.j1
   with_reducible (repeat' first | apply ih0 | apply ih1 | apply ih2 | apply ih3 | apply ih4 | apply ih5 | apply a0g.mono | apply a0e.mono | apply a0t.mono | apply LeO.refl | apply LeO.none | apply LeO.ite | refine LeO.bind ?_ (fun _ => ?_))
  ·intro y0 y1 y2 y3 y4 y5 y6 y7 y8 y9 y10
   unfold a0d.l1
   with_reducible (repeat' first | apply ih0 | apply ih1 | apply ih2 | apply ih3 | apply ih4 | apply ih5 | apply a0g.mono | apply a0e.mono | apply a0t.mono | apply LeO.refl | apply LeO.none | apply LeO.ite | refine LeO.bind ?_ (fun _ => ?_))
  ·intro y0 y1 y2 y3 y4 y5 y6 y7 y8 y9 y10 y11 y12 y13 y14 y15 y16 y17 y18 y19 y20 y21
   unfold a0d.l2
   with_reducible (repeat' first | apply ih0 | apply ih1 | apply ih2 | apply ih3 | apply ih4 | apply ih5 | apply a0g.mono | apply a0e.mono | apply a0t.mono | apply LeO.refl | apply LeO.none | apply LeO.ite | refine LeO.bind ?_ (fun _ => ?_))
  ·intro y0 y1 y2 y3 y4 y5 y6 y7 y8 y9 y10
   unfold a0d.l3
   with_reducible (repeat' first | apply ih0 | apply ih1 | apply ih2 | apply ih3 | apply ih4 | apply ih5 | apply a0g.mono | apply a0e.mono | apply a0t.mono | apply LeO.refl | apply LeO.none | apply LeO.ite | refine LeO.bind ?_ (fun _ => ?_))
  ·intro y0 y1 y2 y3 y4 y5 y6 y7 y8 y9 y10 y11 y12 y13 y14
   unfold a0d.l4
   with_reducible (repeat' first | apply ih0 | apply ih1 | apply ih2 | apply ih3 | apply ih4 | apply ih5 | apply a0g.mono | apply a0e.mono | apply a0t.mono | apply LeO.refl | apply LeO.none | apply LeO.ite | refine LeO.bind ?_ (fun _ => ?_))
theorem a0d.mono : ∀ a0 a1 a2 k, LeO (a0d.f k a0 a1 a2) (a0d.f (k + 1) a0 a1 a2) := by
 intro a0 a1 a2 k
 obtain ⟨ih0, ih1, ih2, ih3, ih4, ih5⟩ := a0d.a1k k
 unfold a0d.f
 with_reducible (repeat' first | apply ih0 | apply ih1 | apply ih2 | apply ih3 | apply ih4 | apply ih5 | apply a0g.mono | apply a0e.mono | apply a0t.mono | apply LeO.refl | apply LeO.none | apply LeO.ite | refine LeO.bind ?_ (fun _ => ?_))
def a0d.T29 : Bool × List (List Nat × List Nat) := (true, [([], []), ([0], [0]), ([1], [1]), ([2, 1], [1, 2]), ([3, 1], [1, 3]), ([1, 4], [1, 4]), ([5, 1], [5]), ([6], [6]), ([7, 6], [6, 7]), ([6], [6]), ([8, 9, 6], [6, 8, 9]), ([6, 10], [6, 10]), ([11, 6], [11]), ([12], [12]), ([12], [12]), ([14, 12], [12, 14]), ([15, 12], [12, 15]), ([13, 16, 12], [12, 13, 16]), ([17, 12, 12], [12, 17]), ([18], [18]), ([19, 18], [18, 19]), ([18], [18]), ([20, 21, 18], [18, 20, 21]), ([18, 22, 12], [12, 18, 22]), ([12, 23], [12, 23]), ([24, 18], [24]), ([25], [25]), ([26, 25], [25, 26]), ([27, 25, 25], [25, 27]), ([28], [28]), ([28], [28]), ([30, 28], [28, 30]), ([29, 31, 28], [28, 29, 31]), ([32, 28], [28, 32]), ([28], [28]), ([33, 34, 28, 28], [28, 33, 34]), ([28, 35, 25], [25, 28, 35]), ([25, 36], [25, 36]), ([37, 35, 0, 1, 2, 3, 4, 5, 6, 7, 8, 9, 10, 11, 12, 13, 14, 15, 16, 17, 18, 19, 20, 21, 22, 23, 24, 25, 26, 27, 28, 29, 30, 31, 32, 33, 34, 35, 36, 37], [0, 37])])
def a0d.B29 : List Nat := [0, 1, 3, 7, 15, 31, 63, 127, 255, 127, 1023, 2047, 4095, 8191, 8191, 24575, 57343, 131071, 262143, 524287, 1048575, 524287, 4194303, 8388607, 16777215, 33554431, 67108863, 134217727, 268435455, 536870911, 536870911, 1610612735, 4294967295, 8589934591, 536870911, 34359738367, 68719476735, 137438953471, 274877906943]
theorem a0d.a6p : rtab .any (opsOf Try.f4 29) = a0d.T29 := by kernel_rfl
theorem a0d.a5s : a3w a0d.T29.2 a0d.B29 = true := by kernel_rfl
set_option maxHeartbeats 60000000 in
set_option maxRecDepth 100000 in
theorem a0d.calls (k : Nat) (A0 : Option Addr) (c0 : Nat) (l0 : List (S30)) (A1 : Option Addr) (c1 : Nat) (l1 : List Int) (a2 : Int) (r : Bool) (w : World) (hr0 : Kd.C k30 w A0 l0.length l0) (hc0 : l0.length ≤ c0) (hr1 : Kd.C (Kd.int .i64) w A1 l1.length l1) (hc1 : l1.length ≤ c1) (h : a0d.f k l0 l1 a2 = some r) :
  Calls Try.prog 4 #[.slice A0 l0.length c0, .slice A1 l1.length c1, .int .i64 a2] w fun e w' => e = .returned (.bool r) ∧ Below w.heap.size w w' := by
 have hu30 := Try.underlying30
 have HR0 := am_ hr0
 have HC0 := am_ hc0
 clear hr0 hc0
 have HR1 := am_ hr1
 have HC1 := am_ hc1
 clear hr1 hc1
 have HB := am_ (Below.refl w.heap.size w)
 have H : ((a0e.f k).bind fun t300 => (if (l1.length : Int) > 100 then (some t300) else ((a0g.f k l0 l1 a2).bind fun bt301 => (a0d.l0 k l0 l1 a2 t300 bt301.1 bt301.2.1 bt301.2.2 ([] : List Int) (wrap64 ((l1.length : Int) - 1)))))) = some r := h
 clear h
 replace H := bm_ H
 obtain ⟨t300, A40, H⟩ := H
 replace H : (if (l1.length : Int) > 100 then (some t300) else ((a0g.f k l0 l1 a2).bind fun bt301 => (a0d.l0 k l0 l1 a2 t300 bt301.1 bt301.2.1 bt301.2.2 ([] : List Int) (wrap64 ((l1.length : Int) - 1))))) = some r := H
 have A4 := am_ A40
 clear A40
 by_cases c5 : (l1.length : Int) > 100
 ·rw [if_pos c5] at H
  have c5b0 : decide (100 < (l1.length : Int)) = true := decide_eq_true c5
  have c5b1 : decide (100 < l1.length) = true := decide_eq_true (by omega)
  clear c5
  obtain rfl := si_ H
  go_enter Try.func4, Try.ntmps4
  go_wp2_with (first | ((with_reducible refine a1c (f := 8) rfl ?_); refine a1y (some 27) rfl rfl Try.func8 (by kernel_rfl) rfl #[] rfl ql_ ?_; (with_reducible refine (a0e.calls k  t300 _ A4.out).mono ?_); rintro e w6 ⟨rfl, hb⟩; refine ⟨_, rfl, ?_⟩; replace HB := qbs_ hb; (try clear hb); (try clear hb2); (try clear hk); (try clear hi)))
  go_ret
  exact ⟨qx_, qb_⟩
 ·rw [if_neg c5] at H
  have c5b0 : decide (100 < (l1.length : Int)) = false := decide_eq_false c5
  have c5b1 : decide (100 < l1.length) = false := decide_eq_false (by omega)
  clear c5
  replace H := bm_ H
  obtain ⟨⟨t301, t302, t303⟩, A70, H⟩ := H
  replace H : (a0d.l0 k l0 l1 a2 t300 t301 t302 t303 ([] : List Int) (wrap64 ((l1.length : Int) - 1))) = some r := H
  have A7 := am_ A70
  clear A70
  have H' := am_ H
  clear H
  go_enter Try.func4, Try.ntmps4
  go_wp2_with (first | ((with_reducible refine a1c (f := 8) rfl ?_); refine a1y (some 27) rfl rfl Try.func8 (by kernel_rfl) rfl #[] rfl ql_ ?_; (with_reducible refine (a0e.calls k  t300 _ A4.out).mono ?_); rintro e w8 ⟨rfl, hb⟩; refine ⟨_, rfl, ?_⟩; replace HB := qbs_ hb; (try clear hb); (try clear hb2); (try clear hk); (try clear hi)) | ((with_reducible refine a1c (f := 12) rfl ?_); refine a1y (some 36) rfl rfl Try.func12 (by kernel_rfl) rfl #[.slice A0 l0.length c0, .slice A1 l1.length c1, .int .i64 a2] rfl ql_ ?_; (with_reducible refine (a0g.calls k _ _ l0 _ _ l1 a2 t301 t302 t303 _ ?s1 ?s2 ?s3 ?s4 A7.out).mono ?_); (case s1 => exact qc_ HR0); (case s2 => exact HC0.out); (case s3 => exact qc_ HR1); (case s4 => exact HC1.out); rintro e w9 ⟨v304, rfl, ho0, hb⟩; refine ⟨_, rfl, ?_⟩; have HO305 := am_ (Kd.a2k ho0 (a1s qb_)); replace HB := qbs_ hb; (try clear hb); (try clear hb2); (try clear hk); (try clear hi); (try clear ho0)))
  go_loopg [11, 12] k (fun kq v11 v12 w' => ∃ (x11_1 : List Int) (x12_1 : Int), v12 = .int .i64 x12_1 ∧ Aside0 (a0d.l0 kq l0 l1 a2 t300 t301 t302 t303 x11_1 x12_1 = some r) ∧ Aside0 (kq ≤ k) ∧ Aside0 (Kd.R k30 30 w' w.heap.size (fun _ => True) v304 t301) ∧ Aside0 (Kd.R (Kd.int .i64) 3 w' w.heap.size (fun _ => True) v11 x11_1) ∧ Aside0 (Below w.heap.size w w'))
  case atStart => exact ⟨(([] : List Int)), (wrap64 ((l1.length : Int) - 1)), qs_, H', ⟨Nat.le_refl _⟩, ⟨by (with_reducible repeat (first | apply Kd.a0n | apply Kd.a0o | apply Kd.a0m)); exact HO305.out⟩, ⟨by first | exact Kd.a5x _ _ _ _ _ | exact Kd.N_nil _ _ _ _ _ | exact Kd.V_nil _ _ _ _ _ | exact Kd.Q_nil _ _ _ _ _ | exact Kd.S_nil _ _ _ _ _⟩, ⟨qb_⟩⟩
  case round => as_aux_lemma =>
   clear H'
   try clear c1
   try clear p2
   try clear c4
   try clear c5
   try clear c5b0
   try clear c5b1
   try clear p6
   try clear c8
   obtain ⟨x11_1, x12_1, rfl, HA, HK1, HO_8, HO_11, HB⟩ := hrel
   cases gk with
   | zero => exact absurd HA.out (by simp [a0d.l0])
   | succ k1 =>
    have H := HA.out
    clear HA
    simp only [a0d.l0] at H
    by_cases c10 : x12_1 ≥ 0
    ·rw [if_pos c10] at H
     have c10b0 : decide (0 ≤ x12_1) = true := decide_eq_true c10
     clear c10
     by_cases c11 : 0 ≤ x12_1
     ·rw [if_pos c11] at H
      have c11b0 : decide (0 ≤ x12_1) = true := decide_eq_true c11
      clear c11
      by_cases c12 : x12_1 < (l1.length : Int)
      ·rw [if_pos c12] at H
       have c12b0 : decide (x12_1 < (l1.length : Int)) = true := decide_eq_true c12
       clear c12
       by_cases c13 : x11_1.length < 17592186044416
       ·rw [if_pos c13] at H
        have LMc13 := am_ c13
        clear c13
        obtain ⟨y307, hy307⟩ : ∃ y_ : List Int, y_ = (x11_1 ++ [rd l1 x12_1]) := ⟨_, rfl⟩
        replace H : (a0d.l0 k1 l0 l1 a2 t300 t301 t302 t303 y307 (wrap64 (x12_1 - 1))) = some r := by first | (rw [hy307]; with_reducible exact H) | (have H2_ := (Option.bind_some _ _).symm.trans H; rw [hy307]; with_reducible exact H2_) | (have H2_ := (Option.bind_some _ _).symm.trans H; with_reducible exact H2_) | with_reducible exact H | (rw [hy307]; exact H) | exact H
        have Ny307 := am_ hy307
        clear hy307
        have H' := am_ H
        clear H
        have p306 : 0 ≤ (x12_1 : Int) := ot_
        have q306 : x12_1 < (l1.length : Int) := ot_
        obtain ⟨ad306, e306, hx306_0⟩ := Kd.a4l HR1.out x12_1 p306 q306
        cases e306
        replace hx306_0 := qh_ HB hx306_0
        replace p306 := eq_true p306
        replace q306 := eq_true q306
        go_wp2_with (first | ((with_reducible refine a5i (b := .append) (xs := #[.tmp 47, .tmp 52]) rfl ?_); (try (refine a2a (by rfl) ?_; dsimp only)); at_builtin; refine Kd.a6x (Kd.int .i64) (w0 := w) w.heap.size rfl (.tmp 47) (.tmp 52) 34 3 (.int .i64 0) 8 rfl Try.underlying34 info3 rfl (by decide) (by omega) u11 x11_1 (rd l1 x12_1) [.int .i64 (rd l1 x12_1)] (fun _ => True) (fun _ => False) rfl rfl ?aP (fun _ hk => hk.elim) ?aF ?aO ?aB ?aS ?aL ?_; (case aP => exact rfl); (case aB => exact qb_); (case aF => exact (fun _ _ => trivial)); (case aO => exact (qr_ HO_11)); (case aS => exact (a1s qb_)); (case aL => have := LMc13.out; omega); intro v308 w14 ho hb hg hat; rw [← Ny307.out] at ho; replace HO_8 := am_ (Kd.b0y (qr_ HO_8) (Kd.b0x (qr_ HO_11)) (by decide) hg); replace HB := am_ (hb); have HO309 := am_ (ho); clear HO_11 ho hb hg hat))
        go_roundg k1
        case measure => have := HK1.out; omega
        case rel => exact ⟨(y307), (wrap64 (x12_1 - 1)), qs_, H', ⟨by have := HK1.out; omega⟩, ⟨by (with_reducible repeat (first | apply Kd.a0n | apply Kd.a0o | apply Kd.a0m)); exact HO_8.out⟩, ⟨by (with_reducible repeat (first | apply Kd.a0n | apply Kd.a0o | apply Kd.a0m)); exact HO309.out⟩, ⟨qb_⟩⟩
       ·rw [if_neg c13] at H
        exact absurd H (by simp)
      ·rw [if_neg c12] at H
       exact absurd H (by simp)
     ·rw [if_neg c11] at H
      exact absurd H (by simp)
    ·rw [if_neg c10] at H
     have c10b0 : decide (0 ≤ x12_1) = false := decide_eq_false c10
     clear c10
     replace H := bm_ H
     obtain ⟨⟨t310, t311, t312⟩, A150, H⟩ := H
     replace H : (if t303 = 0 then (if t312 = 0 then (if t311 = t302 then ((a0t.f k1 t301 t310).bind fun t315 => (if t315 = true then (a0d.j1 k1 l0 l1 a2 t300 t301 t302 (decide (t302 < 0))) else (a0d.j1 k1 l0 l1 a2 t300 t301 t302 true))) else (a0d.j1 k1 l0 l1 a2 t300 t301 t302 true)) else (a0d.j1 k1 l0 l1 a2 t300 t301 t302 true)) else (if t300 = true then (if (t301.length : Int) = 0 then (if t302 = 0 then (some (t312 != 0)) else (some false)) else (some false)) else (some false))) = some r := H
     have A15 := am_ A150
     clear A150
     by_cases c16 : t303 = 0
     ·rw [if_pos c16] at H
      have c16b0 : (t303 == 0) = true := beq_iff_eq.mpr c16
      have c16b1 : (t303 != 0) = false := bne_eq_false_iff_eq.mpr c16
      clear c16
      have HC17 := am_ H
      clear H
      obtain ⟨Ao18, co18, eo18⟩ := Kd.a1v HO_11.out
      subst eo18
      go_upto_region 13 with (first | ((with_reducible refine a1c (f := 12) rfl ?_); refine a1y (some 58) rfl rfl Try.func12 (by kernel_rfl) rfl #[.slice A0 l0.length c0, .slice Ao18 x11_1.length co18, .int .i64 a2] rfl ql_ ?_; (with_reducible refine (a0g.calls k1 _ _ l0 _ _ x11_1 a2 t310 t311 t312 _ ?s1 ?s2 ?s3 ?s4 A15.out).mono ?_); (case s1 => exact qc_ HR0); (case s2 => exact HC0.out); (case s3 => exact qv_ (Kd.a0p HO_11.out).2.2); (case s4 => exact (Kd.a0p HO_11.out).2.1); rintro e w19 ⟨v313, rfl, ho0, hb⟩; refine ⟨_, rfl, ?_⟩; replace HO_11 := qrb_ HO_11 hb; have HO314 := am_ (Kd.a2k (Kd.a3e ho0 (Kd.R_lt (qr_ HO_8))) (a1s qb_)); replace HO_8 := qel_ HO_8 ho0 hb; replace HB := qbs_ hb; (try clear hb); (try clear hb2); (try clear hk); (try clear hi); (try clear ho0)))
      (try simp only [Act.put, List.setIfInBounds_toArray, List.set_cons_zero, List.set_cons_succ])
      go_cut [94] (fun v94 wc => ∃ (kq : Nat) (x94_16 : Bool), v94 = .bool x94_16 ∧ Aside0 (a0d.j1 kq l0 l1 a2 t300 t301 t302 x94_16 = some r) ∧ Aside0 (kq ≤ k1) ∧ Aside0 (Kd.R k30 30 wc w.heap.size (fun _ => True) v304 t301) ∧ Aside0 (Below w.heap.size w wc))
      case first => as_aux_lemma =>
       have H := HC17.out
       clear HC17
       by_cases c20 : t312 = 0
       ·rw [if_pos c20] at H
        have c20b0 : (t312 == 0) = true := beq_iff_eq.mpr c20
        have c20b1 : (t312 != 0) = false := bne_eq_false_iff_eq.mpr c20
        clear c20
        (first | rw [c20b0] | (simp only [a3k, a4i]; rw [c20b0]) | skip)
        by_cases c21 : t311 = t302
        ·rw [if_pos c21] at H
         have c21b0 : (t311 == t302) = true := beq_iff_eq.mpr c21
         have c21b1 : (t311 != t302) = false := bne_eq_false_iff_eq.mpr c21
         clear c21
         replace H := bm_ H
         obtain ⟨t315, A220, H⟩ := H
         replace H : (if t315 = true then (a0d.j1 k1 l0 l1 a2 t300 t301 t302 (decide (t302 < 0))) else (a0d.j1 k1 l0 l1 a2 t300 t301 t302 true)) = some r := H
         have A22 := am_ A220
         clear A220
         by_cases c23 : t315 = true
         ·subst c23
          have H1 : (a0d.j1 k1 l0 l1 a2 t300 t301 t302 (decide (t302 < 0))) = some r := by rw [if_pos rfl] at H; exact H
          clear H
          have H := H1
          clear H1
          have H' := am_ H
          clear H
          obtain ⟨Ao24, co24, eo24⟩ := Kd.a1v HO_8.out
          subst eo24
          obtain ⟨Ao25, co25, eo25⟩ := Kd.a1v HO314.out
          subst eo25
          go_wp2_with (first | (go_at_call 13; (with_reducible refine (a0t.calls k1 _ _ t301 _ _ t310 true _ ?s1 ?s2 ?s3 ?s4 A22.out).mono ?_); (case s1 => exact qv_ (Kd.a0p HO_8.out).2.2); (case s2 => exact (Kd.a0p HO_8.out).2.1); (case s3 => exact qv_ (Kd.a0p HO314.out).2.2); (case s4 => exact (Kd.a0p HO314.out).2.1); rintro e w' ⟨rfl, ⟨nd, rfl⟩⟩))
          go_meet
          case rel => exact ⟨_, (decide (t302 < 0)), qs_, H', ⟨by have := HK1.out; first | omega | exact Nat.le_refl _⟩, ⟨by (with_reducible repeat (first | apply Kd.a0n | apply Kd.a0o | apply Kd.a0m)); exact Kd.a0z HO_8.out (fun _ hk => trivial)⟩, ⟨qb_⟩⟩
         ·replace c23 := be_ c23
          subst c23
          have H1 : (a0d.j1 k1 l0 l1 a2 t300 t301 t302 true) = some r := by rw [if_neg (show ¬ (false = true) by decide)] at H; exact H
          clear H
          have H := H1
          clear H1
          have H' := am_ H
          clear H
          obtain ⟨Ao26, co26, eo26⟩ := Kd.a1v HO_8.out
          subst eo26
          obtain ⟨Ao27, co27, eo27⟩ := Kd.a1v HO314.out
          subst eo27
          go_wp2_with (first | (go_at_call 13; (with_reducible refine (a0t.calls k1 _ _ t301 _ _ t310 false _ ?s1 ?s2 ?s3 ?s4 A22.out).mono ?_); (case s1 => exact qv_ (Kd.a0p HO_8.out).2.2); (case s2 => exact (Kd.a0p HO_8.out).2.1); (case s3 => exact qv_ (Kd.a0p HO314.out).2.2); (case s4 => exact (Kd.a0p HO314.out).2.1); rintro e w' ⟨rfl, ⟨nd, rfl⟩⟩))
          go_meet
          case rel => exact ⟨_, (true), qs_, H', ⟨by have := HK1.out; first | omega | exact Nat.le_refl _⟩, ⟨by (with_reducible repeat (first | apply Kd.a0n | apply Kd.a0o | apply Kd.a0m)); exact Kd.a0z HO_8.out (fun _ hk => trivial)⟩, ⟨qb_⟩⟩
        ·rw [if_neg c21] at H
         have c21b0 : (t311 == t302) = false := beq_eq_false_iff_ne.mpr c21
         have c21b1 : (t311 != t302) = true := bne_iff_ne.mpr c21
         have H' := am_ H
         clear H
         go_wp2
         go_meet
         case rel => exact ⟨_, (true), qs_, H', ⟨by have := HK1.out; first | omega | exact Nat.le_refl _⟩, ⟨by (with_reducible repeat (first | apply Kd.a0n | apply Kd.a0o | apply Kd.a0m)); exact Kd.a0z HO_8.out (fun _ hk => trivial)⟩, ⟨qb_⟩⟩
       ·rw [if_neg c20] at H
        have c20b0 : (t312 == 0) = false := beq_eq_false_iff_ne.mpr c20
        have c20b1 : (t312 != 0) = true := bne_iff_ne.mpr c20
        (first | rw [c20b0] | (simp only [a3k, a4i]; rw [c20b0]) | skip)
        have H' := am_ H
        clear H
        go_wp2
        go_meet
        case rel => exact ⟨_, (true), qs_, H', ⟨by have := HK1.out; first | omega | exact Nat.le_refl _⟩, ⟨by (with_reducible repeat (first | apply Kd.a0n | apply Kd.a0o | apply Kd.a0m)); exact Kd.a0z HO_8.out (fun _ hk => trivial)⟩, ⟨qb_⟩⟩
      case rest => as_aux_lemma =>
       clear HC17
       try clear c1
       try clear c2
       try clear p2
       try clear p3
       try clear q3
       try clear hx3
       try clear c4
       try clear c5
       try clear c5b0
       try clear c5b1
       try clear p6
       try clear c8
       try clear c10
       try clear c10b0
       try clear c11
       try clear c11b0
       try clear c12
       try clear c12b0
       try clear c13
       try clear c16
       try clear c16b0
       try clear c16b1
       try clear c20
       try clear c20b0
       try clear c20b1
       try clear c21
       try clear c21b0
       try clear c21b1
       try clear c23
       try clear hx306_0
       try clear p2
       try clear p306
       try clear p6
       try clear q306
       obtain ⟨kq, x94_16, rfl, HA, HJ16, HO_8, HB⟩ := hcut
       cases kq with
       | zero => exact absurd HA.out (by simp [a0d.j1])
       | succ kj16 =>
        have H := HA.out
        clear HA
        simp only [a0d.j1] at H
        by_cases c28 : x94_16 = true
        ·subst c28
         have H1 : (some false) = some r := by rw [if_pos rfl] at H; exact H
         clear H
         have H := H1
         clear H1
         obtain rfl := si_ H
         go_wp2
         go_ret
         exact ⟨qx_, qb_⟩
        ·replace c28 := be_ c28
         subst c28
         have H1 : (a0d.l1 kj16 l0 l1 a2 t300 t301 t302 t302 0 t301 (t301.length : Int) 0) = some r := by rw [if_neg (show ¬ (false = true) by decide)] at H; exact H
         clear H
         have H := H1
         clear H1
         have H' := am_ H
         clear H
         obtain ⟨Ao29, co29, eo29⟩ := Kd.a1v HO_8.out
         subst eo29
         go_wp2
         go_loopg [7, 16, 98] kj16 (fun kq v7 v16 v98 w' => ∃ (x7_3 : Bool) (x16_3 : Int) (x98_3 : Int), v7 = .bool x7_3 ∧ v16 = .int .i64 x16_3 ∧ v98 = .int .i64 x98_3 ∧ Aside0 (a0d.l1 kq l0 l1 a2 x7_3 t301 t302 x16_3 0 t301 (t301.length : Int) x98_3 = some r) ∧ Aside0 (kq ≤ kj16) ∧ Aside0 (Kd.R k30 30 w' w.heap.size (fun _ => True) (.slice Ao29 t301.length co29) t301) ∧ Aside0 (Kd.R k30 30 w' w.heap.size (fun _ => True) (.slice Ao29 t301.length co29) t301) ∧ Aside0 (Below w.heap.size w w'))
         case atStart => exact ⟨(t300), (t302), (0), qs_, qs_, qs_, H', ⟨Nat.le_refl _⟩, ⟨by (with_reducible repeat (first | apply Kd.a0n | apply Kd.a0o | apply Kd.a0m)); exact HO_8.out⟩, ⟨by (with_reducible repeat (first | apply Kd.a0n | apply Kd.a0o | apply Kd.a0m)); exact HO_8.out⟩, ⟨qb_⟩⟩
         case round => as_aux_lemma =>
          clear H'
          try clear c1
          try clear c2
          try clear p2
          try clear p3
          try clear q3
          try clear hx3
          try clear c4
          try clear c5
          try clear c5b0
          try clear c5b1
          try clear p6
          try clear c8
          try clear c10
          try clear c10b0
          try clear c11
          try clear c11b0
          try clear c12
          try clear c12b0
          try clear c13
          try clear c16
          try clear c16b0
          try clear c16b1
          try clear c20
          try clear c20b0
          try clear c20b1
          try clear c21
          try clear c21b0
          try clear c21b1
          try clear c23
          try clear c28
          try clear hx306_0
          try clear p2
          try clear p3
          try clear p306
          try clear p6
          try clear q3
          try clear q306
          obtain ⟨x7_3, x16_3, x98_3, rfl, rfl, rfl, HA, HK3, HO_8, HO_96, HB⟩ := hrel
          cases gk with
          | zero => exact absurd HA.out (by simp [a0d.l1])
          | succ k3 =>
           have H := HA.out
           clear HA
           simp only [a0d.l1] at H
           by_cases c30 : x98_3 < (t301.length : Int)
           ·rw [if_pos c30] at H
            have c30b0 : decide (x98_3 < (t301.length : Int)) = true := decide_eq_true c30
            clear c30
            by_cases c31 : 0 ≤ x98_3
            ·rw [if_pos c31] at H
             have c31b0 : decide (0 ≤ x98_3) = true := decide_eq_true c31
             clear c31
             by_cases c32 : x98_3 < (t301.length : Int)
             ·rw [if_pos c32] at H
              have c32b0 : decide (x98_3 < (t301.length : Int)) = true := decide_eq_true c32
              clear c32
              have H' := am_ H
              clear H
              have p316 : 0 ≤ (x98_3 : Int) := ot_
              have q316 : x98_3 < (t301.length : Int) := ot_
              obtain ⟨ad316, e316, hx316_0, hx316_1, hx316_2, hx316_3, hx316_4, hx316_5⟩ := a3q (Kd.a0p HO_96.out).2.2 x98_3 p316 q316
              cases e316
              replace p316 := eq_true p316
              replace q316 := eq_true q316
              go_wp2_with (first | ((with_reducible refine a1g (N := 19) rfl ?_); (try (refine a2a (by rfl) ?_; dsimp only)); refine qev_ 19 #[.int .i64 0, .int .i64 0, .int .i64 0, .int .i64 0, .int .i64 0, .int .i64 0] 30 ?_; intro gb317 hg w33 hbox hb; replace HO_8 := am_ (Kd.a3f (Kd.a3n (qr_ HO_8) gb317 (Nat.le_of_eq hg.symm)) hb); replace HO_96 := am_ (Kd.a3f (Kd.a3n (qr_ HO_96) gb317 (Nat.le_of_eq hg.symm)) hb); have BK317 := am_ (hbox); have GW317 := qga_ hg; have GE317 := qga_ hg; replace HB := qbs_ hb; clear hb hbox hg; obtain ⟨z'34_0, z'34_1, z'34_2, z'34_3, z'34_4, z'34_5⟩ := qz6_ BK317; obtain ⟨y'34_0, y'34_1, y'34_2, y'34_3, y'34_4, y'34_5⟩ := qf6_ BK317) | ((with_reducible refine a4g (t := 30) (p := 19) rfl ?_); refine a4a (t := 30) (p := 19) (v := ?vo_w35) (w1 := ((((((w33.setCell ⟨gb317, 0, none⟩ (.int .i64 ((a0a t301 x98_3).f0))).setCell ⟨gb317, 1, none⟩ (.int .i64 ((a0a t301 x98_3).f1))).setCell ⟨gb317, 2, none⟩ (.int .i64 ((a0a t301 x98_3).f2))).setCell ⟨gb317, 3, none⟩ (.int .i64 ((a0a t301 x98_3).f3))).setCell ⟨gb317, 4, none⟩ (.int .i64 ((a0a t301 x98_3).f4.f0))).setCell ⟨gb317, 5, none⟩ (.int .i64 ((a0a t301 x98_3).f4.f1)))) ?hg ?ho ?hn ?hr ?_; (case ho => rfl); (case hg => rfl); (case hn => rfl); (case hr => exact qq_); intro w35 hw; replace HO_8 : Aside0 (Kd.R k30 30 w35 w.heap.size (fun k_ => k_ ≠ gb317) (.slice (some ad316) t301.length co29) t301) := ⟨(by rw [hw]; exact (by (with_reducible repeat (first | apply Kd.a0n | apply Kd.a0o | apply Kd.a0m)); exact Kd.a0z (Kd.a0v (p := ⟨gb317, 5, none⟩) (Kd.a0v (p := ⟨gb317, 4, none⟩) (Kd.a0v (p := ⟨gb317, 3, none⟩) (Kd.a0v (p := ⟨gb317, 2, none⟩) (Kd.a0v (p := ⟨gb317, 1, none⟩) (Kd.a0v (p := ⟨gb317, 0, none⟩) (Kd.a0z HO_8.out (fun k_ hk => (⟨hk, hk.2⟩ : _ ∧ k_ ≠ gb317))) (fun _ hk => hk.2) (.int .i64 ((a0a t301 x98_3).f0))) (fun _ hk => hk.2) (.int .i64 ((a0a t301 x98_3).f1))) (fun _ hk => hk.2) (.int .i64 ((a0a t301 x98_3).f2))) (fun _ hk => hk.2) (.int .i64 ((a0a t301 x98_3).f3))) (fun _ hk => hk.2) (.int .i64 ((a0a t301 x98_3).f4.f0))) (fun _ hk => hk.2) (.int .i64 ((a0a t301 x98_3).f4.f1))) (fun _ hk => hk.1.2)))⟩; replace HO_96 : Aside0 (Kd.R k30 30 w35 w.heap.size (fun k_ => k_ ≠ gb317) (.slice (some ad316) t301.length co29) t301) := ⟨(by rw [hw]; exact (by (with_reducible repeat (first | apply Kd.a0n | apply Kd.a0o | apply Kd.a0m)); exact Kd.a0z (Kd.a0v (p := ⟨gb317, 5, none⟩) (Kd.a0v (p := ⟨gb317, 4, none⟩) (Kd.a0v (p := ⟨gb317, 3, none⟩) (Kd.a0v (p := ⟨gb317, 2, none⟩) (Kd.a0v (p := ⟨gb317, 1, none⟩) (Kd.a0v (p := ⟨gb317, 0, none⟩) (Kd.a0z HO_96.out (fun k_ hk => (⟨hk, hk.2⟩ : _ ∧ k_ ≠ gb317))) (fun _ hk => hk.2) (.int .i64 ((a0a t301 x98_3).f0))) (fun _ hk => hk.2) (.int .i64 ((a0a t301 x98_3).f1))) (fun _ hk => hk.2) (.int .i64 ((a0a t301 x98_3).f2))) (fun _ hk => hk.2) (.int .i64 ((a0a t301 x98_3).f3))) (fun _ hk => hk.2) (.int .i64 ((a0a t301 x98_3).f4.f0))) (fun _ hk => hk.2) (.int .i64 ((a0a t301 x98_3).f4.f1))) (fun _ hk => hk.1.2)))⟩; replace BK317 : Aside0 (w35.heap[gb317]? = some (.cells #[.int .i64 ((a0a t301 x98_3).f0), .int .i64 ((a0a t301 x98_3).f1), .int .i64 ((a0a t301 x98_3).f2), .int .i64 ((a0a t301 x98_3).f3), .int .i64 ((a0a t301 x98_3).f4.f0), .int .i64 ((a0a t301 x98_3).f4.f1)] 30 (0, 0))) := ⟨(by rw [hw]; exact (by refine qd_ ?_; refine a0q (cs := #[.int .i64 ((a0a t301 x98_3).f0), .int .i64 ((a0a t301 x98_3).f1), .int .i64 ((a0a t301 x98_3).f2), .int .i64 ((a0a t301 x98_3).f3), .int .i64 ((a0a t301 x98_3).f4.f0), .int .i64 0]) ?_ 5 _ rfl; refine qd_ ?_; refine a0q (cs := #[.int .i64 ((a0a t301 x98_3).f0), .int .i64 ((a0a t301 x98_3).f1), .int .i64 ((a0a t301 x98_3).f2), .int .i64 ((a0a t301 x98_3).f3), .int .i64 0, .int .i64 0]) ?_ 4 _ rfl; refine qd_ ?_; refine a0q (cs := #[.int .i64 ((a0a t301 x98_3).f0), .int .i64 ((a0a t301 x98_3).f1), .int .i64 ((a0a t301 x98_3).f2), .int .i64 0, .int .i64 0, .int .i64 0]) ?_ 3 _ rfl; refine qd_ ?_; refine a0q (cs := #[.int .i64 ((a0a t301 x98_3).f0), .int .i64 ((a0a t301 x98_3).f1), .int .i64 0, .int .i64 0, .int .i64 0, .int .i64 0]) ?_ 2 _ rfl; refine qd_ ?_; refine a0q (cs := #[.int .i64 ((a0a t301 x98_3).f0), .int .i64 0, .int .i64 0, .int .i64 0, .int .i64 0, .int .i64 0]) ?_ 1 _ rfl; refine qd_ ?_; refine a0q (cs := #[.int .i64 0, .int .i64 0, .int .i64 0, .int .i64 0, .int .i64 0, .int .i64 0]) ?_ 0 _ rfl; refine qd_ ?_; exact BK317.out))⟩; replace HB : Aside0 (Below w.heap.size w w35) := ⟨(by rw [hw]; exact qb_)⟩; clear hw))
              go_loopg [7, 20, 105] k3 (fun kq v7 v20 v105 w' => ∃ (x7_4 : Bool) (x20_4 : Int) (x105_4 : Int), v7 = .bool x7_4 ∧ v20 = .int .i64 x20_4 ∧ v105 = .int .i64 x105_4 ∧ Aside0 (a0d.l2 kq l0 l1 a2 x7_4 t301 t302 x16_3 0 x98_3 x20_4 t301 (t301.length : Int) x98_3 l0 (l0.length : Int) x105_4 ((a0a t301 x98_3).f0) ((a0a t301 x98_3).f1) ((a0a t301 x98_3).f2) ((a0a t301 x98_3).f3) ((a0a t301 x98_3).f4.f0) ((a0a t301 x98_3).f4.f1) = some r) ∧ Aside0 (kq ≤ k3) ∧ Aside0 (Kd.R k30 30 w' w.heap.size (fun k_ => k_ ≠ gb317) (.slice (some ad316) t301.length co29) t301) ∧ Aside0 (Kd.R k30 30 w' w.heap.size (fun k_ => k_ ≠ gb317) (.slice (some ad316) t301.length co29) t301) ∧ Aside0 (w'.heap[gb317]? = some (.cells #[.int .i64 ((a0a t301 x98_3).f0), .int .i64 ((a0a t301 x98_3).f1), .int .i64 ((a0a t301 x98_3).f2), .int .i64 ((a0a t301 x98_3).f3), .int .i64 ((a0a t301 x98_3).f4.f0), .int .i64 ((a0a t301 x98_3).f4.f1)] 30 (0, 0))) ∧ Aside0 (Below w.heap.size w w'))
              case atStart => exact ⟨(x7_3), (0), (0), qs_, qs_, qs_, H', ⟨Nat.le_refl _⟩, ⟨by (with_reducible repeat (first | apply Kd.a0n | apply Kd.a0o | apply Kd.a0m)); exact HO_8.out⟩, ⟨by (with_reducible repeat (first | apply Kd.a0n | apply Kd.a0o | apply Kd.a0m)); exact HO_96.out⟩, ⟨qk_ BK317⟩, ⟨qb_⟩⟩
              case round => as_aux_lemma =>
               clear H'
               try clear c1
               try clear c2
               try clear p2
               try clear c3
               try clear p3
               try clear q3
               try clear hx3
               try clear c4
               try clear c5
               try clear c5b0
               try clear c5b1
               try clear p6
               try clear c8
               try clear c10
               try clear c10b0
               try clear c11
               try clear c11b0
               try clear c12
               try clear c12b0
               try clear c13
               try clear c16
               try clear c16b0
               try clear c16b1
               try clear c20
               try clear c20b0
               try clear c20b1
               try clear c21
               try clear c21b0
               try clear c21b1
               try clear c23
               try clear c28
               try clear c30
               try clear c30b0
               try clear p30
               try clear q30
               try clear hx30
               try clear c31
               try clear c31b0
               try clear p31
               try clear q31
               try clear hx31
               try clear c32
               try clear c32b0
               try clear z'34_0 z'34_1 z'34_2 z'34_3 z'34_4 z'34_5
               try clear y'34_0 y'34_1 y'34_2 y'34_3 y'34_4 y'34_5
               try clear hx306_0
               try clear hx316_0
               try clear hx316_1
               try clear hx316_2
               try clear hx316_3
               try clear hx316_4
               try clear hx316_5
               try clear p2
               try clear p3
               try clear p306
               try clear p316
               try clear p6
               try clear q3
               try clear q306
               try clear q316
               obtain ⟨x7_4, x20_4, x105_4, rfl, rfl, rfl, HA, HK4, HO_8, HO_96, BK317, HB⟩ := hrel
               cases gk with
               | zero => exact absurd HA.out (by simp [a0d.l2])
               | succ k4 =>
                have H := HA.out
                clear HA
                simp only [a0d.l2] at H
                by_cases c36 : x105_4 < (l0.length : Int)
                ·rw [if_pos c36] at H
                 have c36b0 : decide (x105_4 < (l0.length : Int)) = true := decide_eq_true c36
                 clear c36
                 by_cases c37 : 0 ≤ x105_4
                 ·rw [if_pos c37] at H
                  have c37b0 : decide (0 ≤ x105_4) = true := decide_eq_true c37
                  clear c37
                  by_cases c38 : x105_4 < (l0.length : Int)
                  ·rw [if_pos c38] at H
                   have c38b0 : decide (x105_4 < (l0.length : Int)) = true := decide_eq_true c38
                   clear c38
                   by_cases c39 : ((a0a l0 x105_4).f0) = ((a0a t301 x98_3).f0)
                   ·rw [if_pos c39] at H
                    have c39b0 : (((a0a l0 x105_4).f0) == ((a0a t301 x98_3).f0)) = true := beq_iff_eq.mpr c39
                    have c39b1 : (((a0a l0 x105_4).f0) != ((a0a t301 x98_3).f0)) = false := bne_eq_false_iff_eq.mpr c39
                    clear c39
                    by_cases c40 : x7_4 = true
                    ·subst c40
                     have H1 : (a0d.l2 k4 l0 l1 a2 (((a0a l0 x105_4).f0) == ((a0a t301 x98_3).f0) && (((a0a l0 x105_4).f1) == ((a0a t301 x98_3).f1) && (((a0a l0 x105_4).f2) == ((a0a t301 x98_3).f2) && ((((a0a l0 x105_4).f4.f0) == ((a0a t301 x98_3).f4.f0) && (((a0a l0 x105_4).f4.f1) == ((a0a t301 x98_3).f4.f1))))))) t301 t302 x16_3 0 x98_3 ((a0a l0 x105_4).f3) t301 (t301.length : Int) x98_3 l0 (l0.length : Int) (wrap64 (x105_4 + 1)) ((a0a t301 x98_3).f0) ((a0a t301 x98_3).f1) ((a0a t301 x98_3).f2) ((a0a t301 x98_3).f3) ((a0a t301 x98_3).f4.f0) ((a0a t301 x98_3).f4.f1)) = some r := by rw [if_pos rfl] at H; exact H
                     clear H
                     have H := H1
                     clear H1
                     have H' := am_ H
                     clear H
                     have p322 : 0 ≤ (x105_4 : Int) := ot_
                     have q322 : x105_4 < (l0.length : Int) := ot_
                     obtain ⟨ad322, e322, hx322_0, hx322_1, hx322_2, hx322_3, hx322_4, hx322_5⟩ := a3q HR0.out x105_4 p322 q322
                     cases e322
                     replace hx322_0 := qh_ HB hx322_0
                     replace hx322_1 := qh_ HB hx322_1
                     replace hx322_2 := qh_ HB hx322_2
                     replace hx322_3 := qh_ HB hx322_3
                     replace hx322_4 := qh_ HB hx322_4
                     replace hx322_5 := qh_ HB hx322_5
                     replace p322 := eq_true p322
                     replace q322 := eq_true q322
                     go_wp2_with (first | ((with_reducible refine a1g (N := 22) rfl ?_); (try (refine a2a (by rfl) ?_; dsimp only)); refine qev_ 22 #[.int .i64 0, .int .i64 0, .int .i64 0, .int .i64 0, .int .i64 0, .int .i64 0] 30 ?_; intro gb323 hg w41 hbox hb; replace HO_8 := am_ (Kd.a3f (Kd.a3n (qr_ HO_8) gb323 (Nat.le_of_eq hg.symm)) hb); replace HO_96 := am_ (Kd.a3f (Kd.a3n (qr_ HO_96) gb323 (Nat.le_of_eq hg.symm)) hb); have BK323 := am_ (hbox); have GW323 := qga_ hg; have GE323 := qga_ hg; replace HB := qbs_ hb; have NB317_323 := am_ ((by rw [hg]; exact Nat.ne_of_lt (a2d (qk_ BK317)) : gb317 ≠ gb323)); have NB323_317 := am_ ((by rw [hg]; exact Nat.ne_of_gt (a2d (qk_ BK317)) : gb323 ≠ gb317)); replace BK317 := qkb_ BK317 hb; clear hb hbox hg; have hnb42 := NB323_317.out; have hnc42 := NB317_323.out; obtain ⟨z'43_0, z'43_1, z'43_2, z'43_3, z'43_4, z'43_5⟩ := qz6_ BK323; obtain ⟨y'43_0, y'43_1, y'43_2, y'43_3, y'43_4, y'43_5⟩ := qf6_ BK323) | ((with_reducible refine a4g (t := 30) (p := 22) rfl ?_); refine a4a (t := 30) (p := 22) (v := ?vo_w44) (w1 := ((((((w41.setCell ⟨gb323, 0, none⟩ (.int .i64 ((a0a l0 x105_4).f0))).setCell ⟨gb323, 1, none⟩ (.int .i64 ((a0a l0 x105_4).f1))).setCell ⟨gb323, 2, none⟩ (.int .i64 ((a0a l0 x105_4).f2))).setCell ⟨gb323, 3, none⟩ (.int .i64 ((a0a l0 x105_4).f3))).setCell ⟨gb323, 4, none⟩ (.int .i64 ((a0a l0 x105_4).f4.f0))).setCell ⟨gb323, 5, none⟩ (.int .i64 ((a0a l0 x105_4).f4.f1)))) ?hg ?ho ?hn ?hr ?_; (case ho => rfl); (case hg => rfl); (case hn => rfl); (case hr => exact qq_); intro w44 hw; replace HO_8 : Aside0 (Kd.R k30 30 w44 w.heap.size (fun k_ => k_ ≠ gb317 ∧ k_ ≠ gb323) (.slice (some ad316) t301.length co29) t301) := ⟨(by rw [hw]; exact (by (with_reducible repeat (first | apply Kd.a0n | apply Kd.a0o | apply Kd.a0m)); exact Kd.a0z (Kd.a0v (p := ⟨gb323, 5, none⟩) (Kd.a0v (p := ⟨gb323, 4, none⟩) (Kd.a0v (p := ⟨gb323, 3, none⟩) (Kd.a0v (p := ⟨gb323, 2, none⟩) (Kd.a0v (p := ⟨gb323, 1, none⟩) (Kd.a0v (p := ⟨gb323, 0, none⟩) (Kd.a0z HO_8.out (fun k_ hk => (⟨hk, hk.2⟩ : _ ∧ k_ ≠ gb323))) (fun _ hk => hk.2) (.int .i64 ((a0a l0 x105_4).f0))) (fun _ hk => hk.2) (.int .i64 ((a0a l0 x105_4).f1))) (fun _ hk => hk.2) (.int .i64 ((a0a l0 x105_4).f2))) (fun _ hk => hk.2) (.int .i64 ((a0a l0 x105_4).f3))) (fun _ hk => hk.2) (.int .i64 ((a0a l0 x105_4).f4.f0))) (fun _ hk => hk.2) (.int .i64 ((a0a l0 x105_4).f4.f1))) (fun _ hk => ⟨hk.1.1, hk.1.2⟩)))⟩; replace HO_96 : Aside0 (Kd.R k30 30 w44 w.heap.size (fun k_ => k_ ≠ gb317 ∧ k_ ≠ gb323) (.slice (some ad316) t301.length co29) t301) := ⟨(by rw [hw]; exact (by (with_reducible repeat (first | apply Kd.a0n | apply Kd.a0o | apply Kd.a0m)); exact Kd.a0z (Kd.a0v (p := ⟨gb323, 5, none⟩) (Kd.a0v (p := ⟨gb323, 4, none⟩) (Kd.a0v (p := ⟨gb323, 3, none⟩) (Kd.a0v (p := ⟨gb323, 2, none⟩) (Kd.a0v (p := ⟨gb323, 1, none⟩) (Kd.a0v (p := ⟨gb323, 0, none⟩) (Kd.a0z HO_96.out (fun k_ hk => (⟨hk, hk.2⟩ : _ ∧ k_ ≠ gb323))) (fun _ hk => hk.2) (.int .i64 ((a0a l0 x105_4).f0))) (fun _ hk => hk.2) (.int .i64 ((a0a l0 x105_4).f1))) (fun _ hk => hk.2) (.int .i64 ((a0a l0 x105_4).f2))) (fun _ hk => hk.2) (.int .i64 ((a0a l0 x105_4).f3))) (fun _ hk => hk.2) (.int .i64 ((a0a l0 x105_4).f4.f0))) (fun _ hk => hk.2) (.int .i64 ((a0a l0 x105_4).f4.f1))) (fun _ hk => ⟨hk.1.1, hk.1.2⟩)))⟩; replace BK317 : Aside0 (w44.heap[gb317]? = some (.cells #[.int .i64 ((a0a t301 x98_3).f0), .int .i64 ((a0a t301 x98_3).f1), .int .i64 ((a0a t301 x98_3).f2), .int .i64 ((a0a t301 x98_3).f3), .int .i64 ((a0a t301 x98_3).f4.f0), .int .i64 ((a0a t301 x98_3).f4.f1)] 30 (0, 0))) := ⟨(by rw [hw]; exact (by refine qd_ ?_; refine a2n ?_ NB317_323.out _; refine qd_ ?_; refine a2n ?_ NB317_323.out _; refine qd_ ?_; refine a2n ?_ NB317_323.out _; refine qd_ ?_; refine a2n ?_ NB317_323.out _; refine qd_ ?_; refine a2n ?_ NB317_323.out _; refine qd_ ?_; refine a2n ?_ NB317_323.out _; refine qd_ ?_; exact BK317.out))⟩; replace BK323 : Aside0 (w44.heap[gb323]? = some (.cells #[.int .i64 ((a0a l0 x105_4).f0), .int .i64 ((a0a l0 x105_4).f1), .int .i64 ((a0a l0 x105_4).f2), .int .i64 ((a0a l0 x105_4).f3), .int .i64 ((a0a l0 x105_4).f4.f0), .int .i64 ((a0a l0 x105_4).f4.f1)] 30 (0, 0))) := ⟨(by rw [hw]; exact (by refine qd_ ?_; refine a0q (cs := #[.int .i64 ((a0a l0 x105_4).f0), .int .i64 ((a0a l0 x105_4).f1), .int .i64 ((a0a l0 x105_4).f2), .int .i64 ((a0a l0 x105_4).f3), .int .i64 ((a0a l0 x105_4).f4.f0), .int .i64 0]) ?_ 5 _ rfl; refine qd_ ?_; refine a0q (cs := #[.int .i64 ((a0a l0 x105_4).f0), .int .i64 ((a0a l0 x105_4).f1), .int .i64 ((a0a l0 x105_4).f2), .int .i64 ((a0a l0 x105_4).f3), .int .i64 0, .int .i64 0]) ?_ 4 _ rfl; refine qd_ ?_; refine a0q (cs := #[.int .i64 ((a0a l0 x105_4).f0), .int .i64 ((a0a l0 x105_4).f1), .int .i64 ((a0a l0 x105_4).f2), .int .i64 0, .int .i64 0, .int .i64 0]) ?_ 3 _ rfl; refine qd_ ?_; refine a0q (cs := #[.int .i64 ((a0a l0 x105_4).f0), .int .i64 ((a0a l0 x105_4).f1), .int .i64 0, .int .i64 0, .int .i64 0, .int .i64 0]) ?_ 2 _ rfl; refine qd_ ?_; refine a0q (cs := #[.int .i64 ((a0a l0 x105_4).f0), .int .i64 0, .int .i64 0, .int .i64 0, .int .i64 0, .int .i64 0]) ?_ 1 _ rfl; refine qd_ ?_; refine a0q (cs := #[.int .i64 0, .int .i64 0, .int .i64 0, .int .i64 0, .int .i64 0, .int .i64 0]) ?_ 0 _ rfl; refine qd_ ?_; exact BK323.out))⟩; replace HB : Aside0 (Below w.heap.size w w44) := ⟨(by rw [hw]; exact qb_)⟩; clear hw; obtain ⟨z'45_0, z'45_1, z'45_2, z'45_3, z'45_4, z'45_5⟩ := qz6_ BK323; obtain ⟨y'45_0, y'45_1, y'45_2, y'45_3, y'45_4, y'45_5⟩ := qf6_ BK323; obtain ⟨z'46_0, z'46_1, z'46_2, z'46_3, z'46_4, z'46_5⟩ := qz6_ BK317; obtain ⟨y'46_0, y'46_1, y'46_2, y'46_3, y'46_4, y'46_5⟩ := qf6_ BK317) | ((with_reducible refine a4g (t := 3) (p := 118) rfl ?_); refine a4a (t := 3) (p := 118) (v := ?vo_w47) (w1 := (w44.setCell ⟨gb323, 3, none⟩ (.int .i64 ((a0a t301 x98_3).f3)))) ?hg ?ho ?hn ?hr ?_; (case ho => rfl); (case hg => rfl); (case hn => rfl); (case hr => exact qq_); intro w47 hw; replace HO_8 : Aside0 (Kd.R k30 30 w47 w.heap.size (fun k_ => k_ ≠ gb317 ∧ k_ ≠ gb323) (.slice (some ad316) t301.length co29) t301) := ⟨(by rw [hw]; exact (by (with_reducible repeat (first | apply Kd.a0n | apply Kd.a0o | apply Kd.a0m)); exact Kd.a0z (Kd.a0v (p := ⟨gb323, 3, none⟩) (Kd.a0z HO_8.out (fun k_ hk => (⟨hk, hk.2⟩ : _ ∧ k_ ≠ gb323))) (fun _ hk => hk.2) (.int .i64 ((a0a t301 x98_3).f3))) (fun _ hk => ⟨hk.1.1, hk.1.2⟩)))⟩; replace HO_96 : Aside0 (Kd.R k30 30 w47 w.heap.size (fun k_ => k_ ≠ gb317 ∧ k_ ≠ gb323) (.slice (some ad316) t301.length co29) t301) := ⟨(by rw [hw]; exact (by (with_reducible repeat (first | apply Kd.a0n | apply Kd.a0o | apply Kd.a0m)); exact Kd.a0z (Kd.a0v (p := ⟨gb323, 3, none⟩) (Kd.a0z HO_96.out (fun k_ hk => (⟨hk, hk.2⟩ : _ ∧ k_ ≠ gb323))) (fun _ hk => hk.2) (.int .i64 ((a0a t301 x98_3).f3))) (fun _ hk => ⟨hk.1.1, hk.1.2⟩)))⟩; replace BK317 : Aside0 (w47.heap[gb317]? = some (.cells #[.int .i64 ((a0a t301 x98_3).f0), .int .i64 ((a0a t301 x98_3).f1), .int .i64 ((a0a t301 x98_3).f2), .int .i64 ((a0a t301 x98_3).f3), .int .i64 ((a0a t301 x98_3).f4.f0), .int .i64 ((a0a t301 x98_3).f4.f1)] 30 (0, 0))) := ⟨(by rw [hw]; exact (by refine qd_ ?_; refine a2n ?_ NB317_323.out _; refine qd_ ?_; exact BK317.out))⟩; replace BK323 : Aside0 (w47.heap[gb323]? = some (.cells #[.int .i64 ((a0a l0 x105_4).f0), .int .i64 ((a0a l0 x105_4).f1), .int .i64 ((a0a l0 x105_4).f2), .int .i64 ((a0a t301 x98_3).f3), .int .i64 ((a0a l0 x105_4).f4.f0), .int .i64 ((a0a l0 x105_4).f4.f1)] 30 (0, 0))) := ⟨(by rw [hw]; exact (by refine qd_ ?_; refine a0q (cs := #[.int .i64 ((a0a l0 x105_4).f0), .int .i64 ((a0a l0 x105_4).f1), .int .i64 ((a0a l0 x105_4).f2), .int .i64 ((a0a l0 x105_4).f3), .int .i64 ((a0a l0 x105_4).f4.f0), .int .i64 ((a0a l0 x105_4).f4.f1)]) ?_ 3 _ rfl; refine qd_ ?_; exact BK323.out))⟩; replace HB : Aside0 (Below w.heap.size w w47) := ⟨(by rw [hw]; exact qb_)⟩; clear hw; obtain ⟨z'48_0, z'48_1, z'48_2, z'48_3, z'48_4, z'48_5⟩ := qz6_ BK323; obtain ⟨y'48_0, y'48_1, y'48_2, y'48_3, y'48_4, y'48_5⟩ := qf6_ BK323; obtain ⟨z'49_0, z'49_1, z'49_2, z'49_3, z'49_4, z'49_5⟩ := qz6_ BK317; obtain ⟨y'49_0, y'49_1, y'49_2, y'49_3, y'49_4, y'49_5⟩ := qf6_ BK317))
                     go_roundg k4
                     case measure => have := HK1.out; have := HJ16.out; have := HK3.out; have := HK4.out; omega
                     case rel => exact ⟨((((a0a l0 x105_4).f0) == ((a0a t301 x98_3).f0) && (((a0a l0 x105_4).f1) == ((a0a t301 x98_3).f1) && (((a0a l0 x105_4).f2) == ((a0a t301 x98_3).f2) && ((((a0a l0 x105_4).f4.f0) == ((a0a t301 x98_3).f4.f0) && (((a0a l0 x105_4).f4.f1) == ((a0a t301 x98_3).f4.f1)))))))), ((a0a l0 x105_4).f3), (wrap64 (x105_4 + 1)), qs_, qs_, qs_, H', ⟨by have := HK1.out; have := HJ16.out; have := HK3.out; have := HK4.out; omega⟩, ⟨by (with_reducible repeat (first | apply Kd.a0n | apply Kd.a0o | apply Kd.a0m)); exact Kd.a0z HO_8.out (fun _ hk => hk.1)⟩, ⟨by (with_reducible repeat (first | apply Kd.a0n | apply Kd.a0o | apply Kd.a0m)); exact Kd.a0z HO_96.out (fun _ hk => hk.1)⟩, ⟨qk_ BK317⟩, ⟨qb_⟩⟩
                    ·replace c40 := be_ c40
                     subst c40
                     have H1 : (a0d.l2 k4 l0 l1 a2 false t301 t302 x16_3 0 x98_3 ((a0a l0 x105_4).f3) t301 (t301.length : Int) x98_3 l0 (l0.length : Int) (wrap64 (x105_4 + 1)) ((a0a t301 x98_3).f0) ((a0a t301 x98_3).f1) ((a0a t301 x98_3).f2) ((a0a t301 x98_3).f3) ((a0a t301 x98_3).f4.f0) ((a0a t301 x98_3).f4.f1)) = some r := by rw [if_neg (show ¬ (false = true) by decide)] at H; exact H
                     clear H
                     have H := H1
                     clear H1
                     have H' := am_ H
                     clear H
                     have p322 : 0 ≤ (x105_4 : Int) := ot_
                     have q322 : x105_4 < (l0.length : Int) := ot_
                     obtain ⟨ad322, e322, hx322_0, hx322_1, hx322_2, hx322_3, hx322_4, hx322_5⟩ := a3q HR0.out x105_4 p322 q322
                     cases e322
                     replace hx322_0 := qh_ HB hx322_0
                     replace hx322_1 := qh_ HB hx322_1
                     replace hx322_2 := qh_ HB hx322_2
                     replace hx322_3 := qh_ HB hx322_3
                     replace hx322_4 := qh_ HB hx322_4
                     replace hx322_5 := qh_ HB hx322_5
                     replace p322 := eq_true p322
                     replace q322 := eq_true q322
                     go_wp2_with (first | ((with_reducible refine a1g (N := 22) rfl ?_); (try (refine a2a (by rfl) ?_; dsimp only)); refine qev_ 22 #[.int .i64 0, .int .i64 0, .int .i64 0, .int .i64 0, .int .i64 0, .int .i64 0] 30 ?_; intro gb323 hg w50 hbox hb; replace HO_8 := am_ (Kd.a3f (Kd.a3n (qr_ HO_8) gb323 (Nat.le_of_eq hg.symm)) hb); replace HO_96 := am_ (Kd.a3f (Kd.a3n (qr_ HO_96) gb323 (Nat.le_of_eq hg.symm)) hb); have BK323 := am_ (hbox); have GW323 := qga_ hg; have GE323 := qga_ hg; replace HB := qbs_ hb; have NB317_323 := am_ ((by rw [hg]; exact Nat.ne_of_lt (a2d (qk_ BK317)) : gb317 ≠ gb323)); have NB323_317 := am_ ((by rw [hg]; exact Nat.ne_of_gt (a2d (qk_ BK317)) : gb323 ≠ gb317)); replace BK317 := qkb_ BK317 hb; clear hb hbox hg; have hnb51 := NB323_317.out; have hnc51 := NB317_323.out; obtain ⟨z'52_0, z'52_1, z'52_2, z'52_3, z'52_4, z'52_5⟩ := qz6_ BK323; obtain ⟨y'52_0, y'52_1, y'52_2, y'52_3, y'52_4, y'52_5⟩ := qf6_ BK323) | ((with_reducible refine a4g (t := 30) (p := 22) rfl ?_); refine a4a (t := 30) (p := 22) (v := ?vo_w53) (w1 := ((((((w50.setCell ⟨gb323, 0, none⟩ (.int .i64 ((a0a l0 x105_4).f0))).setCell ⟨gb323, 1, none⟩ (.int .i64 ((a0a l0 x105_4).f1))).setCell ⟨gb323, 2, none⟩ (.int .i64 ((a0a l0 x105_4).f2))).setCell ⟨gb323, 3, none⟩ (.int .i64 ((a0a l0 x105_4).f3))).setCell ⟨gb323, 4, none⟩ (.int .i64 ((a0a l0 x105_4).f4.f0))).setCell ⟨gb323, 5, none⟩ (.int .i64 ((a0a l0 x105_4).f4.f1)))) ?hg ?ho ?hn ?hr ?_; (case ho => rfl); (case hg => rfl); (case hn => rfl); (case hr => exact qq_); intro w53 hw; replace HO_8 : Aside0 (Kd.R k30 30 w53 w.heap.size (fun k_ => k_ ≠ gb317 ∧ k_ ≠ gb323) (.slice (some ad316) t301.length co29) t301) := ⟨(by rw [hw]; exact (by (with_reducible repeat (first | apply Kd.a0n | apply Kd.a0o | apply Kd.a0m)); exact Kd.a0z (Kd.a0v (p := ⟨gb323, 5, none⟩) (Kd.a0v (p := ⟨gb323, 4, none⟩) (Kd.a0v (p := ⟨gb323, 3, none⟩) (Kd.a0v (p := ⟨gb323, 2, none⟩) (Kd.a0v (p := ⟨gb323, 1, none⟩) (Kd.a0v (p := ⟨gb323, 0, none⟩) (Kd.a0z HO_8.out (fun k_ hk => (⟨hk, hk.2⟩ : _ ∧ k_ ≠ gb323))) (fun _ hk => hk.2) (.int .i64 ((a0a l0 x105_4).f0))) (fun _ hk => hk.2) (.int .i64 ((a0a l0 x105_4).f1))) (fun _ hk => hk.2) (.int .i64 ((a0a l0 x105_4).f2))) (fun _ hk => hk.2) (.int .i64 ((a0a l0 x105_4).f3))) (fun _ hk => hk.2) (.int .i64 ((a0a l0 x105_4).f4.f0))) (fun _ hk => hk.2) (.int .i64 ((a0a l0 x105_4).f4.f1))) (fun _ hk => ⟨hk.1.1, hk.1.2⟩)))⟩; replace HO_96 : Aside0 (Kd.R k30 30 w53 w.heap.size (fun k_ => k_ ≠ gb317 ∧ k_ ≠ gb323) (.slice (some ad316) t301.length co29) t301) := ⟨(by rw [hw]; exact (by (with_reducible repeat (first | apply Kd.a0n | apply Kd.a0o | apply Kd.a0m)); exact Kd.a0z (Kd.a0v (p := ⟨gb323, 5, none⟩) (Kd.a0v (p := ⟨gb323, 4, none⟩) (Kd.a0v (p := ⟨gb323, 3, none⟩) (Kd.a0v (p := ⟨gb323, 2, none⟩) (Kd.a0v (p := ⟨gb323, 1, none⟩) (Kd.a0v (p := ⟨gb323, 0, none⟩) (Kd.a0z HO_96.out (fun k_ hk => (⟨hk, hk.2⟩ : _ ∧ k_ ≠ gb323))) (fun _ hk => hk.2) (.int .i64 ((a0a l0 x105_4).f0))) (fun _ hk => hk.2) (.int .i64 ((a0a l0 x105_4).f1))) (fun _ hk => hk.2) (.int .i64 ((a0a l0 x105_4).f2))) (fun _ hk => hk.2) (.int .i64 ((a0a l0 x105_4).f3))) (fun _ hk => hk.2) (.int .i64 ((a0a l0 x105_4).f4.f0))) (fun _ hk => hk.2) (.int .i64 ((a0a l0 x105_4).f4.f1))) (fun _ hk => ⟨hk.1.1, hk.1.2⟩)))⟩; replace BK317 : Aside0 (w53.heap[gb317]? = some (.cells #[.int .i64 ((a0a t301 x98_3).f0), .int .i64 ((a0a t301 x98_3).f1), .int .i64 ((a0a t301 x98_3).f2), .int .i64 ((a0a t301 x98_3).f3), .int .i64 ((a0a t301 x98_3).f4.f0), .int .i64 ((a0a t301 x98_3).f4.f1)] 30 (0, 0))) := ⟨(by rw [hw]; exact (by refine qd_ ?_; refine a2n ?_ NB317_323.out _; refine qd_ ?_; refine a2n ?_ NB317_323.out _; refine qd_ ?_; refine a2n ?_ NB317_323.out _; refine qd_ ?_; refine a2n ?_ NB317_323.out _; refine qd_ ?_; refine a2n ?_ NB317_323.out _; refine qd_ ?_; refine a2n ?_ NB317_323.out _; refine qd_ ?_; exact BK317.out))⟩; replace BK323 : Aside0 (w53.heap[gb323]? = some (.cells #[.int .i64 ((a0a l0 x105_4).f0), .int .i64 ((a0a l0 x105_4).f1), .int .i64 ((a0a l0 x105_4).f2), .int .i64 ((a0a l0 x105_4).f3), .int .i64 ((a0a l0 x105_4).f4.f0), .int .i64 ((a0a l0 x105_4).f4.f1)] 30 (0, 0))) := ⟨(by rw [hw]; exact (by refine qd_ ?_; refine a0q (cs := #[.int .i64 ((a0a l0 x105_4).f0), .int .i64 ((a0a l0 x105_4).f1), .int .i64 ((a0a l0 x105_4).f2), .int .i64 ((a0a l0 x105_4).f3), .int .i64 ((a0a l0 x105_4).f4.f0), .int .i64 0]) ?_ 5 _ rfl; refine qd_ ?_; refine a0q (cs := #[.int .i64 ((a0a l0 x105_4).f0), .int .i64 ((a0a l0 x105_4).f1), .int .i64 ((a0a l0 x105_4).f2), .int .i64 ((a0a l0 x105_4).f3), .int .i64 0, .int .i64 0]) ?_ 4 _ rfl; refine qd_ ?_; refine a0q (cs := #[.int .i64 ((a0a l0 x105_4).f0), .int .i64 ((a0a l0 x105_4).f1), .int .i64 ((a0a l0 x105_4).f2), .int .i64 0, .int .i64 0, .int .i64 0]) ?_ 3 _ rfl; refine qd_ ?_; refine a0q (cs := #[.int .i64 ((a0a l0 x105_4).f0), .int .i64 ((a0a l0 x105_4).f1), .int .i64 0, .int .i64 0, .int .i64 0, .int .i64 0]) ?_ 2 _ rfl; refine qd_ ?_; refine a0q (cs := #[.int .i64 ((a0a l0 x105_4).f0), .int .i64 0, .int .i64 0, .int .i64 0, .int .i64 0, .int .i64 0]) ?_ 1 _ rfl; refine qd_ ?_; refine a0q (cs := #[.int .i64 0, .int .i64 0, .int .i64 0, .int .i64 0, .int .i64 0, .int .i64 0]) ?_ 0 _ rfl; refine qd_ ?_; exact BK323.out))⟩; replace HB : Aside0 (Below w.heap.size w w53) := ⟨(by rw [hw]; exact qb_)⟩; clear hw; obtain ⟨z'54_0, z'54_1, z'54_2, z'54_3, z'54_4, z'54_5⟩ := qz6_ BK323; obtain ⟨y'54_0, y'54_1, y'54_2, y'54_3, y'54_4, y'54_5⟩ := qf6_ BK323; obtain ⟨z'55_0, z'55_1, z'55_2, z'55_3, z'55_4, z'55_5⟩ := qz6_ BK317; obtain ⟨y'55_0, y'55_1, y'55_2, y'55_3, y'55_4, y'55_5⟩ := qf6_ BK317) | ((with_reducible refine a4g (t := 3) (p := 118) rfl ?_); refine a4a (t := 3) (p := 118) (v := ?vo_w56) (w1 := (w53.setCell ⟨gb323, 3, none⟩ (.int .i64 ((a0a t301 x98_3).f3)))) ?hg ?ho ?hn ?hr ?_; (case ho => rfl); (case hg => rfl); (case hn => rfl); (case hr => exact qq_); intro w56 hw; replace HO_8 : Aside0 (Kd.R k30 30 w56 w.heap.size (fun k_ => k_ ≠ gb317 ∧ k_ ≠ gb323) (.slice (some ad316) t301.length co29) t301) := ⟨(by rw [hw]; exact (by (with_reducible repeat (first | apply Kd.a0n | apply Kd.a0o | apply Kd.a0m)); exact Kd.a0z (Kd.a0v (p := ⟨gb323, 3, none⟩) (Kd.a0z HO_8.out (fun k_ hk => (⟨hk, hk.2⟩ : _ ∧ k_ ≠ gb323))) (fun _ hk => hk.2) (.int .i64 ((a0a t301 x98_3).f3))) (fun _ hk => ⟨hk.1.1, hk.1.2⟩)))⟩; replace HO_96 : Aside0 (Kd.R k30 30 w56 w.heap.size (fun k_ => k_ ≠ gb317 ∧ k_ ≠ gb323) (.slice (some ad316) t301.length co29) t301) := ⟨(by rw [hw]; exact (by (with_reducible repeat (first | apply Kd.a0n | apply Kd.a0o | apply Kd.a0m)); exact Kd.a0z (Kd.a0v (p := ⟨gb323, 3, none⟩) (Kd.a0z HO_96.out (fun k_ hk => (⟨hk, hk.2⟩ : _ ∧ k_ ≠ gb323))) (fun _ hk => hk.2) (.int .i64 ((a0a t301 x98_3).f3))) (fun _ hk => ⟨hk.1.1, hk.1.2⟩)))⟩; replace BK317 : Aside0 (w56.heap[gb317]? = some (.cells #[.int .i64 ((a0a t301 x98_3).f0), .int .i64 ((a0a t301 x98_3).f1), .int .i64 ((a0a t301 x98_3).f2), .int .i64 ((a0a t301 x98_3).f3), .int .i64 ((a0a t301 x98_3).f4.f0), .int .i64 ((a0a t301 x98_3).f4.f1)] 30 (0, 0))) := ⟨(by rw [hw]; exact (by refine qd_ ?_; refine a2n ?_ NB317_323.out _; refine qd_ ?_; exact BK317.out))⟩; replace BK323 : Aside0 (w56.heap[gb323]? = some (.cells #[.int .i64 ((a0a l0 x105_4).f0), .int .i64 ((a0a l0 x105_4).f1), .int .i64 ((a0a l0 x105_4).f2), .int .i64 ((a0a t301 x98_3).f3), .int .i64 ((a0a l0 x105_4).f4.f0), .int .i64 ((a0a l0 x105_4).f4.f1)] 30 (0, 0))) := ⟨(by rw [hw]; exact (by refine qd_ ?_; refine a0q (cs := #[.int .i64 ((a0a l0 x105_4).f0), .int .i64 ((a0a l0 x105_4).f1), .int .i64 ((a0a l0 x105_4).f2), .int .i64 ((a0a l0 x105_4).f3), .int .i64 ((a0a l0 x105_4).f4.f0), .int .i64 ((a0a l0 x105_4).f4.f1)]) ?_ 3 _ rfl; refine qd_ ?_; exact BK323.out))⟩; replace HB : Aside0 (Below w.heap.size w w56) := ⟨(by rw [hw]; exact qb_)⟩; clear hw))
                     go_roundg k4
                     case measure => have := HK1.out; have := HJ16.out; have := HK3.out; have := HK4.out; omega
                     case rel => exact ⟨(false), ((a0a l0 x105_4).f3), (wrap64 (x105_4 + 1)), qs_, qs_, qs_, H', ⟨by have := HK1.out; have := HJ16.out; have := HK3.out; have := HK4.out; omega⟩, ⟨by (with_reducible repeat (first | apply Kd.a0n | apply Kd.a0o | apply Kd.a0m)); exact Kd.a0z HO_8.out (fun _ hk => hk.1)⟩, ⟨by (with_reducible repeat (first | apply Kd.a0n | apply Kd.a0o | apply Kd.a0m)); exact Kd.a0z HO_96.out (fun _ hk => hk.1)⟩, ⟨qk_ BK317⟩, ⟨qb_⟩⟩
                   ·rw [if_neg c39] at H
                    have c39b0 : (((a0a l0 x105_4).f0) == ((a0a t301 x98_3).f0)) = false := beq_eq_false_iff_ne.mpr c39
                    have c39b1 : (((a0a l0 x105_4).f0) != ((a0a t301 x98_3).f0)) = true := bne_iff_ne.mpr c39
                    have H' := am_ H
                    clear H
                    have p322 : 0 ≤ (x105_4 : Int) := ot_
                    have q322 : x105_4 < (l0.length : Int) := ot_
                    obtain ⟨ad322, e322, hx322_0, hx322_1, hx322_2, hx322_3, hx322_4, hx322_5⟩ := a3q HR0.out x105_4 p322 q322
                    cases e322
                    replace hx322_0 := qh_ HB hx322_0
                    replace hx322_1 := qh_ HB hx322_1
                    replace hx322_2 := qh_ HB hx322_2
                    replace hx322_3 := qh_ HB hx322_3
                    replace hx322_4 := qh_ HB hx322_4
                    replace hx322_5 := qh_ HB hx322_5
                    replace p322 := eq_true p322
                    replace q322 := eq_true q322
                    go_wp2_with (first | ((with_reducible refine a1g (N := 22) rfl ?_); (try (refine a2a (by rfl) ?_; dsimp only)); refine qev_ 22 #[.int .i64 0, .int .i64 0, .int .i64 0, .int .i64 0, .int .i64 0, .int .i64 0] 30 ?_; intro gb323 hg w57 hbox hb; replace HO_8 := am_ (Kd.a3f (Kd.a3n (qr_ HO_8) gb323 (Nat.le_of_eq hg.symm)) hb); replace HO_96 := am_ (Kd.a3f (Kd.a3n (qr_ HO_96) gb323 (Nat.le_of_eq hg.symm)) hb); have BK323 := am_ (hbox); have GW323 := qga_ hg; have GE323 := qga_ hg; replace HB := qbs_ hb; have NB317_323 := am_ ((by rw [hg]; exact Nat.ne_of_lt (a2d (qk_ BK317)) : gb317 ≠ gb323)); have NB323_317 := am_ ((by rw [hg]; exact Nat.ne_of_gt (a2d (qk_ BK317)) : gb323 ≠ gb317)); replace BK317 := qkb_ BK317 hb; clear hb hbox hg; have hnb58 := NB323_317.out; have hnc58 := NB317_323.out; obtain ⟨z'59_0, z'59_1, z'59_2, z'59_3, z'59_4, z'59_5⟩ := qz6_ BK323; obtain ⟨y'59_0, y'59_1, y'59_2, y'59_3, y'59_4, y'59_5⟩ := qf6_ BK323) | ((with_reducible refine a4g (t := 30) (p := 22) rfl ?_); refine a4a (t := 30) (p := 22) (v := ?vo_w60) (w1 := ((((((w57.setCell ⟨gb323, 0, none⟩ (.int .i64 ((a0a l0 x105_4).f0))).setCell ⟨gb323, 1, none⟩ (.int .i64 ((a0a l0 x105_4).f1))).setCell ⟨gb323, 2, none⟩ (.int .i64 ((a0a l0 x105_4).f2))).setCell ⟨gb323, 3, none⟩ (.int .i64 ((a0a l0 x105_4).f3))).setCell ⟨gb323, 4, none⟩ (.int .i64 ((a0a l0 x105_4).f4.f0))).setCell ⟨gb323, 5, none⟩ (.int .i64 ((a0a l0 x105_4).f4.f1)))) ?hg ?ho ?hn ?hr ?_; (case ho => rfl); (case hg => rfl); (case hn => rfl); (case hr => exact qq_); intro w60 hw; replace HO_8 : Aside0 (Kd.R k30 30 w60 w.heap.size (fun k_ => k_ ≠ gb317 ∧ k_ ≠ gb323) (.slice (some ad316) t301.length co29) t301) := ⟨(by rw [hw]; exact (by (with_reducible repeat (first | apply Kd.a0n | apply Kd.a0o | apply Kd.a0m)); exact Kd.a0z (Kd.a0v (p := ⟨gb323, 5, none⟩) (Kd.a0v (p := ⟨gb323, 4, none⟩) (Kd.a0v (p := ⟨gb323, 3, none⟩) (Kd.a0v (p := ⟨gb323, 2, none⟩) (Kd.a0v (p := ⟨gb323, 1, none⟩) (Kd.a0v (p := ⟨gb323, 0, none⟩) (Kd.a0z HO_8.out (fun k_ hk => (⟨hk, hk.2⟩ : _ ∧ k_ ≠ gb323))) (fun _ hk => hk.2) (.int .i64 ((a0a l0 x105_4).f0))) (fun _ hk => hk.2) (.int .i64 ((a0a l0 x105_4).f1))) (fun _ hk => hk.2) (.int .i64 ((a0a l0 x105_4).f2))) (fun _ hk => hk.2) (.int .i64 ((a0a l0 x105_4).f3))) (fun _ hk => hk.2) (.int .i64 ((a0a l0 x105_4).f4.f0))) (fun _ hk => hk.2) (.int .i64 ((a0a l0 x105_4).f4.f1))) (fun _ hk => ⟨hk.1.1, hk.1.2⟩)))⟩; replace HO_96 : Aside0 (Kd.R k30 30 w60 w.heap.size (fun k_ => k_ ≠ gb317 ∧ k_ ≠ gb323) (.slice (some ad316) t301.length co29) t301) := ⟨(by rw [hw]; exact (by (with_reducible repeat (first | apply Kd.a0n | apply Kd.a0o | apply Kd.a0m)); exact Kd.a0z (Kd.a0v (p := ⟨gb323, 5, none⟩) (Kd.a0v (p := ⟨gb323, 4, none⟩) (Kd.a0v (p := ⟨gb323, 3, none⟩) (Kd.a0v (p := ⟨gb323, 2, none⟩) (Kd.a0v (p := ⟨gb323, 1, none⟩) (Kd.a0v (p := ⟨gb323, 0, none⟩) (Kd.a0z HO_96.out (fun k_ hk => (⟨hk, hk.2⟩ : _ ∧ k_ ≠ gb323))) (fun _ hk => hk.2) (.int .i64 ((a0a l0 x105_4).f0))) (fun _ hk => hk.2) (.int .i64 ((a0a l0 x105_4).f1))) (fun _ hk => hk.2) (.int .i64 ((a0a l0 x105_4).f2))) (fun _ hk => hk.2) (.int .i64 ((a0a l0 x105_4).f3))) (fun _ hk => hk.2) (.int .i64 ((a0a l0 x105_4).f4.f0))) (fun _ hk => hk.2) (.int .i64 ((a0a l0 x105_4).f4.f1))) (fun _ hk => ⟨hk.1.1, hk.1.2⟩)))⟩; replace BK317 : Aside0 (w60.heap[gb317]? = some (.cells #[.int .i64 ((a0a t301 x98_3).f0), .int .i64 ((a0a t301 x98_3).f1), .int .i64 ((a0a t301 x98_3).f2), .int .i64 ((a0a t301 x98_3).f3), .int .i64 ((a0a t301 x98_3).f4.f0), .int .i64 ((a0a t301 x98_3).f4.f1)] 30 (0, 0))) := ⟨(by rw [hw]; exact (by refine qd_ ?_; refine a2n ?_ NB317_323.out _; refine qd_ ?_; refine a2n ?_ NB317_323.out _; refine qd_ ?_; refine a2n ?_ NB317_323.out _; refine qd_ ?_; refine a2n ?_ NB317_323.out _; refine qd_ ?_; refine a2n ?_ NB317_323.out _; refine qd_ ?_; refine a2n ?_ NB317_323.out _; refine qd_ ?_; exact BK317.out))⟩; replace BK323 : Aside0 (w60.heap[gb323]? = some (.cells #[.int .i64 ((a0a l0 x105_4).f0), .int .i64 ((a0a l0 x105_4).f1), .int .i64 ((a0a l0 x105_4).f2), .int .i64 ((a0a l0 x105_4).f3), .int .i64 ((a0a l0 x105_4).f4.f0), .int .i64 ((a0a l0 x105_4).f4.f1)] 30 (0, 0))) := ⟨(by rw [hw]; exact (by refine qd_ ?_; refine a0q (cs := #[.int .i64 ((a0a l0 x105_4).f0), .int .i64 ((a0a l0 x105_4).f1), .int .i64 ((a0a l0 x105_4).f2), .int .i64 ((a0a l0 x105_4).f3), .int .i64 ((a0a l0 x105_4).f4.f0), .int .i64 0]) ?_ 5 _ rfl; refine qd_ ?_; refine a0q (cs := #[.int .i64 ((a0a l0 x105_4).f0), .int .i64 ((a0a l0 x105_4).f1), .int .i64 ((a0a l0 x105_4).f2), .int .i64 ((a0a l0 x105_4).f3), .int .i64 0, .int .i64 0]) ?_ 4 _ rfl; refine qd_ ?_; refine a0q (cs := #[.int .i64 ((a0a l0 x105_4).f0), .int .i64 ((a0a l0 x105_4).f1), .int .i64 ((a0a l0 x105_4).f2), .int .i64 0, .int .i64 0, .int .i64 0]) ?_ 3 _ rfl; refine qd_ ?_; refine a0q (cs := #[.int .i64 ((a0a l0 x105_4).f0), .int .i64 ((a0a l0 x105_4).f1), .int .i64 0, .int .i64 0, .int .i64 0, .int .i64 0]) ?_ 2 _ rfl; refine qd_ ?_; refine a0q (cs := #[.int .i64 ((a0a l0 x105_4).f0), .int .i64 0, .int .i64 0, .int .i64 0, .int .i64 0, .int .i64 0]) ?_ 1 _ rfl; refine qd_ ?_; refine a0q (cs := #[.int .i64 0, .int .i64 0, .int .i64 0, .int .i64 0, .int .i64 0, .int .i64 0]) ?_ 0 _ rfl; refine qd_ ?_; exact BK323.out))⟩; replace HB : Aside0 (Below w.heap.size w w60) := ⟨(by rw [hw]; exact qb_)⟩; clear hw; obtain ⟨z'61_0, z'61_1, z'61_2, z'61_3, z'61_4, z'61_5⟩ := qz6_ BK323; obtain ⟨y'61_0, y'61_1, y'61_2, y'61_3, y'61_4, y'61_5⟩ := qf6_ BK323; obtain ⟨z'62_0, z'62_1, z'62_2, z'62_3, z'62_4, z'62_5⟩ := qz6_ BK317; obtain ⟨y'62_0, y'62_1, y'62_2, y'62_3, y'62_4, y'62_5⟩ := qf6_ BK317))
                    go_roundg k4
                    case measure => have := HK1.out; have := HJ16.out; have := HK3.out; have := HK4.out; omega
                    case rel => exact ⟨(x7_4), (x20_4), (wrap64 (x105_4 + 1)), qs_, qs_, qs_, H', ⟨by have := HK1.out; have := HJ16.out; have := HK3.out; have := HK4.out; omega⟩, ⟨by (with_reducible repeat (first | apply Kd.a0n | apply Kd.a0o | apply Kd.a0m)); exact Kd.a0z HO_8.out (fun _ hk => hk.1)⟩, ⟨by (with_reducible repeat (first | apply Kd.a0n | apply Kd.a0o | apply Kd.a0m)); exact Kd.a0z HO_96.out (fun _ hk => hk.1)⟩, ⟨qk_ BK317⟩, ⟨qb_⟩⟩
                  ·rw [if_neg c38] at H
                   exact absurd H (by simp)
                 ·rw [if_neg c37] at H
                  exact absurd H (by simp)
                ·rw [if_neg c36] at H
                 have c36b0 : decide (x105_4 < (l0.length : Int)) = false := decide_eq_false c36
                 clear c36
                 by_cases c63 : x7_4 = true
                 ·subst c63
                  have H1 : (if ((a0a t301 x98_3).f3) > 0 then (if ((a0a t301 x98_3).f3) ≤ x20_4 then (if x98_3 = (wrap64 ((t301.length : Int) - 1)) then (if x98_3 = 0 then (a0d.l1 k4 l0 l1 a2 true t301 t302 (wrap64 (x16_3 + ((a0a t301 x98_3).f3))) 0 t301 (t301.length : Int) (wrap64 (x98_3 + 1))) else (if 0 ≤ (wrap64 (x98_3 - 1)) then (if (wrap64 (x98_3 - 1)) < (t301.length : Int) then ((a2e.f ((a0a t301 (wrap64 (x98_3 - 1))).f0) ((a0a t301 (wrap64 (x98_3 - 1))).f1) ((a0a t301 (wrap64 (x98_3 - 1))).f2) ((a0a t301 (wrap64 (x98_3 - 1))).f3) ((a0a t301 (wrap64 (x98_3 - 1))).f4.f0) ((a0a t301 (wrap64 (x98_3 - 1))).f4.f1) ((a0a t301 x98_3).f0) ((a0a t301 x98_3).f1) ((a0a t301 x98_3).f2) ((a0a t301 x98_3).f3) ((a0a t301 x98_3).f4.f0) ((a0a t301 x98_3).f4.f1)).bind fun t319 => (a0d.l1 k4 l0 l1 a2 t319 t301 t302 (wrap64 (x16_3 + ((a0a t301 x98_3).f3))) 0 t301 (t301.length : Int) (wrap64 (x98_3 + 1)))) else (none)) else (none))) else (if ((a0a t301 x98_3).f3) = x20_4 then (if x98_3 = 0 then (a0d.l1 k4 l0 l1 a2 true t301 t302 (wrap64 (x16_3 + ((a0a t301 x98_3).f3))) 0 t301 (t301.length : Int) (wrap64 (x98_3 + 1))) else (if 0 ≤ (wrap64 (x98_3 - 1)) then (if (wrap64 (x98_3 - 1)) < (t301.length : Int) then ((a2e.f ((a0a t301 (wrap64 (x98_3 - 1))).f0) ((a0a t301 (wrap64 (x98_3 - 1))).f1) ((a0a t301 (wrap64 (x98_3 - 1))).f2) ((a0a t301 (wrap64 (x98_3 - 1))).f3) ((a0a t301 (wrap64 (x98_3 - 1))).f4.f0) ((a0a t301 (wrap64 (x98_3 - 1))).f4.f1) ((a0a t301 x98_3).f0) ((a0a t301 x98_3).f1) ((a0a t301 x98_3).f2) ((a0a t301 x98_3).f3) ((a0a t301 x98_3).f4.f0) ((a0a t301 x98_3).f4.f1)).bind fun t321 => (a0d.l1 k4 l0 l1 a2 t321 t301 t302 (wrap64 (x16_3 + ((a0a t301 x98_3).f3))) 0 t301 (t301.length : Int) (wrap64 (x98_3 + 1)))) else (none)) else (none))) else (a0d.l1 k4 l0 l1 a2 false t301 t302 (wrap64 (x16_3 + ((a0a t301 x98_3).f3))) 0 t301 (t301.length : Int) (wrap64 (x98_3 + 1))))) else (a0d.l1 k4 l0 l1 a2 false t301 t302 (wrap64 (x16_3 + ((a0a t301 x98_3).f3))) 0 t301 (t301.length : Int) (wrap64 (x98_3 + 1)))) else (a0d.l1 k4 l0 l1 a2 false t301 t302 (wrap64 (x16_3 + ((a0a t301 x98_3).f3))) 0 t301 (t301.length : Int) (wrap64 (x98_3 + 1)))) = some r := by rw [if_pos rfl] at H; exact H
                  clear H
                  have H := H1
                  clear H1
                  by_cases c64 : ((a0a t301 x98_3).f3) > 0
                  ·rw [if_pos c64] at H
                   have c64b0 : decide (0 < ((a0a t301 x98_3).f3)) = true := decide_eq_true c64
                   clear c64
                   by_cases c65 : ((a0a t301 x98_3).f3) ≤ x20_4
                   ·rw [if_pos c65] at H
                    have c65b0 : decide (((a0a t301 x98_3).f3) ≤ x20_4) = true := decide_eq_true c65
                    clear c65
                    by_cases c66 : x98_3 = (wrap64 ((t301.length : Int) - 1))
                    ·rw [if_pos c66] at H
                     have c66b0 : (x98_3 == (wrap64 ((t301.length : Int) - 1))) = true := beq_iff_eq.mpr c66
                     have c66b1 : (x98_3 != (wrap64 ((t301.length : Int) - 1))) = false := bne_eq_false_iff_eq.mpr c66
                     clear c66
                     by_cases c67 : x98_3 = 0
                     ·rw [if_pos c67] at H
                      have c67b0 : (x98_3 == 0) = true := beq_iff_eq.mpr c67
                      have c67b1 : (x98_3 != 0) = false := bne_eq_false_iff_eq.mpr c67
                      clear c67
                      have H' := am_ H
                      clear H
                      obtain ⟨z'68_0, z'68_1, z'68_2, z'68_3, z'68_4, z'68_5⟩ := qz6_ BK317; obtain ⟨y'68_0, y'68_1, y'68_2, y'68_3, y'68_4, y'68_5⟩ := qf6_ BK317
                      try go_wp2
                      replace HO_8 := am_ (Kd.a0m HO_8.out)
                      replace HO_96 := am_ (Kd.a0m HO_96.out)
                      replace BK317 := am_ (bd_ BK317.out)
                      replace HB := am_ (ld_ HB.out)
                      refine a3g (n := 39) (S := fun w' => w'.cell? ⟨gb317, 0, none⟩ = some (.int .i64 ((a0a t301 x98_3).f0)) ∧ w'.cell? ⟨gb317, 1, none⟩ = some (.int .i64 ((a0a t301 x98_3).f1)) ∧ w'.cell? ⟨gb317, 2, none⟩ = some (.int .i64 ((a0a t301 x98_3).f2)) ∧ w'.cell? ⟨gb317, 3, none⟩ = some (.int .i64 ((a0a t301 x98_3).f3)) ∧ w'.cell? ⟨gb317, 4, none⟩ = some (.int .i64 ((a0a t301 x98_3).f4.f0)) ∧ w'.cell? ⟨gb317, 5, none⟩ = some (.int .i64 ((a0a t301 x98_3).f4.f1))) (ds := []) #[i_,i_,i_,i_,i_,i_,i_,i_,i_,i_,i_,i_,i_,i_,i_,i_,i_,i_,i_,i_,i_,i_,i_,i_,i_,i_,i_,i_,i_,i_,i_,i_,i_,i_,i_,i_,i_,i_,i_] (by kernel_rfl) rfl rfl ⟨(bc_ BK317.out 0).trans rfl, (bc_ BK317.out 1).trans rfl, (bc_ BK317.out 2).trans rfl, (bc_ BK317.out 3).trans rfl, (bc_ BK317.out 4).trans rfl, (bc_ BK317.out 5).trans rfl⟩ (fun hHeld => ?_); refine a2l a0d.a6p a0d.a5s (fun HT_ HW_ => ?_)
                      generalize wr.drew = w69 at HO_8 HO_96 BK317 HB hHeld ⊢
                      refine qpu_ 0 (some 130) #[o_,i_,i_,i_,i_,i_,i_,i_,i_,i_,i_,i_,i_,i_,i_,i_,i_,i_,i_,i_,i_,i_,i_,i_,i_,i_,i_,i_,i_,i_,i_,i_,i_,i_,i_,i_,i_,i_,i_] ?_
                      refine qpu_ 1 (some 131) #[o_,o_,i_,i_,i_,i_,i_,i_,i_,i_,i_,i_,i_,i_,i_,i_,i_,i_,i_,i_,i_,i_,i_,i_,i_,i_,i_,i_,i_,i_,i_,i_,i_,i_,i_,i_,i_,i_,i_] ?_
                      refine qpu_ 2 (some 132) #[o_,o_,o_,i_,i_,i_,i_,i_,i_,i_,i_,i_,i_,i_,i_,i_,i_,i_,i_,i_,i_,i_,i_,i_,i_,i_,i_,i_,i_,i_,i_,i_,i_,i_,i_,i_,i_,i_,i_] ?_
                      refine a2g (i := 3) (N := some 133) (v := ?_) (a' := ?_) #[o_,o_,o_,o_,i_,i_,i_,i_,i_,i_,i_,i_,i_,i_,i_,i_,i_,i_,i_,i_,i_,i_,i_,i_,i_,i_,i_,i_,i_,i_,i_,i_,i_,i_,i_,i_,i_,i_,i_] rfl rfl (a1r HT_.out HW_.out (by kernel_rfl)) (fun _ _ _ h => h) (Or.inl ⟨by rfl, ?_⟩) hHeld ?_ ?_
                      rotate_left
                      ·rintro w' ⟨s0, s1, s2, s3, s4, s5⟩
                       go_simp
                       with_reducible rfl
                      rotate_left
                      ·exact qp_
                      refine qpu_ 4 (some 134) #[o_,o_,o_,o_,o_,i_,i_,i_,i_,i_,i_,i_,i_,i_,i_,i_,i_,i_,i_,i_,i_,i_,i_,i_,i_,i_,i_,i_,i_,i_,i_,i_,i_,i_,i_,i_,i_,i_,i_] ?_
                      refine qpu_ 5 (some 135) #[o_,o_,o_,o_,o_,o_,i_,i_,i_,i_,i_,i_,i_,i_,i_,i_,i_,i_,i_,i_,i_,i_,i_,i_,i_,i_,i_,i_,i_,i_,i_,i_,i_,i_,i_,i_,i_,i_,i_] ?_
                      refine qpu_ 6 (some 136) #[o_,o_,o_,o_,o_,o_,o_,i_,i_,i_,i_,i_,i_,i_,i_,i_,i_,i_,i_,i_,i_,i_,i_,i_,i_,i_,i_,i_,i_,i_,i_,i_,i_,i_,i_,i_,i_,i_,i_] ?_
                      refine qpu_ 7 (some 137) #[o_,o_,o_,o_,o_,o_,o_,o_,i_,i_,i_,i_,i_,i_,i_,i_,i_,i_,i_,i_,i_,i_,i_,i_,i_,i_,i_,i_,i_,i_,i_,i_,i_,i_,i_,i_,i_,i_,i_] ?_
                      refine qpu_ 9 (some 139) #[o_,o_,o_,o_,o_,o_,o_,o_,i_,o_,i_,i_,i_,i_,i_,i_,i_,i_,i_,i_,i_,i_,i_,i_,i_,i_,i_,i_,i_,i_,i_,i_,i_,i_,i_,i_,i_,i_,i_] ?_
                      refine a2g (i := 8) (N := some 138) (v := ?_) (a' := ?_) #[o_,o_,o_,o_,o_,o_,o_,o_,o_,o_,i_,i_,i_,i_,i_,i_,i_,i_,i_,i_,i_,i_,i_,i_,i_,i_,i_,i_,i_,i_,i_,i_,i_,i_,i_,i_,i_,i_,i_] rfl rfl (a1r HT_.out HW_.out (by kernel_rfl)) (fun _ _ _ h => h) (Or.inl ⟨by rfl, ?_⟩) hHeld ?_ ?_
                      rotate_left
                      ·rintro w' ⟨s0, s1, s2, s3, s4, s5⟩
                       go_simp
                       with_reducible rfl
                      rotate_left
                      ·exact qp_
                      refine qpu_ 10 (some 140) #[o_,o_,o_,o_,o_,o_,o_,o_,o_,o_,o_,i_,i_,i_,i_,i_,i_,i_,i_,i_,i_,i_,i_,i_,i_,i_,i_,i_,i_,i_,i_,i_,i_,i_,i_,i_,i_,i_,i_] ?_
                      refine qpu_ 11 (some 141) #[o_,o_,o_,o_,o_,o_,o_,o_,o_,o_,o_,o_,i_,i_,i_,i_,i_,i_,i_,i_,i_,i_,i_,i_,i_,i_,i_,i_,i_,i_,i_,i_,i_,i_,i_,i_,i_,i_,i_] ?_
                      refine qpu_ 12 (some 142) #[o_,o_,o_,o_,o_,o_,o_,o_,o_,o_,o_,o_,o_,i_,i_,i_,i_,i_,i_,i_,i_,i_,i_,i_,i_,i_,i_,i_,i_,i_,i_,i_,i_,i_,i_,i_,i_,i_,i_] ?_
                      refine qpu_ 13 (some 143) #[o_,o_,o_,o_,o_,o_,o_,o_,o_,o_,o_,o_,o_,o_,i_,i_,i_,i_,i_,i_,i_,i_,i_,i_,i_,i_,i_,i_,i_,i_,i_,i_,i_,i_,i_,i_,i_,i_,i_] ?_
                      refine qpu_ 14 (some 144) #[o_,o_,o_,o_,o_,o_,o_,o_,o_,o_,o_,o_,o_,o_,o_,i_,i_,i_,i_,i_,i_,i_,i_,i_,i_,i_,i_,i_,i_,i_,i_,i_,i_,i_,i_,i_,i_,i_,i_] ?_
                      refine qpu_ 15 (some 145) #[o_,o_,o_,o_,o_,o_,o_,o_,o_,o_,o_,o_,o_,o_,o_,o_,i_,i_,i_,i_,i_,i_,i_,i_,i_,i_,i_,i_,i_,i_,i_,i_,i_,i_,i_,i_,i_,i_,i_] ?_
                      refine qpu_ 16 (some 146) #[o_,o_,o_,o_,o_,o_,o_,o_,o_,o_,o_,o_,o_,o_,o_,o_,o_,i_,i_,i_,i_,i_,i_,i_,i_,i_,i_,i_,i_,i_,i_,i_,i_,i_,i_,i_,i_,i_,i_] ?_
                      refine qpu_ 17 (some 147) #[o_,o_,o_,o_,o_,o_,o_,o_,o_,o_,o_,o_,o_,o_,o_,o_,o_,o_,i_,i_,i_,i_,i_,i_,i_,i_,i_,i_,i_,i_,i_,i_,i_,i_,i_,i_,i_,i_,i_] ?_
                      refine qpu_ 18 (some 148) #[o_,o_,o_,o_,o_,o_,o_,o_,o_,o_,o_,o_,o_,o_,o_,o_,o_,o_,o_,i_,i_,i_,i_,i_,i_,i_,i_,i_,i_,i_,i_,i_,i_,i_,i_,i_,i_,i_,i_] ?_
                      refine qpv_ 19 (some 149) #[o_,o_,o_,o_,o_,o_,o_,o_,o_,o_,o_,o_,o_,o_,o_,o_,o_,o_,o_,o_,i_,i_,i_,i_,i_,i_,i_,i_,i_,i_,i_,i_,i_,i_,i_,i_,i_,i_,i_] ?_
                      refine qpv_ 20 (some 150) #[o_,o_,o_,o_,o_,o_,o_,o_,o_,o_,o_,o_,o_,o_,o_,o_,o_,o_,o_,o_,o_,i_,i_,i_,i_,i_,i_,i_,i_,i_,i_,i_,i_,i_,i_,i_,i_,i_,i_] ?_
                      refine qpv_ 21 (some 151) #[o_,o_,o_,o_,o_,o_,o_,o_,o_,o_,o_,o_,o_,o_,o_,o_,o_,o_,o_,o_,o_,o_,i_,i_,i_,i_,i_,i_,i_,i_,i_,i_,i_,i_,i_,i_,i_,i_,i_] ?_
                      refine qpv_ 22 (some 152) #[o_,o_,o_,o_,o_,o_,o_,o_,o_,o_,o_,o_,o_,o_,o_,o_,o_,o_,o_,o_,o_,o_,o_,i_,i_,i_,i_,i_,i_,i_,i_,i_,i_,i_,i_,i_,i_,i_,i_] ?_
                      refine qpu_ 23 (some 153) #[o_,o_,o_,o_,o_,o_,o_,o_,o_,o_,o_,o_,o_,o_,o_,o_,o_,o_,o_,o_,o_,o_,o_,o_,i_,i_,i_,i_,i_,i_,i_,i_,i_,i_,i_,i_,i_,i_,i_] ?_
                      refine qpu_ 24 (some 154) #[o_,o_,o_,o_,o_,o_,o_,o_,o_,o_,o_,o_,o_,o_,o_,o_,o_,o_,o_,o_,o_,o_,o_,o_,o_,i_,i_,i_,i_,i_,i_,i_,i_,i_,i_,i_,i_,i_,i_] ?_
                      refine qpu_ 25 (some 155) #[o_,o_,o_,o_,o_,o_,o_,o_,o_,o_,o_,o_,o_,o_,o_,o_,o_,o_,o_,o_,o_,o_,o_,o_,o_,o_,i_,i_,i_,i_,i_,i_,i_,i_,i_,i_,i_,i_,i_] ?_
                      refine qpu_ 26 (some 156) #[o_,o_,o_,o_,o_,o_,o_,o_,o_,o_,o_,o_,o_,o_,o_,o_,o_,o_,o_,o_,o_,o_,o_,o_,o_,o_,o_,i_,i_,i_,i_,i_,i_,i_,i_,i_,i_,i_,i_] ?_
                      refine qpu_ 27 (some 157) #[o_,o_,o_,o_,o_,o_,o_,o_,o_,o_,o_,o_,o_,o_,o_,o_,o_,o_,o_,o_,o_,o_,o_,o_,o_,o_,o_,o_,i_,i_,i_,i_,i_,i_,i_,i_,i_,i_,i_] ?_
                      refine qpu_ 28 (some 158) #[o_,o_,o_,o_,o_,o_,o_,o_,o_,o_,o_,o_,o_,o_,o_,o_,o_,o_,o_,o_,o_,o_,o_,o_,o_,o_,o_,o_,o_,i_,i_,i_,i_,i_,i_,i_,i_,i_,i_] ?_
                      refine qpv_ 29 (some 159) #[o_,o_,o_,o_,o_,o_,o_,o_,o_,o_,o_,o_,o_,o_,o_,o_,o_,o_,o_,o_,o_,o_,o_,o_,o_,o_,o_,o_,o_,o_,i_,i_,i_,i_,i_,i_,i_,i_,i_] ?_
                      refine qpv_ 30 (some 160) #[o_,o_,o_,o_,o_,o_,o_,o_,o_,o_,o_,o_,o_,o_,o_,o_,o_,o_,o_,o_,o_,o_,o_,o_,o_,o_,o_,o_,o_,o_,o_,i_,i_,i_,i_,i_,i_,i_,i_] ?_
                      refine qpv_ 31 (some 161) #[o_,o_,o_,o_,o_,o_,o_,o_,o_,o_,o_,o_,o_,o_,o_,o_,o_,o_,o_,o_,o_,o_,o_,o_,o_,o_,o_,o_,o_,o_,o_,o_,i_,i_,i_,i_,i_,i_,i_] ?_
                      refine qpv_ 32 (some 162) #[o_,o_,o_,o_,o_,o_,o_,o_,o_,o_,o_,o_,o_,o_,o_,o_,o_,o_,o_,o_,o_,o_,o_,o_,o_,o_,o_,o_,o_,o_,o_,o_,o_,i_,i_,i_,i_,i_,i_] ?_
                      refine qpv_ 33 (some 163) #[o_,o_,o_,o_,o_,o_,o_,o_,o_,o_,o_,o_,o_,o_,o_,o_,o_,o_,o_,o_,o_,o_,o_,o_,o_,o_,o_,o_,o_,o_,o_,o_,o_,o_,i_,i_,i_,i_,i_] ?_
                      refine qpv_ 34 (some 164) #[o_,o_,o_,o_,o_,o_,o_,o_,o_,o_,o_,o_,o_,o_,o_,o_,o_,o_,o_,o_,o_,o_,o_,o_,o_,o_,o_,o_,o_,o_,o_,o_,o_,o_,o_,i_,i_,i_,i_] ?_
                      refine qpv_ 35 (some 165) #[o_,o_,o_,o_,o_,o_,o_,o_,o_,o_,o_,o_,o_,o_,o_,o_,o_,o_,o_,o_,o_,o_,o_,o_,o_,o_,o_,o_,o_,o_,o_,o_,o_,o_,o_,o_,i_,i_,i_] ?_
                      refine qpu_ 36 (some 166) #[o_,o_,o_,o_,o_,o_,o_,o_,o_,o_,o_,o_,o_,o_,o_,o_,o_,o_,o_,o_,o_,o_,o_,o_,o_,o_,o_,o_,o_,o_,o_,o_,o_,o_,o_,o_,o_,i_,i_] ?_
                      refine qpu_ 37 (some 167) #[o_,o_,o_,o_,o_,o_,o_,o_,o_,o_,o_,o_,o_,o_,o_,o_,o_,o_,o_,o_,o_,o_,o_,o_,o_,o_,o_,o_,o_,o_,o_,o_,o_,o_,o_,o_,o_,o_,i_] ?_
                      refine qpu_ 38 (some 7) #[o_,o_,o_,o_,o_,o_,o_,o_,o_,o_,o_,o_,o_,o_,o_,o_,o_,o_,o_,o_,o_,o_,o_,o_,o_,o_,o_,o_,o_,o_,o_,o_,o_,o_,o_,o_,o_,o_,o_] ?_
                      refine a3o (a3b HT_.out (by kernel_rfl)) ?_
                      try go_wp2
                      go_roundg k4
                      case measure => have := HK1.out; have := HJ16.out; have := HK3.out; have := HK4.out; omega
                      case rel => exact ⟨(true), (wrap64 (x16_3 + ((a0a t301 x98_3).f3))), (wrap64 (x98_3 + 1)), qs_, qs_, qs_, H', ⟨by have := HK1.out; have := HJ16.out; have := HK3.out; have := HK4.out; omega⟩, ⟨by (with_reducible repeat (first | apply Kd.a0n | apply Kd.a0o | apply Kd.a0m)); exact Kd.a0z HO_8.out (fun _ hk => trivial)⟩, ⟨by (with_reducible repeat (first | apply Kd.a0n | apply Kd.a0o | apply Kd.a0m)); exact Kd.a0z HO_96.out (fun _ hk => trivial)⟩, ⟨qb_⟩⟩
                     ·rw [if_neg c67] at H
                      have c67b0 : (x98_3 == 0) = false := beq_eq_false_iff_ne.mpr c67
                      have c67b1 : (x98_3 != 0) = true := bne_iff_ne.mpr c67
                      obtain ⟨ji70, hji70⟩ : ∃ j_ : Int, (wrap64 (x98_3 - 1)) = j_ := ⟨_, rfl⟩
                      replace H : (if 0 ≤ (ji70) then (if (ji70) < (t301.length : Int) then ((a2e.f ((a0a t301 (ji70)).f0) ((a0a t301 (ji70)).f1) ((a0a t301 (ji70)).f2) ((a0a t301 (ji70)).f3) ((a0a t301 (ji70)).f4.f0) ((a0a t301 (ji70)).f4.f1) ((a0a t301 x98_3).f0) ((a0a t301 x98_3).f1) ((a0a t301 x98_3).f2) ((a0a t301 x98_3).f3) ((a0a t301 x98_3).f4.f0) ((a0a t301 x98_3).f4.f1)).bind fun t319 => (a0d.l1 k4 l0 l1 a2 t319 t301 t302 (wrap64 (x16_3 + ((a0a t301 x98_3).f3))) 0 t301 (t301.length : Int) (wrap64 (x98_3 + 1)))) else (none)) else (none)) = some r := by first | (rw [hji70] at H; exact H) | (simp only [hji70] at H ⊢; exact H)
                      have hji70w : (IntKind.i64.wrap (x98_3 - 1)) = ji70 := (a3k _).trans hji70
                      by_cases c71 : 0 ≤ (ji70)
                      ·rw [if_pos c71] at H
                       have c71b0 : decide (0 ≤ (ji70)) = true := decide_eq_true c71
                       clear c71
                       by_cases c72 : (ji70) < (t301.length : Int)
                       ·rw [if_pos c72] at H
                        have c72b0 : decide ((ji70) < (t301.length : Int)) = true := decide_eq_true c72
                        clear c72
                        replace H := bm_ H
                        obtain ⟨t319, A730, H⟩ := H
                        replace H : (a0d.l1 k4 l0 l1 a2 t319 t301 t302 (wrap64 (x16_3 + ((a0a t301 x98_3).f3))) 0 t301 (t301.length : Int) (wrap64 (x98_3 + 1))) = some r := H
                        have A73 := am_ A730
                        clear A730
                        have H' := am_ H
                        clear H
                        obtain ⟨z'74_0, z'74_1, z'74_2, z'74_3, z'74_4, z'74_5⟩ := qz6_ BK317; obtain ⟨y'74_0, y'74_1, y'74_2, y'74_3, y'74_4, y'74_5⟩ := qf6_ BK317
                        try go_wp2
                        replace HO_8 := am_ (Kd.a0m HO_8.out)
                        replace HO_96 := am_ (Kd.a0m HO_96.out)
                        replace BK317 := am_ (bd_ BK317.out)
                        replace HB := am_ (ld_ HB.out)
                        have p318 : 0 ≤ ((ji70) : Int) := ot_
                        have q318 : (ji70) < (t301.length : Int) := ot_
                        obtain ⟨ad318, e318, hx318_0, hx318_1, hx318_2, hx318_3, hx318_4, hx318_5⟩ := a3q (Kd.a0p HO_8.out).2.2 (ji70) p318 q318
                        obtain rfl : ad316 = ad318 := (by injection e318)
                        replace p318 := eq_true p318
                        replace q318 := eq_true q318
                        refine a3g (n := 39) (S := fun w' => w'.cell? ⟨gb317, 0, none⟩ = some (.int .i64 ((a0a t301 x98_3).f0)) ∧ w'.cell? ⟨gb317, 1, none⟩ = some (.int .i64 ((a0a t301 x98_3).f1)) ∧ w'.cell? ⟨gb317, 2, none⟩ = some (.int .i64 ((a0a t301 x98_3).f2)) ∧ w'.cell? ⟨gb317, 3, none⟩ = some (.int .i64 ((a0a t301 x98_3).f3)) ∧ w'.cell? ⟨gb317, 4, none⟩ = some (.int .i64 ((a0a t301 x98_3).f4.f0)) ∧ w'.cell? ⟨gb317, 5, none⟩ = some (.int .i64 ((a0a t301 x98_3).f4.f1)) ∧ w'.cell? (ad316.add (((ji70)).toNat * 6)) = some (.int .i64 ((a0a t301 (ji70)).f0)) ∧ w'.cell? ⟨(ad316.add (((ji70)).toNat * 6)).block, (ad316.add (((ji70)).toNat * 6)).off + 1, none⟩ = some (.int .i64 ((a0a t301 (ji70)).f1)) ∧ w'.cell? ⟨(ad316.add (((ji70)).toNat * 6)).block, (ad316.add (((ji70)).toNat * 6)).off + 2, none⟩ = some (.int .i64 ((a0a t301 (ji70)).f2)) ∧ w'.cell? ⟨(ad316.add (((ji70)).toNat * 6)).block, (ad316.add (((ji70)).toNat * 6)).off + 3, none⟩ = some (.int .i64 ((a0a t301 (ji70)).f3)) ∧ w'.cell? ⟨(ad316.add (((ji70)).toNat * 6)).block, (ad316.add (((ji70)).toNat * 6)).off + 4, none⟩ = some (.int .i64 ((a0a t301 (ji70)).f4.f0)) ∧ w'.cell? ⟨(ad316.add (((ji70)).toNat * 6)).block, (ad316.add (((ji70)).toNat * 6)).off + 5, none⟩ = some (.int .i64 ((a0a t301 (ji70)).f4.f1))) (ds := []) #[i_,i_,i_,i_,i_,i_,i_,i_,i_,i_,i_,i_,i_,i_,i_,i_,i_,i_,i_,i_,i_,i_,i_,i_,i_,i_,i_,i_,i_,i_,i_,i_,i_,i_,i_,i_,i_,i_,i_] (by kernel_rfl) rfl rfl ⟨(bc_ BK317.out 0).trans rfl, (bc_ BK317.out 1).trans rfl, (bc_ BK317.out 2).trans rfl, (bc_ BK317.out 3).trans rfl, (bc_ BK317.out 4).trans rfl, (bc_ BK317.out 5).trans rfl, hx318_0, hx318_1, hx318_2, hx318_3, hx318_4, hx318_5⟩ (fun hHeld => ?_); refine a2l a0d.a6p a0d.a5s (fun HT_ HW_ => ?_)
                        generalize wr.drew = w75 at HO_8 HO_96 BK317 HB hx318_0 hx318_1 hx318_2 hx318_3 hx318_4 hx318_5 hHeld ⊢
                        refine qpu_ 0 (some 130) #[o_,i_,i_,i_,i_,i_,i_,i_,i_,i_,i_,i_,i_,i_,i_,i_,i_,i_,i_,i_,i_,i_,i_,i_,i_,i_,i_,i_,i_,i_,i_,i_,i_,i_,i_,i_,i_,i_,i_] ?_
                        refine qpu_ 1 (some 131) #[o_,o_,i_,i_,i_,i_,i_,i_,i_,i_,i_,i_,i_,i_,i_,i_,i_,i_,i_,i_,i_,i_,i_,i_,i_,i_,i_,i_,i_,i_,i_,i_,i_,i_,i_,i_,i_,i_,i_] ?_
                        refine qpu_ 2 (some 132) #[o_,o_,o_,i_,i_,i_,i_,i_,i_,i_,i_,i_,i_,i_,i_,i_,i_,i_,i_,i_,i_,i_,i_,i_,i_,i_,i_,i_,i_,i_,i_,i_,i_,i_,i_,i_,i_,i_,i_] ?_
                        refine a2g (i := 3) (N := some 133) (v := ?_) (a' := ?_) #[o_,o_,o_,o_,i_,i_,i_,i_,i_,i_,i_,i_,i_,i_,i_,i_,i_,i_,i_,i_,i_,i_,i_,i_,i_,i_,i_,i_,i_,i_,i_,i_,i_,i_,i_,i_,i_,i_,i_] rfl rfl (a1r HT_.out HW_.out (by kernel_rfl)) (fun _ _ _ h => h) (Or.inl ⟨by rfl, ?_⟩) hHeld ?_ ?_
                        rotate_left
                        ·rintro w' ⟨s0, s1, s2, s3, s4, s5, s6, s7, s8, s9, s10, s11⟩
                         go_simp
                         with_reducible rfl
                        rotate_left
                        ·exact qp_
                        refine qpu_ 4 (some 134) #[o_,o_,o_,o_,o_,i_,i_,i_,i_,i_,i_,i_,i_,i_,i_,i_,i_,i_,i_,i_,i_,i_,i_,i_,i_,i_,i_,i_,i_,i_,i_,i_,i_,i_,i_,i_,i_,i_,i_] ?_
                        refine qpu_ 5 (some 135) #[o_,o_,o_,o_,o_,o_,i_,i_,i_,i_,i_,i_,i_,i_,i_,i_,i_,i_,i_,i_,i_,i_,i_,i_,i_,i_,i_,i_,i_,i_,i_,i_,i_,i_,i_,i_,i_,i_,i_] ?_
                        refine qpu_ 6 (some 136) #[o_,o_,o_,o_,o_,o_,o_,i_,i_,i_,i_,i_,i_,i_,i_,i_,i_,i_,i_,i_,i_,i_,i_,i_,i_,i_,i_,i_,i_,i_,i_,i_,i_,i_,i_,i_,i_,i_,i_] ?_
                        refine qpu_ 7 (some 137) #[o_,o_,o_,o_,o_,o_,o_,o_,i_,i_,i_,i_,i_,i_,i_,i_,i_,i_,i_,i_,i_,i_,i_,i_,i_,i_,i_,i_,i_,i_,i_,i_,i_,i_,i_,i_,i_,i_,i_] ?_
                        refine qpu_ 9 (some 139) #[o_,o_,o_,o_,o_,o_,o_,o_,i_,o_,i_,i_,i_,i_,i_,i_,i_,i_,i_,i_,i_,i_,i_,i_,i_,i_,i_,i_,i_,i_,i_,i_,i_,i_,i_,i_,i_,i_,i_] ?_
                        refine a2g (i := 8) (N := some 138) (v := ?_) (a' := ?_) #[o_,o_,o_,o_,o_,o_,o_,o_,o_,o_,i_,i_,i_,i_,i_,i_,i_,i_,i_,i_,i_,i_,i_,i_,i_,i_,i_,i_,i_,i_,i_,i_,i_,i_,i_,i_,i_,i_,i_] rfl rfl (a1r HT_.out HW_.out (by kernel_rfl)) (fun _ _ _ h => h) (Or.inl ⟨by rfl, ?_⟩) hHeld ?_ ?_
                        rotate_left
                        ·rintro w' ⟨s0, s1, s2, s3, s4, s5, s6, s7, s8, s9, s10, s11⟩
                         go_simp
                         with_reducible rfl
                        rotate_left
                        ·exact qp_
                        refine qpu_ 10 (some 140) #[o_,o_,o_,o_,o_,o_,o_,o_,o_,o_,o_,i_,i_,i_,i_,i_,i_,i_,i_,i_,i_,i_,i_,i_,i_,i_,i_,i_,i_,i_,i_,i_,i_,i_,i_,i_,i_,i_,i_] ?_
                        refine qpu_ 11 (some 141) #[o_,o_,o_,o_,o_,o_,o_,o_,o_,o_,o_,o_,i_,i_,i_,i_,i_,i_,i_,i_,i_,i_,i_,i_,i_,i_,i_,i_,i_,i_,i_,i_,i_,i_,i_,i_,i_,i_,i_] ?_
                        refine qpu_ 12 (some 142) #[o_,o_,o_,o_,o_,o_,o_,o_,o_,o_,o_,o_,o_,i_,i_,i_,i_,i_,i_,i_,i_,i_,i_,i_,i_,i_,i_,i_,i_,i_,i_,i_,i_,i_,i_,i_,i_,i_,i_] ?_
                        refine qpu_ 13 (some 143) #[o_,o_,o_,o_,o_,o_,o_,o_,o_,o_,o_,o_,o_,o_,i_,i_,i_,i_,i_,i_,i_,i_,i_,i_,i_,i_,i_,i_,i_,i_,i_,i_,i_,i_,i_,i_,i_,i_,i_] ?_
                        refine qpu_ 14 (some 144) #[o_,o_,o_,o_,o_,o_,o_,o_,o_,o_,o_,o_,o_,o_,o_,i_,i_,i_,i_,i_,i_,i_,i_,i_,i_,i_,i_,i_,i_,i_,i_,i_,i_,i_,i_,i_,i_,i_,i_] ?_
                        refine qpu_ 15 (some 145) #[o_,o_,o_,o_,o_,o_,o_,o_,o_,o_,o_,o_,o_,o_,o_,o_,i_,i_,i_,i_,i_,i_,i_,i_,i_,i_,i_,i_,i_,i_,i_,i_,i_,i_,i_,i_,i_,i_,i_] ?_
                        refine qpu_ 16 (some 146) #[o_,o_,o_,o_,o_,o_,o_,o_,o_,o_,o_,o_,o_,o_,o_,o_,o_,i_,i_,i_,i_,i_,i_,i_,i_,i_,i_,i_,i_,i_,i_,i_,i_,i_,i_,i_,i_,i_,i_] ?_
                        refine qpu_ 17 (some 147) #[o_,o_,o_,o_,o_,o_,o_,o_,o_,o_,o_,o_,o_,o_,o_,o_,o_,o_,i_,i_,i_,i_,i_,i_,i_,i_,i_,i_,i_,i_,i_,i_,i_,i_,i_,i_,i_,i_,i_] ?_
                        refine qpu_ 18 (some 148) #[o_,o_,o_,o_,o_,o_,o_,o_,o_,o_,o_,o_,o_,o_,o_,o_,o_,o_,o_,i_,i_,i_,i_,i_,i_,i_,i_,i_,i_,i_,i_,i_,i_,i_,i_,i_,i_,i_,i_] ?_
                        refine qpv_ 19 (some 149) #[o_,o_,o_,o_,o_,o_,o_,o_,o_,o_,o_,o_,o_,o_,o_,o_,o_,o_,o_,o_,i_,i_,i_,i_,i_,i_,i_,i_,i_,i_,i_,i_,i_,i_,i_,i_,i_,i_,i_] ?_
                        refine qpv_ 20 (some 150) #[o_,o_,o_,o_,o_,o_,o_,o_,o_,o_,o_,o_,o_,o_,o_,o_,o_,o_,o_,o_,o_,i_,i_,i_,i_,i_,i_,i_,i_,i_,i_,i_,i_,i_,i_,i_,i_,i_,i_] ?_
                        refine qpv_ 21 (some 151) #[o_,o_,o_,o_,o_,o_,o_,o_,o_,o_,o_,o_,o_,o_,o_,o_,o_,o_,o_,o_,o_,o_,i_,i_,i_,i_,i_,i_,i_,i_,i_,i_,i_,i_,i_,i_,i_,i_,i_] ?_
                        refine qpv_ 22 (some 152) #[o_,o_,o_,o_,o_,o_,o_,o_,o_,o_,o_,o_,o_,o_,o_,o_,o_,o_,o_,o_,o_,o_,o_,i_,i_,i_,i_,i_,i_,i_,i_,i_,i_,i_,i_,i_,i_,i_,i_] ?_
                        refine qpu_ 23 (some 153) #[o_,o_,o_,o_,o_,o_,o_,o_,o_,o_,o_,o_,o_,o_,o_,o_,o_,o_,o_,o_,o_,o_,o_,o_,i_,i_,i_,i_,i_,i_,i_,i_,i_,i_,i_,i_,i_,i_,i_] ?_
                        refine qpu_ 24 (some 154) #[o_,o_,o_,o_,o_,o_,o_,o_,o_,o_,o_,o_,o_,o_,o_,o_,o_,o_,o_,o_,o_,o_,o_,o_,o_,i_,i_,i_,i_,i_,i_,i_,i_,i_,i_,i_,i_,i_,i_] ?_
                        refine qpu_ 25 (some 155) #[o_,o_,o_,o_,o_,o_,o_,o_,o_,o_,o_,o_,o_,o_,o_,o_,o_,o_,o_,o_,o_,o_,o_,o_,o_,o_,i_,i_,i_,i_,i_,i_,i_,i_,i_,i_,i_,i_,i_] ?_
                        refine qpu_ 26 (some 156) #[o_,o_,o_,o_,o_,o_,o_,o_,o_,o_,o_,o_,o_,o_,o_,o_,o_,o_,o_,o_,o_,o_,o_,o_,o_,o_,o_,i_,i_,i_,i_,i_,i_,i_,i_,i_,i_,i_,i_] ?_
                        refine qpu_ 27 (some 157) #[o_,o_,o_,o_,o_,o_,o_,o_,o_,o_,o_,o_,o_,o_,o_,o_,o_,o_,o_,o_,o_,o_,o_,o_,o_,o_,o_,o_,i_,i_,i_,i_,i_,i_,i_,i_,i_,i_,i_] ?_
                        refine qpu_ 28 (some 158) #[o_,o_,o_,o_,o_,o_,o_,o_,o_,o_,o_,o_,o_,o_,o_,o_,o_,o_,o_,o_,o_,o_,o_,o_,o_,o_,o_,o_,o_,i_,i_,i_,i_,i_,i_,i_,i_,i_,i_] ?_
                        refine qpu_ 29 (some 159) #[o_,o_,o_,o_,o_,o_,o_,o_,o_,o_,o_,o_,o_,o_,o_,o_,o_,o_,o_,o_,o_,o_,o_,o_,o_,o_,o_,o_,o_,o_,i_,i_,i_,i_,i_,i_,i_,i_,i_] ?_
                        refine qpu_ 30 (some 160) #[o_,o_,o_,o_,o_,o_,o_,o_,o_,o_,o_,o_,o_,o_,o_,o_,o_,o_,o_,o_,o_,o_,o_,o_,o_,o_,o_,o_,o_,o_,o_,i_,i_,i_,i_,i_,i_,i_,i_] ?_
                        refine qpu_ 31 (some 161) #[o_,o_,o_,o_,o_,o_,o_,o_,o_,o_,o_,o_,o_,o_,o_,o_,o_,o_,o_,o_,o_,o_,o_,o_,o_,o_,o_,o_,o_,o_,o_,o_,i_,i_,i_,i_,i_,i_,i_] ?_
                        refine qpu_ 32 (some 162) #[o_,o_,o_,o_,o_,o_,o_,o_,o_,o_,o_,o_,o_,o_,o_,o_,o_,o_,o_,o_,o_,o_,o_,o_,o_,o_,o_,o_,o_,o_,o_,o_,o_,i_,i_,i_,i_,i_,i_] ?_
                        refine a2g (i := 33) (N := some 163) (v := ?_) (a' := ?_) #[o_,o_,o_,o_,o_,o_,o_,o_,o_,o_,o_,o_,o_,o_,o_,o_,o_,o_,o_,o_,o_,o_,o_,o_,o_,o_,o_,o_,o_,o_,o_,o_,o_,o_,i_,i_,i_,i_,i_] rfl rfl (a1r HT_.out HW_.out (by kernel_rfl)) (fun _ _ _ h => h) (Or.inl ⟨by rfl, ?_⟩) hHeld ?_ ?_
                        rotate_left
                        ·rintro w' ⟨s0, s1, s2, s3, s4, s5, s6, s7, s8, s9, s10, s11⟩
                         go_simp
                         with_reducible rfl
                        rotate_left
                        ·exact qp_
                        refine a2g (i := 34) (N := some 164) (v := ?_) (a' := ?_) #[o_,o_,o_,o_,o_,o_,o_,o_,o_,o_,o_,o_,o_,o_,o_,o_,o_,o_,o_,o_,o_,o_,o_,o_,o_,o_,o_,o_,o_,o_,o_,o_,o_,o_,o_,i_,i_,i_,i_] rfl rfl (a1r HT_.out HW_.out (by kernel_rfl)) (fun _ _ _ h => h) (Or.inl ⟨by rfl, ?_⟩) hHeld ?_ ?_
                        rotate_left
                        ·rintro w' ⟨s0, s1, s2, s3, s4, s5, s6, s7, s8, s9, s10, s11⟩
                         go_simp
                         with_reducible rfl
                        rotate_left
                        ·exact qp_
                        refine one_ (i := 35) (N := some 165) #[o_,o_,o_,o_,o_,o_,o_,o_,o_,o_,o_,o_,o_,o_,o_,o_,o_,o_,o_,o_,o_,o_,o_,o_,o_,o_,o_,o_,o_,o_,o_,o_,o_,o_,o_,o_,i_,i_,i_] rfl rfl (a3h HT_.out (by kernel_rfl)) (by decide) (fun K hK => ?_)
                        refine a5g Try.func14 (by kernel_rfl) rfl #[.agg #[.int .i64 ((a0a t301 (ji70)).f0), .int .i64 ((a0a t301 (ji70)).f1), .int .i64 ((a0a t301 (ji70)).f2), .int .i64 ((a0a t301 (ji70)).f3), .int .i64 ((a0a t301 (ji70)).f4.f0), .int .i64 ((a0a t301 (ji70)).f4.f1)], .agg #[.int .i64 ((a0a t301 x98_3).f0), .int .i64 ((a0a t301 x98_3).f1), .int .i64 ((a0a t301 x98_3).f2), .int .i64 ((a0a t301 x98_3).f3), .int .i64 ((a0a t301 x98_3).f4.f0), .int .i64 ((a0a t301 x98_3).f4.f1)]] (by rfl) rfl rfl (by (try simp only [List.map_toArray, List.map_cons, List.map_nil]); first | done | (simp only [hji70]; rfl) | rfl | (simp only [List.length_drop, List.length_take]; rfl)) ?_
                        with_reducible refine (a2e.calls ((a0a t301 (ji70)).f0) ((a0a t301 (ji70)).f1) ((a0a t301 (ji70)).f2) ((a0a t301 (ji70)).f3) ((a0a t301 (ji70)).f4.f0) ((a0a t301 (ji70)).f4.f1) ((a0a t301 x98_3).f0) ((a0a t301 x98_3).f1) ((a0a t301 x98_3).f2) ((a0a t301 x98_3).f3) ((a0a t301 x98_3).f4.f0) ((a0a t301 x98_3).f4.f1) t319 _ A73.out).mono ?_
                        rintro e w76 ⟨rfl, hb⟩
                        have HS6_ := (hb.cell (World.block_lt_of_cell? _ _ (hHeld.2.2.2.2.2.2.1))).trans (hHeld.2.2.2.2.2.2.1)
                        have HS7_ := (hb.cell (World.block_lt_of_cell? _ _ (hHeld.2.2.2.2.2.2.2.1))).trans (hHeld.2.2.2.2.2.2.2.1)
                        have HS8_ := (hb.cell (World.block_lt_of_cell? _ _ (hHeld.2.2.2.2.2.2.2.2.1))).trans (hHeld.2.2.2.2.2.2.2.2.1)
                        have HS9_ := (hb.cell (World.block_lt_of_cell? _ _ (hHeld.2.2.2.2.2.2.2.2.2.1))).trans (hHeld.2.2.2.2.2.2.2.2.2.1)
                        have HS10_ := (hb.cell (World.block_lt_of_cell? _ _ (hHeld.2.2.2.2.2.2.2.2.2.2.1))).trans (hHeld.2.2.2.2.2.2.2.2.2.2.1)
                        have HS11_ := (hb.cell (World.block_lt_of_cell? _ _ (hHeld.2.2.2.2.2.2.2.2.2.2.2))).trans (hHeld.2.2.2.2.2.2.2.2.2.2.2)
                        refine ⟨_, rfl, ?_⟩
                        replace HO_8 := qrb_ HO_8 hb
                        replace HO_96 := qrb_ HO_96 hb
                        replace BK317 := qkb_ BK317 hb
                        replace HB := qbs_ hb
                        (try clear hb)
                        (try clear hb2)
                        (try clear hk)
                        (try clear hi)
                        refine hK.out _ _ ⟨(bc_ BK317.out 0).trans rfl, (bc_ BK317.out 1).trans rfl, (bc_ BK317.out 2).trans rfl, (bc_ BK317.out 3).trans rfl, (bc_ BK317.out 4).trans rfl, (bc_ BK317.out 5).trans rfl, HS6_, HS7_, HS8_, HS9_, HS10_, HS11_⟩ (fun hHeld => ?_)
                        clear hK K
                        refine a4b (a' := ?_) ?_ ?_
                        rotate_left
                        ·show Act.put _ (some 165) _ = _
                         exact qp_
                        refine qpu_ 36 (some 166) #[o_,o_,o_,o_,o_,o_,o_,o_,o_,o_,o_,o_,o_,o_,o_,o_,o_,o_,o_,o_,o_,o_,o_,o_,o_,o_,o_,o_,o_,o_,o_,o_,o_,o_,o_,o_,o_,i_,i_] ?_
                        refine qpu_ 37 (some 167) #[o_,o_,o_,o_,o_,o_,o_,o_,o_,o_,o_,o_,o_,o_,o_,o_,o_,o_,o_,o_,o_,o_,o_,o_,o_,o_,o_,o_,o_,o_,o_,o_,o_,o_,o_,o_,o_,o_,i_] ?_
                        refine qpu_ 38 (some 7) #[o_,o_,o_,o_,o_,o_,o_,o_,o_,o_,o_,o_,o_,o_,o_,o_,o_,o_,o_,o_,o_,o_,o_,o_,o_,o_,o_,o_,o_,o_,o_,o_,o_,o_,o_,o_,o_,o_,o_] ?_
                        refine a3o (a3b HT_.out (by kernel_rfl)) ?_
                        try go_wp2
                        go_roundg k4
                        case measure => have := HK1.out; have := HJ16.out; have := HK3.out; have := HK4.out; omega
                        case rel => exact ⟨(t319), (wrap64 (x16_3 + ((a0a t301 x98_3).f3))), (wrap64 (x98_3 + 1)), qs_, qs_, qs_, H', ⟨by have := HK1.out; have := HJ16.out; have := HK3.out; have := HK4.out; omega⟩, ⟨by (with_reducible repeat (first | apply Kd.a0n | apply Kd.a0o | apply Kd.a0m)); exact Kd.a0z HO_8.out (fun _ hk => trivial)⟩, ⟨by (with_reducible repeat (first | apply Kd.a0n | apply Kd.a0o | apply Kd.a0m)); exact Kd.a0z HO_96.out (fun _ hk => trivial)⟩, ⟨qb_⟩⟩
                       ·rw [if_neg c72] at H
                        exact absurd H (by simp)
                      ·rw [if_neg c71] at H
                       exact absurd H (by simp)
                    ·rw [if_neg c66] at H
                     have c66b0 : (x98_3 == (wrap64 ((t301.length : Int) - 1))) = false := beq_eq_false_iff_ne.mpr c66
                     have c66b1 : (x98_3 != (wrap64 ((t301.length : Int) - 1))) = true := bne_iff_ne.mpr c66
                     by_cases c77 : ((a0a t301 x98_3).f3) = x20_4
                     ·rw [if_pos c77] at H
                      have c77b0 : (((a0a t301 x98_3).f3) == x20_4) = true := beq_iff_eq.mpr c77
                      have c77b1 : (((a0a t301 x98_3).f3) != x20_4) = false := bne_eq_false_iff_eq.mpr c77
                      clear c77
                      by_cases c78 : x98_3 = 0
                      ·rw [if_pos c78] at H
                       have c78b0 : (x98_3 == 0) = true := beq_iff_eq.mpr c78
                       have c78b1 : (x98_3 != 0) = false := bne_eq_false_iff_eq.mpr c78
                       clear c78
                       have H' := am_ H
                       clear H
                       obtain ⟨z'79_0, z'79_1, z'79_2, z'79_3, z'79_4, z'79_5⟩ := qz6_ BK317; obtain ⟨y'79_0, y'79_1, y'79_2, y'79_3, y'79_4, y'79_5⟩ := qf6_ BK317
                       try go_wp2
                       replace HO_8 := am_ (Kd.a0m HO_8.out)
                       replace HO_96 := am_ (Kd.a0m HO_96.out)
                       replace BK317 := am_ (bd_ BK317.out)
                       replace HB := am_ (ld_ HB.out)
                       refine a3g (n := 39) (S := fun w' => w'.cell? ⟨gb317, 0, none⟩ = some (.int .i64 ((a0a t301 x98_3).f0)) ∧ w'.cell? ⟨gb317, 1, none⟩ = some (.int .i64 ((a0a t301 x98_3).f1)) ∧ w'.cell? ⟨gb317, 2, none⟩ = some (.int .i64 ((a0a t301 x98_3).f2)) ∧ w'.cell? ⟨gb317, 3, none⟩ = some (.int .i64 ((a0a t301 x98_3).f3)) ∧ w'.cell? ⟨gb317, 4, none⟩ = some (.int .i64 ((a0a t301 x98_3).f4.f0)) ∧ w'.cell? ⟨gb317, 5, none⟩ = some (.int .i64 ((a0a t301 x98_3).f4.f1))) (ds := []) #[i_,i_,i_,i_,i_,i_,i_,i_,i_,i_,i_,i_,i_,i_,i_,i_,i_,i_,i_,i_,i_,i_,i_,i_,i_,i_,i_,i_,i_,i_,i_,i_,i_,i_,i_,i_,i_,i_,i_] (by kernel_rfl) rfl rfl ⟨(bc_ BK317.out 0).trans rfl, (bc_ BK317.out 1).trans rfl, (bc_ BK317.out 2).trans rfl, (bc_ BK317.out 3).trans rfl, (bc_ BK317.out 4).trans rfl, (bc_ BK317.out 5).trans rfl⟩ (fun hHeld => ?_); refine a2l a0d.a6p a0d.a5s (fun HT_ HW_ => ?_)
                       generalize wr.drew = w80 at HO_8 HO_96 BK317 HB hHeld ⊢
                       refine qpu_ 0 (some 130) #[o_,i_,i_,i_,i_,i_,i_,i_,i_,i_,i_,i_,i_,i_,i_,i_,i_,i_,i_,i_,i_,i_,i_,i_,i_,i_,i_,i_,i_,i_,i_,i_,i_,i_,i_,i_,i_,i_,i_] ?_
                       refine qpu_ 1 (some 131) #[o_,o_,i_,i_,i_,i_,i_,i_,i_,i_,i_,i_,i_,i_,i_,i_,i_,i_,i_,i_,i_,i_,i_,i_,i_,i_,i_,i_,i_,i_,i_,i_,i_,i_,i_,i_,i_,i_,i_] ?_
                       refine qpu_ 2 (some 132) #[o_,o_,o_,i_,i_,i_,i_,i_,i_,i_,i_,i_,i_,i_,i_,i_,i_,i_,i_,i_,i_,i_,i_,i_,i_,i_,i_,i_,i_,i_,i_,i_,i_,i_,i_,i_,i_,i_,i_] ?_
                       refine a2g (i := 3) (N := some 133) (v := ?_) (a' := ?_) #[o_,o_,o_,o_,i_,i_,i_,i_,i_,i_,i_,i_,i_,i_,i_,i_,i_,i_,i_,i_,i_,i_,i_,i_,i_,i_,i_,i_,i_,i_,i_,i_,i_,i_,i_,i_,i_,i_,i_] rfl rfl (a1r HT_.out HW_.out (by kernel_rfl)) (fun _ _ _ h => h) (Or.inl ⟨by rfl, ?_⟩) hHeld ?_ ?_
                       rotate_left
                       ·rintro w' ⟨s0, s1, s2, s3, s4, s5⟩
                        go_simp
                        with_reducible rfl
                       rotate_left
                       ·exact qp_
                       refine qpu_ 4 (some 134) #[o_,o_,o_,o_,o_,i_,i_,i_,i_,i_,i_,i_,i_,i_,i_,i_,i_,i_,i_,i_,i_,i_,i_,i_,i_,i_,i_,i_,i_,i_,i_,i_,i_,i_,i_,i_,i_,i_,i_] ?_
                       refine qpu_ 5 (some 135) #[o_,o_,o_,o_,o_,o_,i_,i_,i_,i_,i_,i_,i_,i_,i_,i_,i_,i_,i_,i_,i_,i_,i_,i_,i_,i_,i_,i_,i_,i_,i_,i_,i_,i_,i_,i_,i_,i_,i_] ?_
                       refine qpu_ 6 (some 136) #[o_,o_,o_,o_,o_,o_,o_,i_,i_,i_,i_,i_,i_,i_,i_,i_,i_,i_,i_,i_,i_,i_,i_,i_,i_,i_,i_,i_,i_,i_,i_,i_,i_,i_,i_,i_,i_,i_,i_] ?_
                       refine qpu_ 7 (some 137) #[o_,o_,o_,o_,o_,o_,o_,o_,i_,i_,i_,i_,i_,i_,i_,i_,i_,i_,i_,i_,i_,i_,i_,i_,i_,i_,i_,i_,i_,i_,i_,i_,i_,i_,i_,i_,i_,i_,i_] ?_
                       refine qpu_ 9 (some 139) #[o_,o_,o_,o_,o_,o_,o_,o_,i_,o_,i_,i_,i_,i_,i_,i_,i_,i_,i_,i_,i_,i_,i_,i_,i_,i_,i_,i_,i_,i_,i_,i_,i_,i_,i_,i_,i_,i_,i_] ?_
                       refine a2g (i := 8) (N := some 138) (v := ?_) (a' := ?_) #[o_,o_,o_,o_,o_,o_,o_,o_,o_,o_,i_,i_,i_,i_,i_,i_,i_,i_,i_,i_,i_,i_,i_,i_,i_,i_,i_,i_,i_,i_,i_,i_,i_,i_,i_,i_,i_,i_,i_] rfl rfl (a1r HT_.out HW_.out (by kernel_rfl)) (fun _ _ _ h => h) (Or.inl ⟨by rfl, ?_⟩) hHeld ?_ ?_
                       rotate_left
                       ·rintro w' ⟨s0, s1, s2, s3, s4, s5⟩
                        go_simp
                        with_reducible rfl
                       rotate_left
                       ·exact qp_
                       refine qpu_ 10 (some 140) #[o_,o_,o_,o_,o_,o_,o_,o_,o_,o_,o_,i_,i_,i_,i_,i_,i_,i_,i_,i_,i_,i_,i_,i_,i_,i_,i_,i_,i_,i_,i_,i_,i_,i_,i_,i_,i_,i_,i_] ?_
                       refine qpu_ 11 (some 141) #[o_,o_,o_,o_,o_,o_,o_,o_,o_,o_,o_,o_,i_,i_,i_,i_,i_,i_,i_,i_,i_,i_,i_,i_,i_,i_,i_,i_,i_,i_,i_,i_,i_,i_,i_,i_,i_,i_,i_] ?_
                       refine qpu_ 12 (some 142) #[o_,o_,o_,o_,o_,o_,o_,o_,o_,o_,o_,o_,o_,i_,i_,i_,i_,i_,i_,i_,i_,i_,i_,i_,i_,i_,i_,i_,i_,i_,i_,i_,i_,i_,i_,i_,i_,i_,i_] ?_
                       refine qpu_ 13 (some 143) #[o_,o_,o_,o_,o_,o_,o_,o_,o_,o_,o_,o_,o_,o_,i_,i_,i_,i_,i_,i_,i_,i_,i_,i_,i_,i_,i_,i_,i_,i_,i_,i_,i_,i_,i_,i_,i_,i_,i_] ?_
                       refine qpu_ 14 (some 144) #[o_,o_,o_,o_,o_,o_,o_,o_,o_,o_,o_,o_,o_,o_,o_,i_,i_,i_,i_,i_,i_,i_,i_,i_,i_,i_,i_,i_,i_,i_,i_,i_,i_,i_,i_,i_,i_,i_,i_] ?_
                       refine qpu_ 15 (some 145) #[o_,o_,o_,o_,o_,o_,o_,o_,o_,o_,o_,o_,o_,o_,o_,o_,i_,i_,i_,i_,i_,i_,i_,i_,i_,i_,i_,i_,i_,i_,i_,i_,i_,i_,i_,i_,i_,i_,i_] ?_
                       refine qpu_ 16 (some 146) #[o_,o_,o_,o_,o_,o_,o_,o_,o_,o_,o_,o_,o_,o_,o_,o_,o_,i_,i_,i_,i_,i_,i_,i_,i_,i_,i_,i_,i_,i_,i_,i_,i_,i_,i_,i_,i_,i_,i_] ?_
                       refine qpu_ 17 (some 147) #[o_,o_,o_,o_,o_,o_,o_,o_,o_,o_,o_,o_,o_,o_,o_,o_,o_,o_,i_,i_,i_,i_,i_,i_,i_,i_,i_,i_,i_,i_,i_,i_,i_,i_,i_,i_,i_,i_,i_] ?_
                       refine qpu_ 18 (some 148) #[o_,o_,o_,o_,o_,o_,o_,o_,o_,o_,o_,o_,o_,o_,o_,o_,o_,o_,o_,i_,i_,i_,i_,i_,i_,i_,i_,i_,i_,i_,i_,i_,i_,i_,i_,i_,i_,i_,i_] ?_
                       refine qpu_ 19 (some 149) #[o_,o_,o_,o_,o_,o_,o_,o_,o_,o_,o_,o_,o_,o_,o_,o_,o_,o_,o_,o_,i_,i_,i_,i_,i_,i_,i_,i_,i_,i_,i_,i_,i_,i_,i_,i_,i_,i_,i_] ?_
                       refine qpu_ 21 (some 151) #[o_,o_,o_,o_,o_,o_,o_,o_,o_,o_,o_,o_,o_,o_,o_,o_,o_,o_,o_,o_,i_,o_,i_,i_,i_,i_,i_,i_,i_,i_,i_,i_,i_,i_,i_,i_,i_,i_,i_] ?_
                       refine a2g (i := 20) (N := some 150) (v := ?_) (a' := ?_) #[o_,o_,o_,o_,o_,o_,o_,o_,o_,o_,o_,o_,o_,o_,o_,o_,o_,o_,o_,o_,o_,o_,i_,i_,i_,i_,i_,i_,i_,i_,i_,i_,i_,i_,i_,i_,i_,i_,i_] rfl rfl (a1r HT_.out HW_.out (by kernel_rfl)) (fun _ _ _ h => h) (Or.inl ⟨by rfl, ?_⟩) hHeld ?_ ?_
                       rotate_left
                       ·rintro w' ⟨s0, s1, s2, s3, s4, s5⟩
                        go_simp
                        with_reducible rfl
                       rotate_left
                       ·exact qp_
                       refine qpu_ 22 (some 152) #[o_,o_,o_,o_,o_,o_,o_,o_,o_,o_,o_,o_,o_,o_,o_,o_,o_,o_,o_,o_,o_,o_,o_,i_,i_,i_,i_,i_,i_,i_,i_,i_,i_,i_,i_,i_,i_,i_,i_] ?_
                       refine qpu_ 23 (some 153) #[o_,o_,o_,o_,o_,o_,o_,o_,o_,o_,o_,o_,o_,o_,o_,o_,o_,o_,o_,o_,o_,o_,o_,o_,i_,i_,i_,i_,i_,i_,i_,i_,i_,i_,i_,i_,i_,i_,i_] ?_
                       refine qpu_ 24 (some 154) #[o_,o_,o_,o_,o_,o_,o_,o_,o_,o_,o_,o_,o_,o_,o_,o_,o_,o_,o_,o_,o_,o_,o_,o_,o_,i_,i_,i_,i_,i_,i_,i_,i_,i_,i_,i_,i_,i_,i_] ?_
                       refine qpu_ 25 (some 155) #[o_,o_,o_,o_,o_,o_,o_,o_,o_,o_,o_,o_,o_,o_,o_,o_,o_,o_,o_,o_,o_,o_,o_,o_,o_,o_,i_,i_,i_,i_,i_,i_,i_,i_,i_,i_,i_,i_,i_] ?_
                       refine qpu_ 26 (some 156) #[o_,o_,o_,o_,o_,o_,o_,o_,o_,o_,o_,o_,o_,o_,o_,o_,o_,o_,o_,o_,o_,o_,o_,o_,o_,o_,o_,i_,i_,i_,i_,i_,i_,i_,i_,i_,i_,i_,i_] ?_
                       refine qpu_ 27 (some 157) #[o_,o_,o_,o_,o_,o_,o_,o_,o_,o_,o_,o_,o_,o_,o_,o_,o_,o_,o_,o_,o_,o_,o_,o_,o_,o_,o_,o_,i_,i_,i_,i_,i_,i_,i_,i_,i_,i_,i_] ?_
                       refine qpu_ 28 (some 158) #[o_,o_,o_,o_,o_,o_,o_,o_,o_,o_,o_,o_,o_,o_,o_,o_,o_,o_,o_,o_,o_,o_,o_,o_,o_,o_,o_,o_,o_,i_,i_,i_,i_,i_,i_,i_,i_,i_,i_] ?_
                       refine qpv_ 29 (some 159) #[o_,o_,o_,o_,o_,o_,o_,o_,o_,o_,o_,o_,o_,o_,o_,o_,o_,o_,o_,o_,o_,o_,o_,o_,o_,o_,o_,o_,o_,o_,i_,i_,i_,i_,i_,i_,i_,i_,i_] ?_
                       refine qpv_ 30 (some 160) #[o_,o_,o_,o_,o_,o_,o_,o_,o_,o_,o_,o_,o_,o_,o_,o_,o_,o_,o_,o_,o_,o_,o_,o_,o_,o_,o_,o_,o_,o_,o_,i_,i_,i_,i_,i_,i_,i_,i_] ?_
                       refine qpv_ 31 (some 161) #[o_,o_,o_,o_,o_,o_,o_,o_,o_,o_,o_,o_,o_,o_,o_,o_,o_,o_,o_,o_,o_,o_,o_,o_,o_,o_,o_,o_,o_,o_,o_,o_,i_,i_,i_,i_,i_,i_,i_] ?_
                       refine qpv_ 32 (some 162) #[o_,o_,o_,o_,o_,o_,o_,o_,o_,o_,o_,o_,o_,o_,o_,o_,o_,o_,o_,o_,o_,o_,o_,o_,o_,o_,o_,o_,o_,o_,o_,o_,o_,i_,i_,i_,i_,i_,i_] ?_
                       refine qpv_ 33 (some 163) #[o_,o_,o_,o_,o_,o_,o_,o_,o_,o_,o_,o_,o_,o_,o_,o_,o_,o_,o_,o_,o_,o_,o_,o_,o_,o_,o_,o_,o_,o_,o_,o_,o_,o_,i_,i_,i_,i_,i_] ?_
                       refine qpv_ 34 (some 164) #[o_,o_,o_,o_,o_,o_,o_,o_,o_,o_,o_,o_,o_,o_,o_,o_,o_,o_,o_,o_,o_,o_,o_,o_,o_,o_,o_,o_,o_,o_,o_,o_,o_,o_,o_,i_,i_,i_,i_] ?_
                       refine qpv_ 35 (some 165) #[o_,o_,o_,o_,o_,o_,o_,o_,o_,o_,o_,o_,o_,o_,o_,o_,o_,o_,o_,o_,o_,o_,o_,o_,o_,o_,o_,o_,o_,o_,o_,o_,o_,o_,o_,o_,i_,i_,i_] ?_
                       refine qpu_ 36 (some 166) #[o_,o_,o_,o_,o_,o_,o_,o_,o_,o_,o_,o_,o_,o_,o_,o_,o_,o_,o_,o_,o_,o_,o_,o_,o_,o_,o_,o_,o_,o_,o_,o_,o_,o_,o_,o_,o_,i_,i_] ?_
                       refine qpu_ 37 (some 167) #[o_,o_,o_,o_,o_,o_,o_,o_,o_,o_,o_,o_,o_,o_,o_,o_,o_,o_,o_,o_,o_,o_,o_,o_,o_,o_,o_,o_,o_,o_,o_,o_,o_,o_,o_,o_,o_,o_,i_] ?_
                       refine qpu_ 38 (some 7) #[o_,o_,o_,o_,o_,o_,o_,o_,o_,o_,o_,o_,o_,o_,o_,o_,o_,o_,o_,o_,o_,o_,o_,o_,o_,o_,o_,o_,o_,o_,o_,o_,o_,o_,o_,o_,o_,o_,o_] ?_
                       refine a3o (a3b HT_.out (by kernel_rfl)) ?_
                       try go_wp2
                       go_roundg k4
                       case measure => have := HK1.out; have := HJ16.out; have := HK3.out; have := HK4.out; omega
                       case rel => exact ⟨(true), (wrap64 (x16_3 + ((a0a t301 x98_3).f3))), (wrap64 (x98_3 + 1)), qs_, qs_, qs_, H', ⟨by have := HK1.out; have := HJ16.out; have := HK3.out; have := HK4.out; omega⟩, ⟨by (with_reducible repeat (first | apply Kd.a0n | apply Kd.a0o | apply Kd.a0m)); exact Kd.a0z HO_8.out (fun _ hk => trivial)⟩, ⟨by (with_reducible repeat (first | apply Kd.a0n | apply Kd.a0o | apply Kd.a0m)); exact Kd.a0z HO_96.out (fun _ hk => trivial)⟩, ⟨qb_⟩⟩
                      ·rw [if_neg c78] at H
                       have c78b0 : (x98_3 == 0) = false := beq_eq_false_iff_ne.mpr c78
                       have c78b1 : (x98_3 != 0) = true := bne_iff_ne.mpr c78
                       obtain ⟨ji81, hji81⟩ : ∃ j_ : Int, (wrap64 (x98_3 - 1)) = j_ := ⟨_, rfl⟩
                       replace H : (if 0 ≤ (ji81) then (if (ji81) < (t301.length : Int) then ((a2e.f ((a0a t301 (ji81)).f0) ((a0a t301 (ji81)).f1) ((a0a t301 (ji81)).f2) ((a0a t301 (ji81)).f3) ((a0a t301 (ji81)).f4.f0) ((a0a t301 (ji81)).f4.f1) ((a0a t301 x98_3).f0) ((a0a t301 x98_3).f1) ((a0a t301 x98_3).f2) ((a0a t301 x98_3).f3) ((a0a t301 x98_3).f4.f0) ((a0a t301 x98_3).f4.f1)).bind fun t321 => (a0d.l1 k4 l0 l1 a2 t321 t301 t302 (wrap64 (x16_3 + ((a0a t301 x98_3).f3))) 0 t301 (t301.length : Int) (wrap64 (x98_3 + 1)))) else (none)) else (none)) = some r := by first | (rw [hji81] at H; exact H) | (simp only [hji81] at H ⊢; exact H)
                       have hji81w : (IntKind.i64.wrap (x98_3 - 1)) = ji81 := (a3k _).trans hji81
                       by_cases c82 : 0 ≤ (ji81)
                       ·rw [if_pos c82] at H
                        have c82b0 : decide (0 ≤ (ji81)) = true := decide_eq_true c82
                        clear c82
                        by_cases c83 : (ji81) < (t301.length : Int)
                        ·rw [if_pos c83] at H
                         have c83b0 : decide ((ji81) < (t301.length : Int)) = true := decide_eq_true c83
                         clear c83
                         replace H := bm_ H
                         obtain ⟨t321, A840, H⟩ := H
                         replace H : (a0d.l1 k4 l0 l1 a2 t321 t301 t302 (wrap64 (x16_3 + ((a0a t301 x98_3).f3))) 0 t301 (t301.length : Int) (wrap64 (x98_3 + 1))) = some r := H
                         have A84 := am_ A840
                         clear A840
                         have H' := am_ H
                         clear H
                         obtain ⟨z'85_0, z'85_1, z'85_2, z'85_3, z'85_4, z'85_5⟩ := qz6_ BK317; obtain ⟨y'85_0, y'85_1, y'85_2, y'85_3, y'85_4, y'85_5⟩ := qf6_ BK317
                         try go_wp2
                         replace HO_8 := am_ (Kd.a0m HO_8.out)
                         replace HO_96 := am_ (Kd.a0m HO_96.out)
                         replace BK317 := am_ (bd_ BK317.out)
                         replace HB := am_ (ld_ HB.out)
                         have p320 : 0 ≤ ((ji81) : Int) := ot_
                         have q320 : (ji81) < (t301.length : Int) := ot_
                         obtain ⟨ad320, e320, hx320_0, hx320_1, hx320_2, hx320_3, hx320_4, hx320_5⟩ := a3q (Kd.a0p HO_8.out).2.2 (ji81) p320 q320
                         obtain rfl : ad316 = ad320 := (by injection e320)
                         replace p320 := eq_true p320
                         replace q320 := eq_true q320
                         refine a3g (n := 39) (S := fun w' => w'.cell? ⟨gb317, 0, none⟩ = some (.int .i64 ((a0a t301 x98_3).f0)) ∧ w'.cell? ⟨gb317, 1, none⟩ = some (.int .i64 ((a0a t301 x98_3).f1)) ∧ w'.cell? ⟨gb317, 2, none⟩ = some (.int .i64 ((a0a t301 x98_3).f2)) ∧ w'.cell? ⟨gb317, 3, none⟩ = some (.int .i64 ((a0a t301 x98_3).f3)) ∧ w'.cell? ⟨gb317, 4, none⟩ = some (.int .i64 ((a0a t301 x98_3).f4.f0)) ∧ w'.cell? ⟨gb317, 5, none⟩ = some (.int .i64 ((a0a t301 x98_3).f4.f1)) ∧ w'.cell? (ad316.add (((ji81)).toNat * 6)) = some (.int .i64 ((a0a t301 (ji81)).f0)) ∧ w'.cell? ⟨(ad316.add (((ji81)).toNat * 6)).block, (ad316.add (((ji81)).toNat * 6)).off + 1, none⟩ = some (.int .i64 ((a0a t301 (ji81)).f1)) ∧ w'.cell? ⟨(ad316.add (((ji81)).toNat * 6)).block, (ad316.add (((ji81)).toNat * 6)).off + 2, none⟩ = some (.int .i64 ((a0a t301 (ji81)).f2)) ∧ w'.cell? ⟨(ad316.add (((ji81)).toNat * 6)).block, (ad316.add (((ji81)).toNat * 6)).off + 3, none⟩ = some (.int .i64 ((a0a t301 (ji81)).f3)) ∧ w'.cell? ⟨(ad316.add (((ji81)).toNat * 6)).block, (ad316.add (((ji81)).toNat * 6)).off + 4, none⟩ = some (.int .i64 ((a0a t301 (ji81)).f4.f0)) ∧ w'.cell? ⟨(ad316.add (((ji81)).toNat * 6)).block, (ad316.add (((ji81)).toNat * 6)).off + 5, none⟩ = some (.int .i64 ((a0a t301 (ji81)).f4.f1))) (ds := []) #[i_,i_,i_,i_,i_,i_,i_,i_,i_,i_,i_,i_,i_,i_,i_,i_,i_,i_,i_,i_,i_,i_,i_,i_,i_,i_,i_,i_,i_,i_,i_,i_,i_,i_,i_,i_,i_,i_,i_] (by kernel_rfl) rfl rfl ⟨(bc_ BK317.out 0).trans rfl, (bc_ BK317.out 1).trans rfl, (bc_ BK317.out 2).trans rfl, (bc_ BK317.out 3).trans rfl, (bc_ BK317.out 4).trans rfl, (bc_ BK317.out 5).trans rfl, hx320_0, hx320_1, hx320_2, hx320_3, hx320_4, hx320_5⟩ (fun hHeld => ?_); refine a2l a0d.a6p a0d.a5s (fun HT_ HW_ => ?_)
                         generalize wr.drew = w86 at HO_8 HO_96 BK317 HB hx320_0 hx320_1 hx320_2 hx320_3 hx320_4 hx320_5 hHeld ⊢
                         refine qpu_ 0 (some 130) #[o_,i_,i_,i_,i_,i_,i_,i_,i_,i_,i_,i_,i_,i_,i_,i_,i_,i_,i_,i_,i_,i_,i_,i_,i_,i_,i_,i_,i_,i_,i_,i_,i_,i_,i_,i_,i_,i_,i_] ?_
                         refine qpu_ 1 (some 131) #[o_,o_,i_,i_,i_,i_,i_,i_,i_,i_,i_,i_,i_,i_,i_,i_,i_,i_,i_,i_,i_,i_,i_,i_,i_,i_,i_,i_,i_,i_,i_,i_,i_,i_,i_,i_,i_,i_,i_] ?_
                         refine qpu_ 2 (some 132) #[o_,o_,o_,i_,i_,i_,i_,i_,i_,i_,i_,i_,i_,i_,i_,i_,i_,i_,i_,i_,i_,i_,i_,i_,i_,i_,i_,i_,i_,i_,i_,i_,i_,i_,i_,i_,i_,i_,i_] ?_
                         refine a2g (i := 3) (N := some 133) (v := ?_) (a' := ?_) #[o_,o_,o_,o_,i_,i_,i_,i_,i_,i_,i_,i_,i_,i_,i_,i_,i_,i_,i_,i_,i_,i_,i_,i_,i_,i_,i_,i_,i_,i_,i_,i_,i_,i_,i_,i_,i_,i_,i_] rfl rfl (a1r HT_.out HW_.out (by kernel_rfl)) (fun _ _ _ h => h) (Or.inl ⟨by rfl, ?_⟩) hHeld ?_ ?_
                         rotate_left
                         ·rintro w' ⟨s0, s1, s2, s3, s4, s5, s6, s7, s8, s9, s10, s11⟩
                          go_simp
                          with_reducible rfl
                         rotate_left
                         ·exact qp_
                         refine qpu_ 4 (some 134) #[o_,o_,o_,o_,o_,i_,i_,i_,i_,i_,i_,i_,i_,i_,i_,i_,i_,i_,i_,i_,i_,i_,i_,i_,i_,i_,i_,i_,i_,i_,i_,i_,i_,i_,i_,i_,i_,i_,i_] ?_
                         refine qpu_ 5 (some 135) #[o_,o_,o_,o_,o_,o_,i_,i_,i_,i_,i_,i_,i_,i_,i_,i_,i_,i_,i_,i_,i_,i_,i_,i_,i_,i_,i_,i_,i_,i_,i_,i_,i_,i_,i_,i_,i_,i_,i_] ?_
                         refine qpu_ 6 (some 136) #[o_,o_,o_,o_,o_,o_,o_,i_,i_,i_,i_,i_,i_,i_,i_,i_,i_,i_,i_,i_,i_,i_,i_,i_,i_,i_,i_,i_,i_,i_,i_,i_,i_,i_,i_,i_,i_,i_,i_] ?_
                         refine qpu_ 7 (some 137) #[o_,o_,o_,o_,o_,o_,o_,o_,i_,i_,i_,i_,i_,i_,i_,i_,i_,i_,i_,i_,i_,i_,i_,i_,i_,i_,i_,i_,i_,i_,i_,i_,i_,i_,i_,i_,i_,i_,i_] ?_
                         refine qpu_ 9 (some 139) #[o_,o_,o_,o_,o_,o_,o_,o_,i_,o_,i_,i_,i_,i_,i_,i_,i_,i_,i_,i_,i_,i_,i_,i_,i_,i_,i_,i_,i_,i_,i_,i_,i_,i_,i_,i_,i_,i_,i_] ?_
                         refine a2g (i := 8) (N := some 138) (v := ?_) (a' := ?_) #[o_,o_,o_,o_,o_,o_,o_,o_,o_,o_,i_,i_,i_,i_,i_,i_,i_,i_,i_,i_,i_,i_,i_,i_,i_,i_,i_,i_,i_,i_,i_,i_,i_,i_,i_,i_,i_,i_,i_] rfl rfl (a1r HT_.out HW_.out (by kernel_rfl)) (fun _ _ _ h => h) (Or.inl ⟨by rfl, ?_⟩) hHeld ?_ ?_
                         rotate_left
                         ·rintro w' ⟨s0, s1, s2, s3, s4, s5, s6, s7, s8, s9, s10, s11⟩
                          go_simp
                          with_reducible rfl
                         rotate_left
                         ·exact qp_
                         refine qpu_ 10 (some 140) #[o_,o_,o_,o_,o_,o_,o_,o_,o_,o_,o_,i_,i_,i_,i_,i_,i_,i_,i_,i_,i_,i_,i_,i_,i_,i_,i_,i_,i_,i_,i_,i_,i_,i_,i_,i_,i_,i_,i_] ?_
                         refine qpu_ 11 (some 141) #[o_,o_,o_,o_,o_,o_,o_,o_,o_,o_,o_,o_,i_,i_,i_,i_,i_,i_,i_,i_,i_,i_,i_,i_,i_,i_,i_,i_,i_,i_,i_,i_,i_,i_,i_,i_,i_,i_,i_] ?_
                         refine qpu_ 12 (some 142) #[o_,o_,o_,o_,o_,o_,o_,o_,o_,o_,o_,o_,o_,i_,i_,i_,i_,i_,i_,i_,i_,i_,i_,i_,i_,i_,i_,i_,i_,i_,i_,i_,i_,i_,i_,i_,i_,i_,i_] ?_
                         refine qpu_ 13 (some 143) #[o_,o_,o_,o_,o_,o_,o_,o_,o_,o_,o_,o_,o_,o_,i_,i_,i_,i_,i_,i_,i_,i_,i_,i_,i_,i_,i_,i_,i_,i_,i_,i_,i_,i_,i_,i_,i_,i_,i_] ?_
                         refine qpu_ 14 (some 144) #[o_,o_,o_,o_,o_,o_,o_,o_,o_,o_,o_,o_,o_,o_,o_,i_,i_,i_,i_,i_,i_,i_,i_,i_,i_,i_,i_,i_,i_,i_,i_,i_,i_,i_,i_,i_,i_,i_,i_] ?_
                         refine qpu_ 15 (some 145) #[o_,o_,o_,o_,o_,o_,o_,o_,o_,o_,o_,o_,o_,o_,o_,o_,i_,i_,i_,i_,i_,i_,i_,i_,i_,i_,i_,i_,i_,i_,i_,i_,i_,i_,i_,i_,i_,i_,i_] ?_
                         refine qpu_ 16 (some 146) #[o_,o_,o_,o_,o_,o_,o_,o_,o_,o_,o_,o_,o_,o_,o_,o_,o_,i_,i_,i_,i_,i_,i_,i_,i_,i_,i_,i_,i_,i_,i_,i_,i_,i_,i_,i_,i_,i_,i_] ?_
                         refine qpu_ 17 (some 147) #[o_,o_,o_,o_,o_,o_,o_,o_,o_,o_,o_,o_,o_,o_,o_,o_,o_,o_,i_,i_,i_,i_,i_,i_,i_,i_,i_,i_,i_,i_,i_,i_,i_,i_,i_,i_,i_,i_,i_] ?_
                         refine qpu_ 18 (some 148) #[o_,o_,o_,o_,o_,o_,o_,o_,o_,o_,o_,o_,o_,o_,o_,o_,o_,o_,o_,i_,i_,i_,i_,i_,i_,i_,i_,i_,i_,i_,i_,i_,i_,i_,i_,i_,i_,i_,i_] ?_
                         refine qpu_ 19 (some 149) #[o_,o_,o_,o_,o_,o_,o_,o_,o_,o_,o_,o_,o_,o_,o_,o_,o_,o_,o_,o_,i_,i_,i_,i_,i_,i_,i_,i_,i_,i_,i_,i_,i_,i_,i_,i_,i_,i_,i_] ?_
                         refine qpu_ 21 (some 151) #[o_,o_,o_,o_,o_,o_,o_,o_,o_,o_,o_,o_,o_,o_,o_,o_,o_,o_,o_,o_,i_,o_,i_,i_,i_,i_,i_,i_,i_,i_,i_,i_,i_,i_,i_,i_,i_,i_,i_] ?_
                         refine a2g (i := 20) (N := some 150) (v := ?_) (a' := ?_) #[o_,o_,o_,o_,o_,o_,o_,o_,o_,o_,o_,o_,o_,o_,o_,o_,o_,o_,o_,o_,o_,o_,i_,i_,i_,i_,i_,i_,i_,i_,i_,i_,i_,i_,i_,i_,i_,i_,i_] rfl rfl (a1r HT_.out HW_.out (by kernel_rfl)) (fun _ _ _ h => h) (Or.inl ⟨by rfl, ?_⟩) hHeld ?_ ?_
                         rotate_left
                         ·rintro w' ⟨s0, s1, s2, s3, s4, s5, s6, s7, s8, s9, s10, s11⟩
                          go_simp
                          with_reducible rfl
                         rotate_left
                         ·exact qp_
                         refine qpu_ 22 (some 152) #[o_,o_,o_,o_,o_,o_,o_,o_,o_,o_,o_,o_,o_,o_,o_,o_,o_,o_,o_,o_,o_,o_,o_,i_,i_,i_,i_,i_,i_,i_,i_,i_,i_,i_,i_,i_,i_,i_,i_] ?_
                         refine qpu_ 23 (some 153) #[o_,o_,o_,o_,o_,o_,o_,o_,o_,o_,o_,o_,o_,o_,o_,o_,o_,o_,o_,o_,o_,o_,o_,o_,i_,i_,i_,i_,i_,i_,i_,i_,i_,i_,i_,i_,i_,i_,i_] ?_
                         refine qpu_ 24 (some 154) #[o_,o_,o_,o_,o_,o_,o_,o_,o_,o_,o_,o_,o_,o_,o_,o_,o_,o_,o_,o_,o_,o_,o_,o_,o_,i_,i_,i_,i_,i_,i_,i_,i_,i_,i_,i_,i_,i_,i_] ?_
                         refine qpu_ 25 (some 155) #[o_,o_,o_,o_,o_,o_,o_,o_,o_,o_,o_,o_,o_,o_,o_,o_,o_,o_,o_,o_,o_,o_,o_,o_,o_,o_,i_,i_,i_,i_,i_,i_,i_,i_,i_,i_,i_,i_,i_] ?_
                         refine qpu_ 26 (some 156) #[o_,o_,o_,o_,o_,o_,o_,o_,o_,o_,o_,o_,o_,o_,o_,o_,o_,o_,o_,o_,o_,o_,o_,o_,o_,o_,o_,i_,i_,i_,i_,i_,i_,i_,i_,i_,i_,i_,i_] ?_
                         refine qpu_ 27 (some 157) #[o_,o_,o_,o_,o_,o_,o_,o_,o_,o_,o_,o_,o_,o_,o_,o_,o_,o_,o_,o_,o_,o_,o_,o_,o_,o_,o_,o_,i_,i_,i_,i_,i_,i_,i_,i_,i_,i_,i_] ?_
                         refine qpu_ 28 (some 158) #[o_,o_,o_,o_,o_,o_,o_,o_,o_,o_,o_,o_,o_,o_,o_,o_,o_,o_,o_,o_,o_,o_,o_,o_,o_,o_,o_,o_,o_,i_,i_,i_,i_,i_,i_,i_,i_,i_,i_] ?_
                         refine qpu_ 29 (some 159) #[o_,o_,o_,o_,o_,o_,o_,o_,o_,o_,o_,o_,o_,o_,o_,o_,o_,o_,o_,o_,o_,o_,o_,o_,o_,o_,o_,o_,o_,o_,i_,i_,i_,i_,i_,i_,i_,i_,i_] ?_
                         refine qpu_ 30 (some 160) #[o_,o_,o_,o_,o_,o_,o_,o_,o_,o_,o_,o_,o_,o_,o_,o_,o_,o_,o_,o_,o_,o_,o_,o_,o_,o_,o_,o_,o_,o_,o_,i_,i_,i_,i_,i_,i_,i_,i_] ?_
                         refine qpu_ 31 (some 161) #[o_,o_,o_,o_,o_,o_,o_,o_,o_,o_,o_,o_,o_,o_,o_,o_,o_,o_,o_,o_,o_,o_,o_,o_,o_,o_,o_,o_,o_,o_,o_,o_,i_,i_,i_,i_,i_,i_,i_] ?_
                         refine qpu_ 32 (some 162) #[o_,o_,o_,o_,o_,o_,o_,o_,o_,o_,o_,o_,o_,o_,o_,o_,o_,o_,o_,o_,o_,o_,o_,o_,o_,o_,o_,o_,o_,o_,o_,o_,o_,i_,i_,i_,i_,i_,i_] ?_
                         refine a2g (i := 33) (N := some 163) (v := ?_) (a' := ?_) #[o_,o_,o_,o_,o_,o_,o_,o_,o_,o_,o_,o_,o_,o_,o_,o_,o_,o_,o_,o_,o_,o_,o_,o_,o_,o_,o_,o_,o_,o_,o_,o_,o_,o_,i_,i_,i_,i_,i_] rfl rfl (a1r HT_.out HW_.out (by kernel_rfl)) (fun _ _ _ h => h) (Or.inl ⟨by rfl, ?_⟩) hHeld ?_ ?_
                         rotate_left
                         ·rintro w' ⟨s0, s1, s2, s3, s4, s5, s6, s7, s8, s9, s10, s11⟩
                          go_simp
                          with_reducible rfl
                         rotate_left
                         ·exact qp_
                         refine a2g (i := 34) (N := some 164) (v := ?_) (a' := ?_) #[o_,o_,o_,o_,o_,o_,o_,o_,o_,o_,o_,o_,o_,o_,o_,o_,o_,o_,o_,o_,o_,o_,o_,o_,o_,o_,o_,o_,o_,o_,o_,o_,o_,o_,o_,i_,i_,i_,i_] rfl rfl (a1r HT_.out HW_.out (by kernel_rfl)) (fun _ _ _ h => h) (Or.inl ⟨by rfl, ?_⟩) hHeld ?_ ?_
                         rotate_left
                         ·rintro w' ⟨s0, s1, s2, s3, s4, s5, s6, s7, s8, s9, s10, s11⟩
                          go_simp
                          with_reducible rfl
                         rotate_left
                         ·exact qp_
                         refine one_ (i := 35) (N := some 165) #[o_,o_,o_,o_,o_,o_,o_,o_,o_,o_,o_,o_,o_,o_,o_,o_,o_,o_,o_,o_,o_,o_,o_,o_,o_,o_,o_,o_,o_,o_,o_,o_,o_,o_,o_,o_,i_,i_,i_] rfl rfl (a3h HT_.out (by kernel_rfl)) (by decide) (fun K hK => ?_)
                         refine a5g Try.func14 (by kernel_rfl) rfl #[.agg #[.int .i64 ((a0a t301 (ji81)).f0), .int .i64 ((a0a t301 (ji81)).f1), .int .i64 ((a0a t301 (ji81)).f2), .int .i64 ((a0a t301 (ji81)).f3), .int .i64 ((a0a t301 (ji81)).f4.f0), .int .i64 ((a0a t301 (ji81)).f4.f1)], .agg #[.int .i64 ((a0a t301 x98_3).f0), .int .i64 ((a0a t301 x98_3).f1), .int .i64 ((a0a t301 x98_3).f2), .int .i64 ((a0a t301 x98_3).f3), .int .i64 ((a0a t301 x98_3).f4.f0), .int .i64 ((a0a t301 x98_3).f4.f1)]] (by rfl) rfl rfl (by (try simp only [List.map_toArray, List.map_cons, List.map_nil]); first | done | (simp only [hji81]; rfl) | rfl | (simp only [List.length_drop, List.length_take]; rfl)) ?_
                         with_reducible refine (a2e.calls ((a0a t301 (ji81)).f0) ((a0a t301 (ji81)).f1) ((a0a t301 (ji81)).f2) ((a0a t301 (ji81)).f3) ((a0a t301 (ji81)).f4.f0) ((a0a t301 (ji81)).f4.f1) ((a0a t301 x98_3).f0) ((a0a t301 x98_3).f1) ((a0a t301 x98_3).f2) ((a0a t301 x98_3).f3) ((a0a t301 x98_3).f4.f0) ((a0a t301 x98_3).f4.f1) t321 _ A84.out).mono ?_
                         rintro e w87 ⟨rfl, hb⟩
                         have HS6_ := (hb.cell (World.block_lt_of_cell? _ _ (hHeld.2.2.2.2.2.2.1))).trans (hHeld.2.2.2.2.2.2.1)
                         have HS7_ := (hb.cell (World.block_lt_of_cell? _ _ (hHeld.2.2.2.2.2.2.2.1))).trans (hHeld.2.2.2.2.2.2.2.1)
                         have HS8_ := (hb.cell (World.block_lt_of_cell? _ _ (hHeld.2.2.2.2.2.2.2.2.1))).trans (hHeld.2.2.2.2.2.2.2.2.1)
                         have HS9_ := (hb.cell (World.block_lt_of_cell? _ _ (hHeld.2.2.2.2.2.2.2.2.2.1))).trans (hHeld.2.2.2.2.2.2.2.2.2.1)
                         have HS10_ := (hb.cell (World.block_lt_of_cell? _ _ (hHeld.2.2.2.2.2.2.2.2.2.2.1))).trans (hHeld.2.2.2.2.2.2.2.2.2.2.1)
                         have HS11_ := (hb.cell (World.block_lt_of_cell? _ _ (hHeld.2.2.2.2.2.2.2.2.2.2.2))).trans (hHeld.2.2.2.2.2.2.2.2.2.2.2)
                         refine ⟨_, rfl, ?_⟩
                         replace HO_8 := qrb_ HO_8 hb
                         replace HO_96 := qrb_ HO_96 hb
                         replace BK317 := qkb_ BK317 hb
                         replace HB := qbs_ hb
                         (try clear hb)
                         (try clear hb2)
                         (try clear hk)
                         (try clear hi)
                         refine hK.out _ _ ⟨(bc_ BK317.out 0).trans rfl, (bc_ BK317.out 1).trans rfl, (bc_ BK317.out 2).trans rfl, (bc_ BK317.out 3).trans rfl, (bc_ BK317.out 4).trans rfl, (bc_ BK317.out 5).trans rfl, HS6_, HS7_, HS8_, HS9_, HS10_, HS11_⟩ (fun hHeld => ?_)
                         clear hK K
                         refine a4b (a' := ?_) ?_ ?_
                         rotate_left
                         ·show Act.put _ (some 165) _ = _
                          exact qp_
                         refine qpu_ 36 (some 166) #[o_,o_,o_,o_,o_,o_,o_,o_,o_,o_,o_,o_,o_,o_,o_,o_,o_,o_,o_,o_,o_,o_,o_,o_,o_,o_,o_,o_,o_,o_,o_,o_,o_,o_,o_,o_,o_,i_,i_] ?_
                         refine qpu_ 37 (some 167) #[o_,o_,o_,o_,o_,o_,o_,o_,o_,o_,o_,o_,o_,o_,o_,o_,o_,o_,o_,o_,o_,o_,o_,o_,o_,o_,o_,o_,o_,o_,o_,o_,o_,o_,o_,o_,o_,o_,i_] ?_
                         refine qpu_ 38 (some 7) #[o_,o_,o_,o_,o_,o_,o_,o_,o_,o_,o_,o_,o_,o_,o_,o_,o_,o_,o_,o_,o_,o_,o_,o_,o_,o_,o_,o_,o_,o_,o_,o_,o_,o_,o_,o_,o_,o_,o_] ?_
                         refine a3o (a3b HT_.out (by kernel_rfl)) ?_
                         try go_wp2
                         go_roundg k4
                         case measure => have := HK1.out; have := HJ16.out; have := HK3.out; have := HK4.out; omega
                         case rel => exact ⟨(t321), (wrap64 (x16_3 + ((a0a t301 x98_3).f3))), (wrap64 (x98_3 + 1)), qs_, qs_, qs_, H', ⟨by have := HK1.out; have := HJ16.out; have := HK3.out; have := HK4.out; omega⟩, ⟨by (with_reducible repeat (first | apply Kd.a0n | apply Kd.a0o | apply Kd.a0m)); exact Kd.a0z HO_8.out (fun _ hk => trivial)⟩, ⟨by (with_reducible repeat (first | apply Kd.a0n | apply Kd.a0o | apply Kd.a0m)); exact Kd.a0z HO_96.out (fun _ hk => trivial)⟩, ⟨qb_⟩⟩
                        ·rw [if_neg c83] at H
                         exact absurd H (by simp)
                       ·rw [if_neg c82] at H
                        exact absurd H (by simp)
                     ·rw [if_neg c77] at H
                      have c77b0 : (((a0a t301 x98_3).f3) == x20_4) = false := beq_eq_false_iff_ne.mpr c77
                      have c77b1 : (((a0a t301 x98_3).f3) != x20_4) = true := bne_iff_ne.mpr c77
                      have H' := am_ H
                      clear H
                      obtain ⟨z'88_0, z'88_1, z'88_2, z'88_3, z'88_4, z'88_5⟩ := qz6_ BK317; obtain ⟨y'88_0, y'88_1, y'88_2, y'88_3, y'88_4, y'88_5⟩ := qf6_ BK317
                      try go_wp2
                      replace HO_8 := am_ (Kd.a0m HO_8.out)
                      replace HO_96 := am_ (Kd.a0m HO_96.out)
                      replace BK317 := am_ (bd_ BK317.out)
                      replace HB := am_ (ld_ HB.out)
                      refine a3g (n := 39) (S := fun w' => w'.cell? ⟨gb317, 0, none⟩ = some (.int .i64 ((a0a t301 x98_3).f0)) ∧ w'.cell? ⟨gb317, 1, none⟩ = some (.int .i64 ((a0a t301 x98_3).f1)) ∧ w'.cell? ⟨gb317, 2, none⟩ = some (.int .i64 ((a0a t301 x98_3).f2)) ∧ w'.cell? ⟨gb317, 3, none⟩ = some (.int .i64 ((a0a t301 x98_3).f3)) ∧ w'.cell? ⟨gb317, 4, none⟩ = some (.int .i64 ((a0a t301 x98_3).f4.f0)) ∧ w'.cell? ⟨gb317, 5, none⟩ = some (.int .i64 ((a0a t301 x98_3).f4.f1))) (ds := []) #[i_,i_,i_,i_,i_,i_,i_,i_,i_,i_,i_,i_,i_,i_,i_,i_,i_,i_,i_,i_,i_,i_,i_,i_,i_,i_,i_,i_,i_,i_,i_,i_,i_,i_,i_,i_,i_,i_,i_] (by kernel_rfl) rfl rfl ⟨(bc_ BK317.out 0).trans rfl, (bc_ BK317.out 1).trans rfl, (bc_ BK317.out 2).trans rfl, (bc_ BK317.out 3).trans rfl, (bc_ BK317.out 4).trans rfl, (bc_ BK317.out 5).trans rfl⟩ (fun hHeld => ?_); refine a2l a0d.a6p a0d.a5s (fun HT_ HW_ => ?_)
                      generalize wr.drew = w89 at HO_8 HO_96 BK317 HB hHeld ⊢
                      refine qpu_ 0 (some 130) #[o_,i_,i_,i_,i_,i_,i_,i_,i_,i_,i_,i_,i_,i_,i_,i_,i_,i_,i_,i_,i_,i_,i_,i_,i_,i_,i_,i_,i_,i_,i_,i_,i_,i_,i_,i_,i_,i_,i_] ?_
                      refine qpu_ 1 (some 131) #[o_,o_,i_,i_,i_,i_,i_,i_,i_,i_,i_,i_,i_,i_,i_,i_,i_,i_,i_,i_,i_,i_,i_,i_,i_,i_,i_,i_,i_,i_,i_,i_,i_,i_,i_,i_,i_,i_,i_] ?_
                      refine qpu_ 2 (some 132) #[o_,o_,o_,i_,i_,i_,i_,i_,i_,i_,i_,i_,i_,i_,i_,i_,i_,i_,i_,i_,i_,i_,i_,i_,i_,i_,i_,i_,i_,i_,i_,i_,i_,i_,i_,i_,i_,i_,i_] ?_
                      refine a2g (i := 3) (N := some 133) (v := ?_) (a' := ?_) #[o_,o_,o_,o_,i_,i_,i_,i_,i_,i_,i_,i_,i_,i_,i_,i_,i_,i_,i_,i_,i_,i_,i_,i_,i_,i_,i_,i_,i_,i_,i_,i_,i_,i_,i_,i_,i_,i_,i_] rfl rfl (a1r HT_.out HW_.out (by kernel_rfl)) (fun _ _ _ h => h) (Or.inl ⟨by rfl, ?_⟩) hHeld ?_ ?_
                      rotate_left
                      ·rintro w' ⟨s0, s1, s2, s3, s4, s5⟩
                       go_simp
                       with_reducible rfl
                      rotate_left
                      ·exact qp_
                      refine qpu_ 4 (some 134) #[o_,o_,o_,o_,o_,i_,i_,i_,i_,i_,i_,i_,i_,i_,i_,i_,i_,i_,i_,i_,i_,i_,i_,i_,i_,i_,i_,i_,i_,i_,i_,i_,i_,i_,i_,i_,i_,i_,i_] ?_
                      refine qpu_ 5 (some 135) #[o_,o_,o_,o_,o_,o_,i_,i_,i_,i_,i_,i_,i_,i_,i_,i_,i_,i_,i_,i_,i_,i_,i_,i_,i_,i_,i_,i_,i_,i_,i_,i_,i_,i_,i_,i_,i_,i_,i_] ?_
                      refine qpu_ 6 (some 136) #[o_,o_,o_,o_,o_,o_,o_,i_,i_,i_,i_,i_,i_,i_,i_,i_,i_,i_,i_,i_,i_,i_,i_,i_,i_,i_,i_,i_,i_,i_,i_,i_,i_,i_,i_,i_,i_,i_,i_] ?_
                      refine qpu_ 7 (some 137) #[o_,o_,o_,o_,o_,o_,o_,o_,i_,i_,i_,i_,i_,i_,i_,i_,i_,i_,i_,i_,i_,i_,i_,i_,i_,i_,i_,i_,i_,i_,i_,i_,i_,i_,i_,i_,i_,i_,i_] ?_
                      refine qpu_ 9 (some 139) #[o_,o_,o_,o_,o_,o_,o_,o_,i_,o_,i_,i_,i_,i_,i_,i_,i_,i_,i_,i_,i_,i_,i_,i_,i_,i_,i_,i_,i_,i_,i_,i_,i_,i_,i_,i_,i_,i_,i_] ?_
                      refine a2g (i := 8) (N := some 138) (v := ?_) (a' := ?_) #[o_,o_,o_,o_,o_,o_,o_,o_,o_,o_,i_,i_,i_,i_,i_,i_,i_,i_,i_,i_,i_,i_,i_,i_,i_,i_,i_,i_,i_,i_,i_,i_,i_,i_,i_,i_,i_,i_,i_] rfl rfl (a1r HT_.out HW_.out (by kernel_rfl)) (fun _ _ _ h => h) (Or.inl ⟨by rfl, ?_⟩) hHeld ?_ ?_
                      rotate_left
                      ·rintro w' ⟨s0, s1, s2, s3, s4, s5⟩
                       go_simp
                       with_reducible rfl
                      rotate_left
                      ·exact qp_
                      refine qpu_ 10 (some 140) #[o_,o_,o_,o_,o_,o_,o_,o_,o_,o_,o_,i_,i_,i_,i_,i_,i_,i_,i_,i_,i_,i_,i_,i_,i_,i_,i_,i_,i_,i_,i_,i_,i_,i_,i_,i_,i_,i_,i_] ?_
                      refine qpu_ 11 (some 141) #[o_,o_,o_,o_,o_,o_,o_,o_,o_,o_,o_,o_,i_,i_,i_,i_,i_,i_,i_,i_,i_,i_,i_,i_,i_,i_,i_,i_,i_,i_,i_,i_,i_,i_,i_,i_,i_,i_,i_] ?_
                      refine qpu_ 12 (some 142) #[o_,o_,o_,o_,o_,o_,o_,o_,o_,o_,o_,o_,o_,i_,i_,i_,i_,i_,i_,i_,i_,i_,i_,i_,i_,i_,i_,i_,i_,i_,i_,i_,i_,i_,i_,i_,i_,i_,i_] ?_
                      refine qpu_ 13 (some 143) #[o_,o_,o_,o_,o_,o_,o_,o_,o_,o_,o_,o_,o_,o_,i_,i_,i_,i_,i_,i_,i_,i_,i_,i_,i_,i_,i_,i_,i_,i_,i_,i_,i_,i_,i_,i_,i_,i_,i_] ?_
                      refine qpu_ 14 (some 144) #[o_,o_,o_,o_,o_,o_,o_,o_,o_,o_,o_,o_,o_,o_,o_,i_,i_,i_,i_,i_,i_,i_,i_,i_,i_,i_,i_,i_,i_,i_,i_,i_,i_,i_,i_,i_,i_,i_,i_] ?_
                      refine qpu_ 15 (some 145) #[o_,o_,o_,o_,o_,o_,o_,o_,o_,o_,o_,o_,o_,o_,o_,o_,i_,i_,i_,i_,i_,i_,i_,i_,i_,i_,i_,i_,i_,i_,i_,i_,i_,i_,i_,i_,i_,i_,i_] ?_
                      refine qpu_ 16 (some 146) #[o_,o_,o_,o_,o_,o_,o_,o_,o_,o_,o_,o_,o_,o_,o_,o_,o_,i_,i_,i_,i_,i_,i_,i_,i_,i_,i_,i_,i_,i_,i_,i_,i_,i_,i_,i_,i_,i_,i_] ?_
                      refine qpu_ 17 (some 147) #[o_,o_,o_,o_,o_,o_,o_,o_,o_,o_,o_,o_,o_,o_,o_,o_,o_,o_,i_,i_,i_,i_,i_,i_,i_,i_,i_,i_,i_,i_,i_,i_,i_,i_,i_,i_,i_,i_,i_] ?_
                      refine qpu_ 18 (some 148) #[o_,o_,o_,o_,o_,o_,o_,o_,o_,o_,o_,o_,o_,o_,o_,o_,o_,o_,o_,i_,i_,i_,i_,i_,i_,i_,i_,i_,i_,i_,i_,i_,i_,i_,i_,i_,i_,i_,i_] ?_
                      refine qpu_ 19 (some 149) #[o_,o_,o_,o_,o_,o_,o_,o_,o_,o_,o_,o_,o_,o_,o_,o_,o_,o_,o_,o_,i_,i_,i_,i_,i_,i_,i_,i_,i_,i_,i_,i_,i_,i_,i_,i_,i_,i_,i_] ?_
                      refine qpu_ 21 (some 151) #[o_,o_,o_,o_,o_,o_,o_,o_,o_,o_,o_,o_,o_,o_,o_,o_,o_,o_,o_,o_,i_,o_,i_,i_,i_,i_,i_,i_,i_,i_,i_,i_,i_,i_,i_,i_,i_,i_,i_] ?_
                      refine a2g (i := 20) (N := some 150) (v := ?_) (a' := ?_) #[o_,o_,o_,o_,o_,o_,o_,o_,o_,o_,o_,o_,o_,o_,o_,o_,o_,o_,o_,o_,o_,o_,i_,i_,i_,i_,i_,i_,i_,i_,i_,i_,i_,i_,i_,i_,i_,i_,i_] rfl rfl (a1r HT_.out HW_.out (by kernel_rfl)) (fun _ _ _ h => h) (Or.inl ⟨by rfl, ?_⟩) hHeld ?_ ?_
                      rotate_left
                      ·rintro w' ⟨s0, s1, s2, s3, s4, s5⟩
                       go_simp
                       with_reducible rfl
                      rotate_left
                      ·exact qp_
                      refine qpu_ 22 (some 152) #[o_,o_,o_,o_,o_,o_,o_,o_,o_,o_,o_,o_,o_,o_,o_,o_,o_,o_,o_,o_,o_,o_,o_,i_,i_,i_,i_,i_,i_,i_,i_,i_,i_,i_,i_,i_,i_,i_,i_] ?_
                      refine qpu_ 23 (some 153) #[o_,o_,o_,o_,o_,o_,o_,o_,o_,o_,o_,o_,o_,o_,o_,o_,o_,o_,o_,o_,o_,o_,o_,o_,i_,i_,i_,i_,i_,i_,i_,i_,i_,i_,i_,i_,i_,i_,i_] ?_
                      refine qpu_ 24 (some 154) #[o_,o_,o_,o_,o_,o_,o_,o_,o_,o_,o_,o_,o_,o_,o_,o_,o_,o_,o_,o_,o_,o_,o_,o_,o_,i_,i_,i_,i_,i_,i_,i_,i_,i_,i_,i_,i_,i_,i_] ?_
                      refine qpu_ 25 (some 155) #[o_,o_,o_,o_,o_,o_,o_,o_,o_,o_,o_,o_,o_,o_,o_,o_,o_,o_,o_,o_,o_,o_,o_,o_,o_,o_,i_,i_,i_,i_,i_,i_,i_,i_,i_,i_,i_,i_,i_] ?_
                      refine qpv_ 26 (some 156) #[o_,o_,o_,o_,o_,o_,o_,o_,o_,o_,o_,o_,o_,o_,o_,o_,o_,o_,o_,o_,o_,o_,o_,o_,o_,o_,o_,i_,i_,i_,i_,i_,i_,i_,i_,i_,i_,i_,i_] ?_
                      refine qpv_ 27 (some 157) #[o_,o_,o_,o_,o_,o_,o_,o_,o_,o_,o_,o_,o_,o_,o_,o_,o_,o_,o_,o_,o_,o_,o_,o_,o_,o_,o_,o_,i_,i_,i_,i_,i_,i_,i_,i_,i_,i_,i_] ?_
                      refine qpv_ 28 (some 158) #[o_,o_,o_,o_,o_,o_,o_,o_,o_,o_,o_,o_,o_,o_,o_,o_,o_,o_,o_,o_,o_,o_,o_,o_,o_,o_,o_,o_,o_,i_,i_,i_,i_,i_,i_,i_,i_,i_,i_] ?_
                      refine qpv_ 29 (some 159) #[o_,o_,o_,o_,o_,o_,o_,o_,o_,o_,o_,o_,o_,o_,o_,o_,o_,o_,o_,o_,o_,o_,o_,o_,o_,o_,o_,o_,o_,o_,i_,i_,i_,i_,i_,i_,i_,i_,i_] ?_
                      refine qpv_ 30 (some 160) #[o_,o_,o_,o_,o_,o_,o_,o_,o_,o_,o_,o_,o_,o_,o_,o_,o_,o_,o_,o_,o_,o_,o_,o_,o_,o_,o_,o_,o_,o_,o_,i_,i_,i_,i_,i_,i_,i_,i_] ?_
                      refine qpv_ 31 (some 161) #[o_,o_,o_,o_,o_,o_,o_,o_,o_,o_,o_,o_,o_,o_,o_,o_,o_,o_,o_,o_,o_,o_,o_,o_,o_,o_,o_,o_,o_,o_,o_,o_,i_,i_,i_,i_,i_,i_,i_] ?_
                      refine qpv_ 32 (some 162) #[o_,o_,o_,o_,o_,o_,o_,o_,o_,o_,o_,o_,o_,o_,o_,o_,o_,o_,o_,o_,o_,o_,o_,o_,o_,o_,o_,o_,o_,o_,o_,o_,o_,i_,i_,i_,i_,i_,i_] ?_
                      refine qpv_ 33 (some 163) #[o_,o_,o_,o_,o_,o_,o_,o_,o_,o_,o_,o_,o_,o_,o_,o_,o_,o_,o_,o_,o_,o_,o_,o_,o_,o_,o_,o_,o_,o_,o_,o_,o_,o_,i_,i_,i_,i_,i_] ?_
                      refine qpv_ 34 (some 164) #[o_,o_,o_,o_,o_,o_,o_,o_,o_,o_,o_,o_,o_,o_,o_,o_,o_,o_,o_,o_,o_,o_,o_,o_,o_,o_,o_,o_,o_,o_,o_,o_,o_,o_,o_,i_,i_,i_,i_] ?_
                      refine qpv_ 35 (some 165) #[o_,o_,o_,o_,o_,o_,o_,o_,o_,o_,o_,o_,o_,o_,o_,o_,o_,o_,o_,o_,o_,o_,o_,o_,o_,o_,o_,o_,o_,o_,o_,o_,o_,o_,o_,o_,i_,i_,i_] ?_
                      refine qpv_ 36 (some 166) #[o_,o_,o_,o_,o_,o_,o_,o_,o_,o_,o_,o_,o_,o_,o_,o_,o_,o_,o_,o_,o_,o_,o_,o_,o_,o_,o_,o_,o_,o_,o_,o_,o_,o_,o_,o_,o_,i_,i_] ?_
                      refine qpu_ 37 (some 167) #[o_,o_,o_,o_,o_,o_,o_,o_,o_,o_,o_,o_,o_,o_,o_,o_,o_,o_,o_,o_,o_,o_,o_,o_,o_,o_,o_,o_,o_,o_,o_,o_,o_,o_,o_,o_,o_,o_,i_] ?_
                      refine qpu_ 38 (some 7) #[o_,o_,o_,o_,o_,o_,o_,o_,o_,o_,o_,o_,o_,o_,o_,o_,o_,o_,o_,o_,o_,o_,o_,o_,o_,o_,o_,o_,o_,o_,o_,o_,o_,o_,o_,o_,o_,o_,o_] ?_
                      refine a3o (a3b HT_.out (by kernel_rfl)) ?_
                      try go_wp2
                      go_roundg k4
                      case measure => have := HK1.out; have := HJ16.out; have := HK3.out; have := HK4.out; omega
                      case rel => exact ⟨(false), (wrap64 (x16_3 + ((a0a t301 x98_3).f3))), (wrap64 (x98_3 + 1)), qs_, qs_, qs_, H', ⟨by have := HK1.out; have := HJ16.out; have := HK3.out; have := HK4.out; omega⟩, ⟨by (with_reducible repeat (first | apply Kd.a0n | apply Kd.a0o | apply Kd.a0m)); exact Kd.a0z HO_8.out (fun _ hk => trivial)⟩, ⟨by (with_reducible repeat (first | apply Kd.a0n | apply Kd.a0o | apply Kd.a0m)); exact Kd.a0z HO_96.out (fun _ hk => trivial)⟩, ⟨qb_⟩⟩
                   ·rw [if_neg c65] at H
                    have c65b0 : decide (((a0a t301 x98_3).f3) ≤ x20_4) = false := decide_eq_false c65
                    clear c65
                    have H' := am_ H
                    clear H
                    obtain ⟨z'90_0, z'90_1, z'90_2, z'90_3, z'90_4, z'90_5⟩ := qz6_ BK317; obtain ⟨y'90_0, y'90_1, y'90_2, y'90_3, y'90_4, y'90_5⟩ := qf6_ BK317
                    try go_wp2
                    replace HO_8 := am_ (Kd.a0m HO_8.out)
                    replace HO_96 := am_ (Kd.a0m HO_96.out)
                    replace BK317 := am_ (bd_ BK317.out)
                    replace HB := am_ (ld_ HB.out)
                    refine a3g (n := 39) (S := fun w' => w'.cell? ⟨gb317, 0, none⟩ = some (.int .i64 ((a0a t301 x98_3).f0)) ∧ w'.cell? ⟨gb317, 1, none⟩ = some (.int .i64 ((a0a t301 x98_3).f1)) ∧ w'.cell? ⟨gb317, 2, none⟩ = some (.int .i64 ((a0a t301 x98_3).f2)) ∧ w'.cell? ⟨gb317, 3, none⟩ = some (.int .i64 ((a0a t301 x98_3).f3)) ∧ w'.cell? ⟨gb317, 4, none⟩ = some (.int .i64 ((a0a t301 x98_3).f4.f0)) ∧ w'.cell? ⟨gb317, 5, none⟩ = some (.int .i64 ((a0a t301 x98_3).f4.f1))) (ds := []) #[i_,i_,i_,i_,i_,i_,i_,i_,i_,i_,i_,i_,i_,i_,i_,i_,i_,i_,i_,i_,i_,i_,i_,i_,i_,i_,i_,i_,i_,i_,i_,i_,i_,i_,i_,i_,i_,i_,i_] (by kernel_rfl) rfl rfl ⟨(bc_ BK317.out 0).trans rfl, (bc_ BK317.out 1).trans rfl, (bc_ BK317.out 2).trans rfl, (bc_ BK317.out 3).trans rfl, (bc_ BK317.out 4).trans rfl, (bc_ BK317.out 5).trans rfl⟩ (fun hHeld => ?_); refine a2l a0d.a6p a0d.a5s (fun HT_ HW_ => ?_)
                    generalize wr.drew = w91 at HO_8 HO_96 BK317 HB hHeld ⊢
                    refine qpu_ 0 (some 130) #[o_,i_,i_,i_,i_,i_,i_,i_,i_,i_,i_,i_,i_,i_,i_,i_,i_,i_,i_,i_,i_,i_,i_,i_,i_,i_,i_,i_,i_,i_,i_,i_,i_,i_,i_,i_,i_,i_,i_] ?_
                    refine qpu_ 1 (some 131) #[o_,o_,i_,i_,i_,i_,i_,i_,i_,i_,i_,i_,i_,i_,i_,i_,i_,i_,i_,i_,i_,i_,i_,i_,i_,i_,i_,i_,i_,i_,i_,i_,i_,i_,i_,i_,i_,i_,i_] ?_
                    refine qpu_ 2 (some 132) #[o_,o_,o_,i_,i_,i_,i_,i_,i_,i_,i_,i_,i_,i_,i_,i_,i_,i_,i_,i_,i_,i_,i_,i_,i_,i_,i_,i_,i_,i_,i_,i_,i_,i_,i_,i_,i_,i_,i_] ?_
                    refine a2g (i := 3) (N := some 133) (v := ?_) (a' := ?_) #[o_,o_,o_,o_,i_,i_,i_,i_,i_,i_,i_,i_,i_,i_,i_,i_,i_,i_,i_,i_,i_,i_,i_,i_,i_,i_,i_,i_,i_,i_,i_,i_,i_,i_,i_,i_,i_,i_,i_] rfl rfl (a1r HT_.out HW_.out (by kernel_rfl)) (fun _ _ _ h => h) (Or.inl ⟨by rfl, ?_⟩) hHeld ?_ ?_
                    rotate_left
                    ·rintro w' ⟨s0, s1, s2, s3, s4, s5⟩
                     go_simp
                     with_reducible rfl
                    rotate_left
                    ·exact qp_
                    refine qpu_ 4 (some 134) #[o_,o_,o_,o_,o_,i_,i_,i_,i_,i_,i_,i_,i_,i_,i_,i_,i_,i_,i_,i_,i_,i_,i_,i_,i_,i_,i_,i_,i_,i_,i_,i_,i_,i_,i_,i_,i_,i_,i_] ?_
                    refine qpu_ 5 (some 135) #[o_,o_,o_,o_,o_,o_,i_,i_,i_,i_,i_,i_,i_,i_,i_,i_,i_,i_,i_,i_,i_,i_,i_,i_,i_,i_,i_,i_,i_,i_,i_,i_,i_,i_,i_,i_,i_,i_,i_] ?_
                    refine qpu_ 6 (some 136) #[o_,o_,o_,o_,o_,o_,o_,i_,i_,i_,i_,i_,i_,i_,i_,i_,i_,i_,i_,i_,i_,i_,i_,i_,i_,i_,i_,i_,i_,i_,i_,i_,i_,i_,i_,i_,i_,i_,i_] ?_
                    refine qpu_ 7 (some 137) #[o_,o_,o_,o_,o_,o_,o_,o_,i_,i_,i_,i_,i_,i_,i_,i_,i_,i_,i_,i_,i_,i_,i_,i_,i_,i_,i_,i_,i_,i_,i_,i_,i_,i_,i_,i_,i_,i_,i_] ?_
                    refine qpu_ 9 (some 139) #[o_,o_,o_,o_,o_,o_,o_,o_,i_,o_,i_,i_,i_,i_,i_,i_,i_,i_,i_,i_,i_,i_,i_,i_,i_,i_,i_,i_,i_,i_,i_,i_,i_,i_,i_,i_,i_,i_,i_] ?_
                    refine a2g (i := 8) (N := some 138) (v := ?_) (a' := ?_) #[o_,o_,o_,o_,o_,o_,o_,o_,o_,o_,i_,i_,i_,i_,i_,i_,i_,i_,i_,i_,i_,i_,i_,i_,i_,i_,i_,i_,i_,i_,i_,i_,i_,i_,i_,i_,i_,i_,i_] rfl rfl (a1r HT_.out HW_.out (by kernel_rfl)) (fun _ _ _ h => h) (Or.inl ⟨by rfl, ?_⟩) hHeld ?_ ?_
                    rotate_left
                    ·rintro w' ⟨s0, s1, s2, s3, s4, s5⟩
                     go_simp
                     with_reducible rfl
                    rotate_left
                    ·exact qp_
                    refine qpu_ 10 (some 140) #[o_,o_,o_,o_,o_,o_,o_,o_,o_,o_,o_,i_,i_,i_,i_,i_,i_,i_,i_,i_,i_,i_,i_,i_,i_,i_,i_,i_,i_,i_,i_,i_,i_,i_,i_,i_,i_,i_,i_] ?_
                    refine qpu_ 11 (some 141) #[o_,o_,o_,o_,o_,o_,o_,o_,o_,o_,o_,o_,i_,i_,i_,i_,i_,i_,i_,i_,i_,i_,i_,i_,i_,i_,i_,i_,i_,i_,i_,i_,i_,i_,i_,i_,i_,i_,i_] ?_
                    refine qpu_ 12 (some 142) #[o_,o_,o_,o_,o_,o_,o_,o_,o_,o_,o_,o_,o_,i_,i_,i_,i_,i_,i_,i_,i_,i_,i_,i_,i_,i_,i_,i_,i_,i_,i_,i_,i_,i_,i_,i_,i_,i_,i_] ?_
                    refine qpv_ 13 (some 143) #[o_,o_,o_,o_,o_,o_,o_,o_,o_,o_,o_,o_,o_,o_,i_,i_,i_,i_,i_,i_,i_,i_,i_,i_,i_,i_,i_,i_,i_,i_,i_,i_,i_,i_,i_,i_,i_,i_,i_] ?_
                    refine qpv_ 14 (some 144) #[o_,o_,o_,o_,o_,o_,o_,o_,o_,o_,o_,o_,o_,o_,o_,i_,i_,i_,i_,i_,i_,i_,i_,i_,i_,i_,i_,i_,i_,i_,i_,i_,i_,i_,i_,i_,i_,i_,i_] ?_
                    refine qpv_ 15 (some 145) #[o_,o_,o_,o_,o_,o_,o_,o_,o_,o_,o_,o_,o_,o_,o_,o_,i_,i_,i_,i_,i_,i_,i_,i_,i_,i_,i_,i_,i_,i_,i_,i_,i_,i_,i_,i_,i_,i_,i_] ?_
                    refine qpv_ 16 (some 146) #[o_,o_,o_,o_,o_,o_,o_,o_,o_,o_,o_,o_,o_,o_,o_,o_,o_,i_,i_,i_,i_,i_,i_,i_,i_,i_,i_,i_,i_,i_,i_,i_,i_,i_,i_,i_,i_,i_,i_] ?_
                    refine qpv_ 17 (some 147) #[o_,o_,o_,o_,o_,o_,o_,o_,o_,o_,o_,o_,o_,o_,o_,o_,o_,o_,i_,i_,i_,i_,i_,i_,i_,i_,i_,i_,i_,i_,i_,i_,i_,i_,i_,i_,i_,i_,i_] ?_
                    refine qpv_ 18 (some 148) #[o_,o_,o_,o_,o_,o_,o_,o_,o_,o_,o_,o_,o_,o_,o_,o_,o_,o_,o_,i_,i_,i_,i_,i_,i_,i_,i_,i_,i_,i_,i_,i_,i_,i_,i_,i_,i_,i_,i_] ?_
                    refine qpv_ 19 (some 149) #[o_,o_,o_,o_,o_,o_,o_,o_,o_,o_,o_,o_,o_,o_,o_,o_,o_,o_,o_,o_,i_,i_,i_,i_,i_,i_,i_,i_,i_,i_,i_,i_,i_,i_,i_,i_,i_,i_,i_] ?_
                    refine qpv_ 20 (some 150) #[o_,o_,o_,o_,o_,o_,o_,o_,o_,o_,o_,o_,o_,o_,o_,o_,o_,o_,o_,o_,o_,i_,i_,i_,i_,i_,i_,i_,i_,i_,i_,i_,i_,i_,i_,i_,i_,i_,i_] ?_
                    refine qpv_ 21 (some 151) #[o_,o_,o_,o_,o_,o_,o_,o_,o_,o_,o_,o_,o_,o_,o_,o_,o_,o_,o_,o_,o_,o_,i_,i_,i_,i_,i_,i_,i_,i_,i_,i_,i_,i_,i_,i_,i_,i_,i_] ?_
                    refine qpv_ 22 (some 152) #[o_,o_,o_,o_,o_,o_,o_,o_,o_,o_,o_,o_,o_,o_,o_,o_,o_,o_,o_,o_,o_,o_,o_,i_,i_,i_,i_,i_,i_,i_,i_,i_,i_,i_,i_,i_,i_,i_,i_] ?_
                    refine qpv_ 23 (some 153) #[o_,o_,o_,o_,o_,o_,o_,o_,o_,o_,o_,o_,o_,o_,o_,o_,o_,o_,o_,o_,o_,o_,o_,o_,i_,i_,i_,i_,i_,i_,i_,i_,i_,i_,i_,i_,i_,i_,i_] ?_
                    refine qpu_ 24 (some 154) #[o_,o_,o_,o_,o_,o_,o_,o_,o_,o_,o_,o_,o_,o_,o_,o_,o_,o_,o_,o_,o_,o_,o_,o_,o_,i_,i_,i_,i_,i_,i_,i_,i_,i_,i_,i_,i_,i_,i_] ?_
                    refine qpu_ 25 (some 155) #[o_,o_,o_,o_,o_,o_,o_,o_,o_,o_,o_,o_,o_,o_,o_,o_,o_,o_,o_,o_,o_,o_,o_,o_,o_,o_,i_,i_,i_,i_,i_,i_,i_,i_,i_,i_,i_,i_,i_] ?_
                    refine qpv_ 26 (some 156) #[o_,o_,o_,o_,o_,o_,o_,o_,o_,o_,o_,o_,o_,o_,o_,o_,o_,o_,o_,o_,o_,o_,o_,o_,o_,o_,o_,i_,i_,i_,i_,i_,i_,i_,i_,i_,i_,i_,i_] ?_
                    refine qpv_ 27 (some 157) #[o_,o_,o_,o_,o_,o_,o_,o_,o_,o_,o_,o_,o_,o_,o_,o_,o_,o_,o_,o_,o_,o_,o_,o_,o_,o_,o_,o_,i_,i_,i_,i_,i_,i_,i_,i_,i_,i_,i_] ?_
                    refine qpv_ 28 (some 158) #[o_,o_,o_,o_,o_,o_,o_,o_,o_,o_,o_,o_,o_,o_,o_,o_,o_,o_,o_,o_,o_,o_,o_,o_,o_,o_,o_,o_,o_,i_,i_,i_,i_,i_,i_,i_,i_,i_,i_] ?_
                    refine qpv_ 29 (some 159) #[o_,o_,o_,o_,o_,o_,o_,o_,o_,o_,o_,o_,o_,o_,o_,o_,o_,o_,o_,o_,o_,o_,o_,o_,o_,o_,o_,o_,o_,o_,i_,i_,i_,i_,i_,i_,i_,i_,i_] ?_
                    refine qpv_ 30 (some 160) #[o_,o_,o_,o_,o_,o_,o_,o_,o_,o_,o_,o_,o_,o_,o_,o_,o_,o_,o_,o_,o_,o_,o_,o_,o_,o_,o_,o_,o_,o_,o_,i_,i_,i_,i_,i_,i_,i_,i_] ?_
                    refine qpv_ 31 (some 161) #[o_,o_,o_,o_,o_,o_,o_,o_,o_,o_,o_,o_,o_,o_,o_,o_,o_,o_,o_,o_,o_,o_,o_,o_,o_,o_,o_,o_,o_,o_,o_,o_,i_,i_,i_,i_,i_,i_,i_] ?_
                    refine qpv_ 32 (some 162) #[o_,o_,o_,o_,o_,o_,o_,o_,o_,o_,o_,o_,o_,o_,o_,o_,o_,o_,o_,o_,o_,o_,o_,o_,o_,o_,o_,o_,o_,o_,o_,o_,o_,i_,i_,i_,i_,i_,i_] ?_
                    refine qpv_ 33 (some 163) #[o_,o_,o_,o_,o_,o_,o_,o_,o_,o_,o_,o_,o_,o_,o_,o_,o_,o_,o_,o_,o_,o_,o_,o_,o_,o_,o_,o_,o_,o_,o_,o_,o_,o_,i_,i_,i_,i_,i_] ?_
                    refine qpv_ 34 (some 164) #[o_,o_,o_,o_,o_,o_,o_,o_,o_,o_,o_,o_,o_,o_,o_,o_,o_,o_,o_,o_,o_,o_,o_,o_,o_,o_,o_,o_,o_,o_,o_,o_,o_,o_,o_,i_,i_,i_,i_] ?_
                    refine qpv_ 35 (some 165) #[o_,o_,o_,o_,o_,o_,o_,o_,o_,o_,o_,o_,o_,o_,o_,o_,o_,o_,o_,o_,o_,o_,o_,o_,o_,o_,o_,o_,o_,o_,o_,o_,o_,o_,o_,o_,i_,i_,i_] ?_
                    refine qpv_ 36 (some 166) #[o_,o_,o_,o_,o_,o_,o_,o_,o_,o_,o_,o_,o_,o_,o_,o_,o_,o_,o_,o_,o_,o_,o_,o_,o_,o_,o_,o_,o_,o_,o_,o_,o_,o_,o_,o_,o_,i_,i_] ?_
                    refine qpu_ 37 (some 167) #[o_,o_,o_,o_,o_,o_,o_,o_,o_,o_,o_,o_,o_,o_,o_,o_,o_,o_,o_,o_,o_,o_,o_,o_,o_,o_,o_,o_,o_,o_,o_,o_,o_,o_,o_,o_,o_,o_,i_] ?_
                    refine qpu_ 38 (some 7) #[o_,o_,o_,o_,o_,o_,o_,o_,o_,o_,o_,o_,o_,o_,o_,o_,o_,o_,o_,o_,o_,o_,o_,o_,o_,o_,o_,o_,o_,o_,o_,o_,o_,o_,o_,o_,o_,o_,o_] ?_
                    refine a3o (a3b HT_.out (by kernel_rfl)) ?_
                    try go_wp2
                    go_roundg k4
                    case measure => have := HK1.out; have := HJ16.out; have := HK3.out; have := HK4.out; omega
                    case rel => exact ⟨(false), (wrap64 (x16_3 + ((a0a t301 x98_3).f3))), (wrap64 (x98_3 + 1)), qs_, qs_, qs_, H', ⟨by have := HK1.out; have := HJ16.out; have := HK3.out; have := HK4.out; omega⟩, ⟨by (with_reducible repeat (first | apply Kd.a0n | apply Kd.a0o | apply Kd.a0m)); exact Kd.a0z HO_8.out (fun _ hk => trivial)⟩, ⟨by (with_reducible repeat (first | apply Kd.a0n | apply Kd.a0o | apply Kd.a0m)); exact Kd.a0z HO_96.out (fun _ hk => trivial)⟩, ⟨qb_⟩⟩
                  ·rw [if_neg c64] at H
                   have c64b0 : decide (0 < ((a0a t301 x98_3).f3)) = false := decide_eq_false c64
                   clear c64
                   have H' := am_ H
                   clear H
                   obtain ⟨z'92_0, z'92_1, z'92_2, z'92_3, z'92_4, z'92_5⟩ := qz6_ BK317; obtain ⟨y'92_0, y'92_1, y'92_2, y'92_3, y'92_4, y'92_5⟩ := qf6_ BK317
                   try go_wp2
                   replace HO_8 := am_ (Kd.a0m HO_8.out)
                   replace HO_96 := am_ (Kd.a0m HO_96.out)
                   replace BK317 := am_ (bd_ BK317.out)
                   replace HB := am_ (ld_ HB.out)
                   refine a3g (n := 39) (S := fun w' => w'.cell? ⟨gb317, 0, none⟩ = some (.int .i64 ((a0a t301 x98_3).f0)) ∧ w'.cell? ⟨gb317, 1, none⟩ = some (.int .i64 ((a0a t301 x98_3).f1)) ∧ w'.cell? ⟨gb317, 2, none⟩ = some (.int .i64 ((a0a t301 x98_3).f2)) ∧ w'.cell? ⟨gb317, 3, none⟩ = some (.int .i64 ((a0a t301 x98_3).f3)) ∧ w'.cell? ⟨gb317, 4, none⟩ = some (.int .i64 ((a0a t301 x98_3).f4.f0)) ∧ w'.cell? ⟨gb317, 5, none⟩ = some (.int .i64 ((a0a t301 x98_3).f4.f1))) (ds := []) #[i_,i_,i_,i_,i_,i_,i_,i_,i_,i_,i_,i_,i_,i_,i_,i_,i_,i_,i_,i_,i_,i_,i_,i_,i_,i_,i_,i_,i_,i_,i_,i_,i_,i_,i_,i_,i_,i_,i_] (by kernel_rfl) rfl rfl ⟨(bc_ BK317.out 0).trans rfl, (bc_ BK317.out 1).trans rfl, (bc_ BK317.out 2).trans rfl, (bc_ BK317.out 3).trans rfl, (bc_ BK317.out 4).trans rfl, (bc_ BK317.out 5).trans rfl⟩ (fun hHeld => ?_); refine a2l a0d.a6p a0d.a5s (fun HT_ HW_ => ?_)
                   generalize wr.drew = w93 at HO_8 HO_96 BK317 HB hHeld ⊢
                   refine qpu_ 0 (some 130) #[o_,i_,i_,i_,i_,i_,i_,i_,i_,i_,i_,i_,i_,i_,i_,i_,i_,i_,i_,i_,i_,i_,i_,i_,i_,i_,i_,i_,i_,i_,i_,i_,i_,i_,i_,i_,i_,i_,i_] ?_
                   refine qpu_ 1 (some 131) #[o_,o_,i_,i_,i_,i_,i_,i_,i_,i_,i_,i_,i_,i_,i_,i_,i_,i_,i_,i_,i_,i_,i_,i_,i_,i_,i_,i_,i_,i_,i_,i_,i_,i_,i_,i_,i_,i_,i_] ?_
                   refine qpu_ 2 (some 132) #[o_,o_,o_,i_,i_,i_,i_,i_,i_,i_,i_,i_,i_,i_,i_,i_,i_,i_,i_,i_,i_,i_,i_,i_,i_,i_,i_,i_,i_,i_,i_,i_,i_,i_,i_,i_,i_,i_,i_] ?_
                   refine a2g (i := 3) (N := some 133) (v := ?_) (a' := ?_) #[o_,o_,o_,o_,i_,i_,i_,i_,i_,i_,i_,i_,i_,i_,i_,i_,i_,i_,i_,i_,i_,i_,i_,i_,i_,i_,i_,i_,i_,i_,i_,i_,i_,i_,i_,i_,i_,i_,i_] rfl rfl (a1r HT_.out HW_.out (by kernel_rfl)) (fun _ _ _ h => h) (Or.inl ⟨by rfl, ?_⟩) hHeld ?_ ?_
                   rotate_left
                   ·rintro w' ⟨s0, s1, s2, s3, s4, s5⟩
                    go_simp
                    with_reducible rfl
                   rotate_left
                   ·exact qp_
                   refine qpu_ 4 (some 134) #[o_,o_,o_,o_,o_,i_,i_,i_,i_,i_,i_,i_,i_,i_,i_,i_,i_,i_,i_,i_,i_,i_,i_,i_,i_,i_,i_,i_,i_,i_,i_,i_,i_,i_,i_,i_,i_,i_,i_] ?_
                   refine qpu_ 5 (some 135) #[o_,o_,o_,o_,o_,o_,i_,i_,i_,i_,i_,i_,i_,i_,i_,i_,i_,i_,i_,i_,i_,i_,i_,i_,i_,i_,i_,i_,i_,i_,i_,i_,i_,i_,i_,i_,i_,i_,i_] ?_
                   refine qpu_ 6 (some 136) #[o_,o_,o_,o_,o_,o_,o_,i_,i_,i_,i_,i_,i_,i_,i_,i_,i_,i_,i_,i_,i_,i_,i_,i_,i_,i_,i_,i_,i_,i_,i_,i_,i_,i_,i_,i_,i_,i_,i_] ?_
                   refine qpv_ 7 (some 137) #[o_,o_,o_,o_,o_,o_,o_,o_,i_,i_,i_,i_,i_,i_,i_,i_,i_,i_,i_,i_,i_,i_,i_,i_,i_,i_,i_,i_,i_,i_,i_,i_,i_,i_,i_,i_,i_,i_,i_] ?_
                   refine qpv_ 8 (some 138) #[o_,o_,o_,o_,o_,o_,o_,o_,o_,i_,i_,i_,i_,i_,i_,i_,i_,i_,i_,i_,i_,i_,i_,i_,i_,i_,i_,i_,i_,i_,i_,i_,i_,i_,i_,i_,i_,i_,i_] ?_
                   refine qpv_ 9 (some 139) #[o_,o_,o_,o_,o_,o_,o_,o_,o_,o_,i_,i_,i_,i_,i_,i_,i_,i_,i_,i_,i_,i_,i_,i_,i_,i_,i_,i_,i_,i_,i_,i_,i_,i_,i_,i_,i_,i_,i_] ?_
                   refine qpv_ 10 (some 140) #[o_,o_,o_,o_,o_,o_,o_,o_,o_,o_,o_,i_,i_,i_,i_,i_,i_,i_,i_,i_,i_,i_,i_,i_,i_,i_,i_,i_,i_,i_,i_,i_,i_,i_,i_,i_,i_,i_,i_] ?_
                   refine qpu_ 11 (some 141) #[o_,o_,o_,o_,o_,o_,o_,o_,o_,o_,o_,o_,i_,i_,i_,i_,i_,i_,i_,i_,i_,i_,i_,i_,i_,i_,i_,i_,i_,i_,i_,i_,i_,i_,i_,i_,i_,i_,i_] ?_
                   refine qpu_ 12 (some 142) #[o_,o_,o_,o_,o_,o_,o_,o_,o_,o_,o_,o_,o_,i_,i_,i_,i_,i_,i_,i_,i_,i_,i_,i_,i_,i_,i_,i_,i_,i_,i_,i_,i_,i_,i_,i_,i_,i_,i_] ?_
                   refine qpv_ 13 (some 143) #[o_,o_,o_,o_,o_,o_,o_,o_,o_,o_,o_,o_,o_,o_,i_,i_,i_,i_,i_,i_,i_,i_,i_,i_,i_,i_,i_,i_,i_,i_,i_,i_,i_,i_,i_,i_,i_,i_,i_] ?_
                   refine qpv_ 14 (some 144) #[o_,o_,o_,o_,o_,o_,o_,o_,o_,o_,o_,o_,o_,o_,o_,i_,i_,i_,i_,i_,i_,i_,i_,i_,i_,i_,i_,i_,i_,i_,i_,i_,i_,i_,i_,i_,i_,i_,i_] ?_
                   refine qpv_ 15 (some 145) #[o_,o_,o_,o_,o_,o_,o_,o_,o_,o_,o_,o_,o_,o_,o_,o_,i_,i_,i_,i_,i_,i_,i_,i_,i_,i_,i_,i_,i_,i_,i_,i_,i_,i_,i_,i_,i_,i_,i_] ?_
                   refine qpv_ 16 (some 146) #[o_,o_,o_,o_,o_,o_,o_,o_,o_,o_,o_,o_,o_,o_,o_,o_,o_,i_,i_,i_,i_,i_,i_,i_,i_,i_,i_,i_,i_,i_,i_,i_,i_,i_,i_,i_,i_,i_,i_] ?_
                   refine qpv_ 17 (some 147) #[o_,o_,o_,o_,o_,o_,o_,o_,o_,o_,o_,o_,o_,o_,o_,o_,o_,o_,i_,i_,i_,i_,i_,i_,i_,i_,i_,i_,i_,i_,i_,i_,i_,i_,i_,i_,i_,i_,i_] ?_
                   refine qpv_ 18 (some 148) #[o_,o_,o_,o_,o_,o_,o_,o_,o_,o_,o_,o_,o_,o_,o_,o_,o_,o_,o_,i_,i_,i_,i_,i_,i_,i_,i_,i_,i_,i_,i_,i_,i_,i_,i_,i_,i_,i_,i_] ?_
                   refine qpv_ 19 (some 149) #[o_,o_,o_,o_,o_,o_,o_,o_,o_,o_,o_,o_,o_,o_,o_,o_,o_,o_,o_,o_,i_,i_,i_,i_,i_,i_,i_,i_,i_,i_,i_,i_,i_,i_,i_,i_,i_,i_,i_] ?_
                   refine qpv_ 20 (some 150) #[o_,o_,o_,o_,o_,o_,o_,o_,o_,o_,o_,o_,o_,o_,o_,o_,o_,o_,o_,o_,o_,i_,i_,i_,i_,i_,i_,i_,i_,i_,i_,i_,i_,i_,i_,i_,i_,i_,i_] ?_
                   refine qpv_ 21 (some 151) #[o_,o_,o_,o_,o_,o_,o_,o_,o_,o_,o_,o_,o_,o_,o_,o_,o_,o_,o_,o_,o_,o_,i_,i_,i_,i_,i_,i_,i_,i_,i_,i_,i_,i_,i_,i_,i_,i_,i_] ?_
                   refine qpv_ 22 (some 152) #[o_,o_,o_,o_,o_,o_,o_,o_,o_,o_,o_,o_,o_,o_,o_,o_,o_,o_,o_,o_,o_,o_,o_,i_,i_,i_,i_,i_,i_,i_,i_,i_,i_,i_,i_,i_,i_,i_,i_] ?_
                   refine qpv_ 23 (some 153) #[o_,o_,o_,o_,o_,o_,o_,o_,o_,o_,o_,o_,o_,o_,o_,o_,o_,o_,o_,o_,o_,o_,o_,o_,i_,i_,i_,i_,i_,i_,i_,i_,i_,i_,i_,i_,i_,i_,i_] ?_
                   refine qpu_ 24 (some 154) #[o_,o_,o_,o_,o_,o_,o_,o_,o_,o_,o_,o_,o_,o_,o_,o_,o_,o_,o_,o_,o_,o_,o_,o_,o_,i_,i_,i_,i_,i_,i_,i_,i_,i_,i_,i_,i_,i_,i_] ?_
                   refine qpu_ 25 (some 155) #[o_,o_,o_,o_,o_,o_,o_,o_,o_,o_,o_,o_,o_,o_,o_,o_,o_,o_,o_,o_,o_,o_,o_,o_,o_,o_,i_,i_,i_,i_,i_,i_,i_,i_,i_,i_,i_,i_,i_] ?_
                   refine qpv_ 26 (some 156) #[o_,o_,o_,o_,o_,o_,o_,o_,o_,o_,o_,o_,o_,o_,o_,o_,o_,o_,o_,o_,o_,o_,o_,o_,o_,o_,o_,i_,i_,i_,i_,i_,i_,i_,i_,i_,i_,i_,i_] ?_
                   refine qpv_ 27 (some 157) #[o_,o_,o_,o_,o_,o_,o_,o_,o_,o_,o_,o_,o_,o_,o_,o_,o_,o_,o_,o_,o_,o_,o_,o_,o_,o_,o_,o_,i_,i_,i_,i_,i_,i_,i_,i_,i_,i_,i_] ?_
                   refine qpv_ 28 (some 158) #[o_,o_,o_,o_,o_,o_,o_,o_,o_,o_,o_,o_,o_,o_,o_,o_,o_,o_,o_,o_,o_,o_,o_,o_,o_,o_,o_,o_,o_,i_,i_,i_,i_,i_,i_,i_,i_,i_,i_] ?_
                   refine qpv_ 29 (some 159) #[o_,o_,o_,o_,o_,o_,o_,o_,o_,o_,o_,o_,o_,o_,o_,o_,o_,o_,o_,o_,o_,o_,o_,o_,o_,o_,o_,o_,o_,o_,i_,i_,i_,i_,i_,i_,i_,i_,i_] ?_
                   refine qpv_ 30 (some 160) #[o_,o_,o_,o_,o_,o_,o_,o_,o_,o_,o_,o_,o_,o_,o_,o_,o_,o_,o_,o_,o_,o_,o_,o_,o_,o_,o_,o_,o_,o_,o_,i_,i_,i_,i_,i_,i_,i_,i_] ?_
                   refine qpv_ 31 (some 161) #[o_,o_,o_,o_,o_,o_,o_,o_,o_,o_,o_,o_,o_,o_,o_,o_,o_,o_,o_,o_,o_,o_,o_,o_,o_,o_,o_,o_,o_,o_,o_,o_,i_,i_,i_,i_,i_,i_,i_] ?_
                   refine qpv_ 32 (some 162) #[o_,o_,o_,o_,o_,o_,o_,o_,o_,o_,o_,o_,o_,o_,o_,o_,o_,o_,o_,o_,o_,o_,o_,o_,o_,o_,o_,o_,o_,o_,o_,o_,o_,i_,i_,i_,i_,i_,i_] ?_
                   refine qpv_ 33 (some 163) #[o_,o_,o_,o_,o_,o_,o_,o_,o_,o_,o_,o_,o_,o_,o_,o_,o_,o_,o_,o_,o_,o_,o_,o_,o_,o_,o_,o_,o_,o_,o_,o_,o_,o_,i_,i_,i_,i_,i_] ?_
                   refine qpv_ 34 (some 164) #[o_,o_,o_,o_,o_,o_,o_,o_,o_,o_,o_,o_,o_,o_,o_,o_,o_,o_,o_,o_,o_,o_,o_,o_,o_,o_,o_,o_,o_,o_,o_,o_,o_,o_,o_,i_,i_,i_,i_] ?_
                   refine qpv_ 35 (some 165) #[o_,o_,o_,o_,o_,o_,o_,o_,o_,o_,o_,o_,o_,o_,o_,o_,o_,o_,o_,o_,o_,o_,o_,o_,o_,o_,o_,o_,o_,o_,o_,o_,o_,o_,o_,o_,i_,i_,i_] ?_
                   refine qpv_ 36 (some 166) #[o_,o_,o_,o_,o_,o_,o_,o_,o_,o_,o_,o_,o_,o_,o_,o_,o_,o_,o_,o_,o_,o_,o_,o_,o_,o_,o_,o_,o_,o_,o_,o_,o_,o_,o_,o_,o_,i_,i_] ?_
                   refine qpu_ 37 (some 167) #[o_,o_,o_,o_,o_,o_,o_,o_,o_,o_,o_,o_,o_,o_,o_,o_,o_,o_,o_,o_,o_,o_,o_,o_,o_,o_,o_,o_,o_,o_,o_,o_,o_,o_,o_,o_,o_,o_,i_] ?_
                   refine qpu_ 38 (some 7) #[o_,o_,o_,o_,o_,o_,o_,o_,o_,o_,o_,o_,o_,o_,o_,o_,o_,o_,o_,o_,o_,o_,o_,o_,o_,o_,o_,o_,o_,o_,o_,o_,o_,o_,o_,o_,o_,o_,o_] ?_
                   refine a3o (a3b HT_.out (by kernel_rfl)) ?_
                   try go_wp2
                   go_roundg k4
                   case measure => have := HK1.out; have := HJ16.out; have := HK3.out; have := HK4.out; omega
                   case rel => exact ⟨(false), (wrap64 (x16_3 + ((a0a t301 x98_3).f3))), (wrap64 (x98_3 + 1)), qs_, qs_, qs_, H', ⟨by have := HK1.out; have := HJ16.out; have := HK3.out; have := HK4.out; omega⟩, ⟨by (with_reducible repeat (first | apply Kd.a0n | apply Kd.a0o | apply Kd.a0m)); exact Kd.a0z HO_8.out (fun _ hk => trivial)⟩, ⟨by (with_reducible repeat (first | apply Kd.a0n | apply Kd.a0o | apply Kd.a0m)); exact Kd.a0z HO_96.out (fun _ hk => trivial)⟩, ⟨qb_⟩⟩
                 ·replace c63 := be_ c63
                  subst c63
                  have H1 : (a0d.l1 k4 l0 l1 a2 false t301 t302 (wrap64 (x16_3 + ((a0a t301 x98_3).f3))) 0 t301 (t301.length : Int) (wrap64 (x98_3 + 1))) = some r := by rw [if_neg (show ¬ (false = true) by decide)] at H; exact H
                  clear H
                  have H := H1
                  clear H1
                  have H' := am_ H
                  clear H
                  obtain ⟨z'94_0, z'94_1, z'94_2, z'94_3, z'94_4, z'94_5⟩ := qz6_ BK317; obtain ⟨y'94_0, y'94_1, y'94_2, y'94_3, y'94_4, y'94_5⟩ := qf6_ BK317
                  try go_wp2
                  replace HO_8 := am_ (Kd.a0m HO_8.out)
                  replace HO_96 := am_ (Kd.a0m HO_96.out)
                  replace BK317 := am_ (bd_ BK317.out)
                  replace HB := am_ (ld_ HB.out)
                  refine a3g (n := 39) (S := fun w' => True) (ds := []) #[i_,i_,i_,i_,i_,i_,i_,i_,i_,i_,i_,i_,i_,i_,i_,i_,i_,i_,i_,i_,i_,i_,i_,i_,i_,i_,i_,i_,i_,i_,i_,i_,i_,i_,i_,i_,i_,i_,i_] (by kernel_rfl) rfl rfl trivial (fun hHeld => ?_); refine a2l a0d.a6p a0d.a5s (fun HT_ HW_ => ?_)
                  generalize wr.drew = w95 at HO_8 HO_96 BK317 HB hHeld ⊢
                  refine qpu_ 0 (some 130) #[o_,i_,i_,i_,i_,i_,i_,i_,i_,i_,i_,i_,i_,i_,i_,i_,i_,i_,i_,i_,i_,i_,i_,i_,i_,i_,i_,i_,i_,i_,i_,i_,i_,i_,i_,i_,i_,i_,i_] ?_
                  refine qpu_ 1 (some 131) #[o_,o_,i_,i_,i_,i_,i_,i_,i_,i_,i_,i_,i_,i_,i_,i_,i_,i_,i_,i_,i_,i_,i_,i_,i_,i_,i_,i_,i_,i_,i_,i_,i_,i_,i_,i_,i_,i_,i_] ?_
                  refine qpv_ 2 (some 132) #[o_,o_,o_,i_,i_,i_,i_,i_,i_,i_,i_,i_,i_,i_,i_,i_,i_,i_,i_,i_,i_,i_,i_,i_,i_,i_,i_,i_,i_,i_,i_,i_,i_,i_,i_,i_,i_,i_,i_] ?_
                  refine qpv_ 3 (some 133) #[o_,o_,o_,o_,i_,i_,i_,i_,i_,i_,i_,i_,i_,i_,i_,i_,i_,i_,i_,i_,i_,i_,i_,i_,i_,i_,i_,i_,i_,i_,i_,i_,i_,i_,i_,i_,i_,i_,i_] ?_
                  refine qpv_ 4 (some 134) #[o_,o_,o_,o_,o_,i_,i_,i_,i_,i_,i_,i_,i_,i_,i_,i_,i_,i_,i_,i_,i_,i_,i_,i_,i_,i_,i_,i_,i_,i_,i_,i_,i_,i_,i_,i_,i_,i_,i_] ?_
                  refine qpu_ 5 (some 135) #[o_,o_,o_,o_,o_,o_,i_,i_,i_,i_,i_,i_,i_,i_,i_,i_,i_,i_,i_,i_,i_,i_,i_,i_,i_,i_,i_,i_,i_,i_,i_,i_,i_,i_,i_,i_,i_,i_,i_] ?_
                  refine qpu_ 6 (some 136) #[o_,o_,o_,o_,o_,o_,o_,i_,i_,i_,i_,i_,i_,i_,i_,i_,i_,i_,i_,i_,i_,i_,i_,i_,i_,i_,i_,i_,i_,i_,i_,i_,i_,i_,i_,i_,i_,i_,i_] ?_
                  refine qpv_ 7 (some 137) #[o_,o_,o_,o_,o_,o_,o_,o_,i_,i_,i_,i_,i_,i_,i_,i_,i_,i_,i_,i_,i_,i_,i_,i_,i_,i_,i_,i_,i_,i_,i_,i_,i_,i_,i_,i_,i_,i_,i_] ?_
                  refine qpv_ 8 (some 138) #[o_,o_,o_,o_,o_,o_,o_,o_,o_,i_,i_,i_,i_,i_,i_,i_,i_,i_,i_,i_,i_,i_,i_,i_,i_,i_,i_,i_,i_,i_,i_,i_,i_,i_,i_,i_,i_,i_,i_] ?_
                  refine qpv_ 9 (some 139) #[o_,o_,o_,o_,o_,o_,o_,o_,o_,o_,i_,i_,i_,i_,i_,i_,i_,i_,i_,i_,i_,i_,i_,i_,i_,i_,i_,i_,i_,i_,i_,i_,i_,i_,i_,i_,i_,i_,i_] ?_
                  refine qpv_ 10 (some 140) #[o_,o_,o_,o_,o_,o_,o_,o_,o_,o_,o_,i_,i_,i_,i_,i_,i_,i_,i_,i_,i_,i_,i_,i_,i_,i_,i_,i_,i_,i_,i_,i_,i_,i_,i_,i_,i_,i_,i_] ?_
                  refine qpu_ 11 (some 141) #[o_,o_,o_,o_,o_,o_,o_,o_,o_,o_,o_,o_,i_,i_,i_,i_,i_,i_,i_,i_,i_,i_,i_,i_,i_,i_,i_,i_,i_,i_,i_,i_,i_,i_,i_,i_,i_,i_,i_] ?_
                  refine qpu_ 12 (some 142) #[o_,o_,o_,o_,o_,o_,o_,o_,o_,o_,o_,o_,o_,i_,i_,i_,i_,i_,i_,i_,i_,i_,i_,i_,i_,i_,i_,i_,i_,i_,i_,i_,i_,i_,i_,i_,i_,i_,i_] ?_
                  refine qpv_ 13 (some 143) #[o_,o_,o_,o_,o_,o_,o_,o_,o_,o_,o_,o_,o_,o_,i_,i_,i_,i_,i_,i_,i_,i_,i_,i_,i_,i_,i_,i_,i_,i_,i_,i_,i_,i_,i_,i_,i_,i_,i_] ?_
                  refine qpv_ 14 (some 144) #[o_,o_,o_,o_,o_,o_,o_,o_,o_,o_,o_,o_,o_,o_,o_,i_,i_,i_,i_,i_,i_,i_,i_,i_,i_,i_,i_,i_,i_,i_,i_,i_,i_,i_,i_,i_,i_,i_,i_] ?_
                  refine qpv_ 15 (some 145) #[o_,o_,o_,o_,o_,o_,o_,o_,o_,o_,o_,o_,o_,o_,o_,o_,i_,i_,i_,i_,i_,i_,i_,i_,i_,i_,i_,i_,i_,i_,i_,i_,i_,i_,i_,i_,i_,i_,i_] ?_
                  refine qpv_ 16 (some 146) #[o_,o_,o_,o_,o_,o_,o_,o_,o_,o_,o_,o_,o_,o_,o_,o_,o_,i_,i_,i_,i_,i_,i_,i_,i_,i_,i_,i_,i_,i_,i_,i_,i_,i_,i_,i_,i_,i_,i_] ?_
                  refine qpv_ 17 (some 147) #[o_,o_,o_,o_,o_,o_,o_,o_,o_,o_,o_,o_,o_,o_,o_,o_,o_,o_,i_,i_,i_,i_,i_,i_,i_,i_,i_,i_,i_,i_,i_,i_,i_,i_,i_,i_,i_,i_,i_] ?_
                  refine qpv_ 18 (some 148) #[o_,o_,o_,o_,o_,o_,o_,o_,o_,o_,o_,o_,o_,o_,o_,o_,o_,o_,o_,i_,i_,i_,i_,i_,i_,i_,i_,i_,i_,i_,i_,i_,i_,i_,i_,i_,i_,i_,i_] ?_
                  refine qpv_ 19 (some 149) #[o_,o_,o_,o_,o_,o_,o_,o_,o_,o_,o_,o_,o_,o_,o_,o_,o_,o_,o_,o_,i_,i_,i_,i_,i_,i_,i_,i_,i_,i_,i_,i_,i_,i_,i_,i_,i_,i_,i_] ?_
                  refine qpv_ 20 (some 150) #[o_,o_,o_,o_,o_,o_,o_,o_,o_,o_,o_,o_,o_,o_,o_,o_,o_,o_,o_,o_,o_,i_,i_,i_,i_,i_,i_,i_,i_,i_,i_,i_,i_,i_,i_,i_,i_,i_,i_] ?_
                  refine qpv_ 21 (some 151) #[o_,o_,o_,o_,o_,o_,o_,o_,o_,o_,o_,o_,o_,o_,o_,o_,o_,o_,o_,o_,o_,o_,i_,i_,i_,i_,i_,i_,i_,i_,i_,i_,i_,i_,i_,i_,i_,i_,i_] ?_
                  refine qpv_ 22 (some 152) #[o_,o_,o_,o_,o_,o_,o_,o_,o_,o_,o_,o_,o_,o_,o_,o_,o_,o_,o_,o_,o_,o_,o_,i_,i_,i_,i_,i_,i_,i_,i_,i_,i_,i_,i_,i_,i_,i_,i_] ?_
                  refine qpv_ 23 (some 153) #[o_,o_,o_,o_,o_,o_,o_,o_,o_,o_,o_,o_,o_,o_,o_,o_,o_,o_,o_,o_,o_,o_,o_,o_,i_,i_,i_,i_,i_,i_,i_,i_,i_,i_,i_,i_,i_,i_,i_] ?_
                  refine qpu_ 24 (some 154) #[o_,o_,o_,o_,o_,o_,o_,o_,o_,o_,o_,o_,o_,o_,o_,o_,o_,o_,o_,o_,o_,o_,o_,o_,o_,i_,i_,i_,i_,i_,i_,i_,i_,i_,i_,i_,i_,i_,i_] ?_
                  refine qpu_ 25 (some 155) #[o_,o_,o_,o_,o_,o_,o_,o_,o_,o_,o_,o_,o_,o_,o_,o_,o_,o_,o_,o_,o_,o_,o_,o_,o_,o_,i_,i_,i_,i_,i_,i_,i_,i_,i_,i_,i_,i_,i_] ?_
                  refine qpv_ 26 (some 156) #[o_,o_,o_,o_,o_,o_,o_,o_,o_,o_,o_,o_,o_,o_,o_,o_,o_,o_,o_,o_,o_,o_,o_,o_,o_,o_,o_,i_,i_,i_,i_,i_,i_,i_,i_,i_,i_,i_,i_] ?_
                  refine qpv_ 27 (some 157) #[o_,o_,o_,o_,o_,o_,o_,o_,o_,o_,o_,o_,o_,o_,o_,o_,o_,o_,o_,o_,o_,o_,o_,o_,o_,o_,o_,o_,i_,i_,i_,i_,i_,i_,i_,i_,i_,i_,i_] ?_
                  refine qpv_ 28 (some 158) #[o_,o_,o_,o_,o_,o_,o_,o_,o_,o_,o_,o_,o_,o_,o_,o_,o_,o_,o_,o_,o_,o_,o_,o_,o_,o_,o_,o_,o_,i_,i_,i_,i_,i_,i_,i_,i_,i_,i_] ?_
                  refine qpv_ 29 (some 159) #[o_,o_,o_,o_,o_,o_,o_,o_,o_,o_,o_,o_,o_,o_,o_,o_,o_,o_,o_,o_,o_,o_,o_,o_,o_,o_,o_,o_,o_,o_,i_,i_,i_,i_,i_,i_,i_,i_,i_] ?_
                  refine qpv_ 30 (some 160) #[o_,o_,o_,o_,o_,o_,o_,o_,o_,o_,o_,o_,o_,o_,o_,o_,o_,o_,o_,o_,o_,o_,o_,o_,o_,o_,o_,o_,o_,o_,o_,i_,i_,i_,i_,i_,i_,i_,i_] ?_
                  refine qpv_ 31 (some 161) #[o_,o_,o_,o_,o_,o_,o_,o_,o_,o_,o_,o_,o_,o_,o_,o_,o_,o_,o_,o_,o_,o_,o_,o_,o_,o_,o_,o_,o_,o_,o_,o_,i_,i_,i_,i_,i_,i_,i_] ?_
                  refine qpv_ 32 (some 162) #[o_,o_,o_,o_,o_,o_,o_,o_,o_,o_,o_,o_,o_,o_,o_,o_,o_,o_,o_,o_,o_,o_,o_,o_,o_,o_,o_,o_,o_,o_,o_,o_,o_,i_,i_,i_,i_,i_,i_] ?_
                  refine qpv_ 33 (some 163) #[o_,o_,o_,o_,o_,o_,o_,o_,o_,o_,o_,o_,o_,o_,o_,o_,o_,o_,o_,o_,o_,o_,o_,o_,o_,o_,o_,o_,o_,o_,o_,o_,o_,o_,i_,i_,i_,i_,i_] ?_
                  refine qpv_ 34 (some 164) #[o_,o_,o_,o_,o_,o_,o_,o_,o_,o_,o_,o_,o_,o_,o_,o_,o_,o_,o_,o_,o_,o_,o_,o_,o_,o_,o_,o_,o_,o_,o_,o_,o_,o_,o_,i_,i_,i_,i_] ?_
                  refine qpv_ 35 (some 165) #[o_,o_,o_,o_,o_,o_,o_,o_,o_,o_,o_,o_,o_,o_,o_,o_,o_,o_,o_,o_,o_,o_,o_,o_,o_,o_,o_,o_,o_,o_,o_,o_,o_,o_,o_,o_,i_,i_,i_] ?_
                  refine qpv_ 36 (some 166) #[o_,o_,o_,o_,o_,o_,o_,o_,o_,o_,o_,o_,o_,o_,o_,o_,o_,o_,o_,o_,o_,o_,o_,o_,o_,o_,o_,o_,o_,o_,o_,o_,o_,o_,o_,o_,o_,i_,i_] ?_
                  refine qpu_ 37 (some 167) #[o_,o_,o_,o_,o_,o_,o_,o_,o_,o_,o_,o_,o_,o_,o_,o_,o_,o_,o_,o_,o_,o_,o_,o_,o_,o_,o_,o_,o_,o_,o_,o_,o_,o_,o_,o_,o_,o_,i_] ?_
                  refine qpu_ 38 (some 7) #[o_,o_,o_,o_,o_,o_,o_,o_,o_,o_,o_,o_,o_,o_,o_,o_,o_,o_,o_,o_,o_,o_,o_,o_,o_,o_,o_,o_,o_,o_,o_,o_,o_,o_,o_,o_,o_,o_,o_] ?_
                  refine a3o (a3b HT_.out (by kernel_rfl)) ?_
                  try go_wp2
                  go_roundg k4
                  case measure => have := HK1.out; have := HJ16.out; have := HK3.out; have := HK4.out; omega
                  case rel => exact ⟨(false), (wrap64 (x16_3 + ((a0a t301 x98_3).f3))), (wrap64 (x98_3 + 1)), qs_, qs_, qs_, H', ⟨by have := HK1.out; have := HJ16.out; have := HK3.out; have := HK4.out; omega⟩, ⟨by (with_reducible repeat (first | apply Kd.a0n | apply Kd.a0o | apply Kd.a0m)); exact Kd.a0z HO_8.out (fun _ hk => trivial)⟩, ⟨by (with_reducible repeat (first | apply Kd.a0n | apply Kd.a0o | apply Kd.a0m)); exact Kd.a0z HO_96.out (fun _ hk => trivial)⟩, ⟨qb_⟩⟩
             ·rw [if_neg c32] at H
              exact absurd H (by simp)
            ·rw [if_neg c31] at H
             exact absurd H (by simp)
           ·rw [if_neg c30] at H
            have c30b0 : decide (x98_3 < (t301.length : Int)) = false := decide_eq_false c30
            clear c30
            have H' := am_ H
            clear H
            go_wp2
            go_loopg [17, 171] k3 (fun kq v17 v171 w' => ∃ (x17_4 : Int) (x171_4 : Int), v17 = .int .i64 x17_4 ∧ v171 = .int .i64 x171_4 ∧ Aside0 (a0d.l3 kq l0 l1 a2 x7_3 t301 t302 x16_3 x17_4 l1 (l1.length : Int) x171_4 = some r) ∧ Aside0 (kq ≤ k3) ∧ Aside0 (Kd.R k30 30 w' w.heap.size (fun _ => True) (.slice Ao29 t301.length co29) t301) ∧ Aside0 (Below w.heap.size w w'))
            case atStart => exact ⟨(0), (0), qs_, qs_, H', ⟨Nat.le_refl _⟩, ⟨by (with_reducible repeat (first | apply Kd.a0n | apply Kd.a0o | apply Kd.a0m)); exact HO_8.out⟩, ⟨qb_⟩⟩
            case round => as_aux_lemma =>
             clear H'
             try clear p2
             try clear c3
             try clear c6
             try clear p6
             try clear c30
             try clear c30b0
             try clear c31
             try clear c32
             try clear c63
             try clear c64
             try clear c64b0
             try clear p64
             try clear z'92_0 z'92_1 z'92_2 z'92_3 z'92_4 z'92_5
             try clear z'94_0 z'94_1 z'94_2 z'94_3 z'94_4 z'94_5
             try clear y'92_0 y'92_1 y'92_2 y'92_3 y'92_4 y'92_5
             try clear y'94_0 y'94_1 y'94_2 y'94_3 y'94_4 y'94_5
             obtain ⟨x17_4, x171_4, rfl, rfl, HA, HK4, HO_8, HB⟩ := hrel
             cases gk with
             | zero => exact absurd HA.out (by simp [a0d.l3])
             | succ k4 =>
              have H := HA.out
              clear HA
              simp only [a0d.l3] at H
              by_cases c96 : x171_4 < (l1.length : Int)
              ·rw [if_pos c96] at H
               have c96b0 : decide (x171_4 < (l1.length : Int)) = true := decide_eq_true c96
               clear c96
               by_cases c97 : 0 ≤ x171_4
               ·rw [if_pos c97] at H
                have c97b0 : decide (0 ≤ x171_4) = true := decide_eq_true c97
                clear c97
                by_cases c98 : x171_4 < (l1.length : Int)
                ·rw [if_pos c98] at H
                 have c98b0 : decide (x171_4 < (l1.length : Int)) = true := decide_eq_true c98
                 clear c98
                 have H' := am_ H
                 clear H
                 have p324 : 0 ≤ (x171_4 : Int) := ot_
                 have q324 : x171_4 < (l1.length : Int) := ot_
                 obtain ⟨ad324, e324, hx324_0⟩ := Kd.a4l HR1.out x171_4 p324 q324
                 cases e324
                 replace hx324_0 := qh_ HB hx324_0
                 replace p324 := eq_true p324
                 replace q324 := eq_true q324
                 go_wp2
                 go_loopg [17, 177] k4 (fun kq v17 v177 w' => ∃ (x17_5 : Int) (x177_5 : Int), v17 = .int .i64 x17_5 ∧ v177 = .int .i64 x177_5 ∧ Aside0 (a0d.l4 kq l0 l1 a2 x7_3 t301 t302 x16_3 x17_5 (rd l1 x171_4) l1 (l1.length : Int) x171_4 l0 (l0.length : Int) x177_5 = some r) ∧ Aside0 (kq ≤ k4) ∧ Aside0 (Kd.R k30 30 w' w.heap.size (fun _ => True) (.slice Ao29 t301.length co29) t301) ∧ Aside0 (Below w.heap.size w w'))
                 case atStart => exact ⟨(x17_4), (0), qs_, qs_, H', ⟨Nat.le_refl _⟩, ⟨by (with_reducible repeat (first | apply Kd.a0n | apply Kd.a0o | apply Kd.a0m)); exact HO_8.out⟩, ⟨qb_⟩⟩
                 case round => as_aux_lemma =>
                  clear H'
                  try clear p2
                  try clear c3
                  try clear p3
                  try clear q3
                  try clear hx3
                  try clear c6
                  try clear p6
                  try clear c9
                  try clear c30
                  try clear c30b0
                  try clear c31
                  try clear c32
                  try clear p32
                  try clear q32
                  try clear hx32
                  try clear c63
                  try clear c64
                  try clear c64b0
                  try clear p64
                  try clear c96
                  try clear c96b0
                  try clear c97
                  try clear c97b0
                  try clear c98
                  try clear c98b0
                  try clear z'92_0 z'92_1 z'92_2 z'92_3 z'92_4 z'92_5
                  try clear z'94_0 z'94_1 z'94_2 z'94_3 z'94_4 z'94_5
                  try clear y'92_0 y'92_1 y'92_2 y'92_3 y'92_4 y'92_5
                  try clear y'94_0 y'94_1 y'94_2 y'94_3 y'94_4 y'94_5
                  try clear hx324_0
                  try clear p2
                  try clear p324
                  try clear p6
                  try clear p64
                  try clear q324
                  obtain ⟨x17_5, x177_5, rfl, rfl, HA, HK5, HO_8, HB⟩ := hrel
                  cases gk with
                  | zero => exact absurd HA.out (by simp [a0d.l4])
                  | succ k5 =>
                   have H := HA.out
                   clear HA
                   simp only [a0d.l4] at H
                   by_cases c99 : x177_5 < (l0.length : Int)
                   ·rw [if_pos c99] at H
                    have c99b0 : decide (x177_5 < (l0.length : Int)) = true := decide_eq_true c99
                    clear c99
                    by_cases c100 : 0 ≤ x177_5
                    ·rw [if_pos c100] at H
                     have c100b0 : decide (0 ≤ x177_5) = true := decide_eq_true c100
                     clear c100
                     by_cases c101 : x177_5 < (l0.length : Int)
                     ·rw [if_pos c101] at H
                      have c101b0 : decide (x177_5 < (l0.length : Int)) = true := decide_eq_true c101
                      clear c101
                      by_cases c102 : ((a0a l0 x177_5).f0) = (rd l1 x171_4)
                      ·rw [if_pos c102] at H
                       have c102b0 : (((a0a l0 x177_5).f0) == (rd l1 x171_4)) = true := beq_iff_eq.mpr c102
                       have c102b1 : (((a0a l0 x177_5).f0) != (rd l1 x171_4)) = false := bne_eq_false_iff_eq.mpr c102
                       clear c102
                       have H' := am_ H
                       clear H
                       have p325 : 0 ≤ (x177_5 : Int) := ot_
                       have q325 : x177_5 < (l0.length : Int) := ot_
                       obtain ⟨ad325, e325, hx325_0, hx325_1, hx325_2, hx325_3, hx325_4, hx325_5⟩ := a3q HR0.out x177_5 p325 q325
                       cases e325
                       replace hx325_0 := qh_ HB hx325_0
                       replace hx325_1 := qh_ HB hx325_1
                       replace hx325_2 := qh_ HB hx325_2
                       replace hx325_3 := qh_ HB hx325_3
                       replace hx325_4 := qh_ HB hx325_4
                       replace hx325_5 := qh_ HB hx325_5
                       replace p325 := eq_true p325
                       replace q325 := eq_true q325
                       go_wp2_with (first | ((with_reducible refine a1g (N := 26) rfl ?_); (try (refine a2a (by rfl) ?_; dsimp only)); refine qev_ 26 #[.int .i64 0, .int .i64 0, .int .i64 0, .int .i64 0, .int .i64 0, .int .i64 0] 30 ?_; intro gb326 hg w103 hbox hb; replace HO_8 := am_ (Kd.a3f (Kd.a3n (qr_ HO_8) gb326 (Nat.le_of_eq hg.symm)) hb); have BK326 := am_ (hbox); have GW326 := qga_ hg; have GE326 := qga_ hg; replace HB := qbs_ hb; clear hb hbox hg; obtain ⟨z'104_0, z'104_1, z'104_2, z'104_3, z'104_4, z'104_5⟩ := qz6_ BK326; obtain ⟨y'104_0, y'104_1, y'104_2, y'104_3, y'104_4, y'104_5⟩ := qf6_ BK326) | ((with_reducible refine a4g (t := 30) (p := 26) rfl ?_); refine a4a (t := 30) (p := 26) (v := ?vo_w105) (w1 := ((((((w103.setCell ⟨gb326, 0, none⟩ (.int .i64 ((a0a l0 x177_5).f0))).setCell ⟨gb326, 1, none⟩ (.int .i64 ((a0a l0 x177_5).f1))).setCell ⟨gb326, 2, none⟩ (.int .i64 ((a0a l0 x177_5).f2))).setCell ⟨gb326, 3, none⟩ (.int .i64 ((a0a l0 x177_5).f3))).setCell ⟨gb326, 4, none⟩ (.int .i64 ((a0a l0 x177_5).f4.f0))).setCell ⟨gb326, 5, none⟩ (.int .i64 ((a0a l0 x177_5).f4.f1)))) ?hg ?ho ?hn ?hr ?_; (case ho => rfl); (case hg => rfl); (case hn => rfl); (case hr => exact qq_); intro w105 hw; replace HO_8 : Aside0 (Kd.R k30 30 w105 w.heap.size (fun k_ => k_ ≠ gb326) (.slice Ao29 t301.length co29) t301) := ⟨(by rw [hw]; exact (by (with_reducible repeat (first | apply Kd.a0n | apply Kd.a0o | apply Kd.a0m)); exact Kd.a0z (Kd.a0v (p := ⟨gb326, 5, none⟩) (Kd.a0v (p := ⟨gb326, 4, none⟩) (Kd.a0v (p := ⟨gb326, 3, none⟩) (Kd.a0v (p := ⟨gb326, 2, none⟩) (Kd.a0v (p := ⟨gb326, 1, none⟩) (Kd.a0v (p := ⟨gb326, 0, none⟩) (Kd.a0z HO_8.out (fun k_ hk => (⟨hk, hk.2⟩ : _ ∧ k_ ≠ gb326))) (fun _ hk => hk.2) (.int .i64 ((a0a l0 x177_5).f0))) (fun _ hk => hk.2) (.int .i64 ((a0a l0 x177_5).f1))) (fun _ hk => hk.2) (.int .i64 ((a0a l0 x177_5).f2))) (fun _ hk => hk.2) (.int .i64 ((a0a l0 x177_5).f3))) (fun _ hk => hk.2) (.int .i64 ((a0a l0 x177_5).f4.f0))) (fun _ hk => hk.2) (.int .i64 ((a0a l0 x177_5).f4.f1))) (fun _ hk => hk.1.2)))⟩; replace BK326 : Aside0 (w105.heap[gb326]? = some (.cells #[.int .i64 ((a0a l0 x177_5).f0), .int .i64 ((a0a l0 x177_5).f1), .int .i64 ((a0a l0 x177_5).f2), .int .i64 ((a0a l0 x177_5).f3), .int .i64 ((a0a l0 x177_5).f4.f0), .int .i64 ((a0a l0 x177_5).f4.f1)] 30 (0, 0))) := ⟨(by rw [hw]; exact (by refine qd_ ?_; refine a0q (cs := #[.int .i64 ((a0a l0 x177_5).f0), .int .i64 ((a0a l0 x177_5).f1), .int .i64 ((a0a l0 x177_5).f2), .int .i64 ((a0a l0 x177_5).f3), .int .i64 ((a0a l0 x177_5).f4.f0), .int .i64 0]) ?_ 5 _ rfl; refine qd_ ?_; refine a0q (cs := #[.int .i64 ((a0a l0 x177_5).f0), .int .i64 ((a0a l0 x177_5).f1), .int .i64 ((a0a l0 x177_5).f2), .int .i64 ((a0a l0 x177_5).f3), .int .i64 0, .int .i64 0]) ?_ 4 _ rfl; refine qd_ ?_; refine a0q (cs := #[.int .i64 ((a0a l0 x177_5).f0), .int .i64 ((a0a l0 x177_5).f1), .int .i64 ((a0a l0 x177_5).f2), .int .i64 0, .int .i64 0, .int .i64 0]) ?_ 3 _ rfl; refine qd_ ?_; refine a0q (cs := #[.int .i64 ((a0a l0 x177_5).f0), .int .i64 ((a0a l0 x177_5).f1), .int .i64 0, .int .i64 0, .int .i64 0, .int .i64 0]) ?_ 2 _ rfl; refine qd_ ?_; refine a0q (cs := #[.int .i64 ((a0a l0 x177_5).f0), .int .i64 0, .int .i64 0, .int .i64 0, .int .i64 0, .int .i64 0]) ?_ 1 _ rfl; refine qd_ ?_; refine a0q (cs := #[.int .i64 0, .int .i64 0, .int .i64 0, .int .i64 0, .int .i64 0, .int .i64 0]) ?_ 0 _ rfl; refine qd_ ?_; exact BK326.out))⟩; replace HB : Aside0 (Below w.heap.size w w105) := ⟨(by rw [hw]; exact qb_)⟩; clear hw; obtain ⟨z'106_0, z'106_1, z'106_2, z'106_3, z'106_4, z'106_5⟩ := qz6_ BK326; obtain ⟨y'106_0, y'106_1, y'106_2, y'106_3, y'106_4, y'106_5⟩ := qf6_ BK326))
                       go_roundg k5
                       case measure => have := HK1.out; have := HJ16.out; have := HK3.out; have := HK4.out; have := HK5.out; omega
                       case rel => exact ⟨(wrap64 (x17_5 + ((a0a l0 x177_5).f3))), (wrap64 (x177_5 + 1)), qs_, qs_, H', ⟨by have := HK1.out; have := HJ16.out; have := HK3.out; have := HK4.out; have := HK5.out; omega⟩, ⟨by (with_reducible repeat (first | apply Kd.a0n | apply Kd.a0o | apply Kd.a0m)); exact Kd.a0z HO_8.out (fun _ hk => trivial)⟩, ⟨qb_⟩⟩
                      ·rw [if_neg c102] at H
                       have c102b0 : (((a0a l0 x177_5).f0) == (rd l1 x171_4)) = false := beq_eq_false_iff_ne.mpr c102
                       have c102b1 : (((a0a l0 x177_5).f0) != (rd l1 x171_4)) = true := bne_iff_ne.mpr c102
                       have H' := am_ H
                       clear H
                       have p325 : 0 ≤ (x177_5 : Int) := ot_
                       have q325 : x177_5 < (l0.length : Int) := ot_
                       obtain ⟨ad325, e325, hx325_0, hx325_1, hx325_2, hx325_3, hx325_4, hx325_5⟩ := a3q HR0.out x177_5 p325 q325
                       cases e325
                       replace hx325_0 := qh_ HB hx325_0
                       replace hx325_1 := qh_ HB hx325_1
                       replace hx325_2 := qh_ HB hx325_2
                       replace hx325_3 := qh_ HB hx325_3
                       replace hx325_4 := qh_ HB hx325_4
                       replace hx325_5 := qh_ HB hx325_5
                       replace p325 := eq_true p325
                       replace q325 := eq_true q325
                       go_wp2_with (first | ((with_reducible refine a1g (N := 26) rfl ?_); (try (refine a2a (by rfl) ?_; dsimp only)); refine qev_ 26 #[.int .i64 0, .int .i64 0, .int .i64 0, .int .i64 0, .int .i64 0, .int .i64 0] 30 ?_; intro gb326 hg w107 hbox hb; replace HO_8 := am_ (Kd.a3f (Kd.a3n (qr_ HO_8) gb326 (Nat.le_of_eq hg.symm)) hb); have BK326 := am_ (hbox); have GW326 := qga_ hg; have GE326 := qga_ hg; replace HB := qbs_ hb; clear hb hbox hg; obtain ⟨z'108_0, z'108_1, z'108_2, z'108_3, z'108_4, z'108_5⟩ := qz6_ BK326; obtain ⟨y'108_0, y'108_1, y'108_2, y'108_3, y'108_4, y'108_5⟩ := qf6_ BK326) | ((with_reducible refine a4g (t := 30) (p := 26) rfl ?_); refine a4a (t := 30) (p := 26) (v := ?vo_w109) (w1 := ((((((w107.setCell ⟨gb326, 0, none⟩ (.int .i64 ((a0a l0 x177_5).f0))).setCell ⟨gb326, 1, none⟩ (.int .i64 ((a0a l0 x177_5).f1))).setCell ⟨gb326, 2, none⟩ (.int .i64 ((a0a l0 x177_5).f2))).setCell ⟨gb326, 3, none⟩ (.int .i64 ((a0a l0 x177_5).f3))).setCell ⟨gb326, 4, none⟩ (.int .i64 ((a0a l0 x177_5).f4.f0))).setCell ⟨gb326, 5, none⟩ (.int .i64 ((a0a l0 x177_5).f4.f1)))) ?hg ?ho ?hn ?hr ?_; (case ho => rfl); (case hg => rfl); (case hn => rfl); (case hr => exact qq_); intro w109 hw; replace HO_8 : Aside0 (Kd.R k30 30 w109 w.heap.size (fun k_ => k_ ≠ gb326) (.slice Ao29 t301.length co29) t301) := ⟨(by rw [hw]; exact (by (with_reducible repeat (first | apply Kd.a0n | apply Kd.a0o | apply Kd.a0m)); exact Kd.a0z (Kd.a0v (p := ⟨gb326, 5, none⟩) (Kd.a0v (p := ⟨gb326, 4, none⟩) (Kd.a0v (p := ⟨gb326, 3, none⟩) (Kd.a0v (p := ⟨gb326, 2, none⟩) (Kd.a0v (p := ⟨gb326, 1, none⟩) (Kd.a0v (p := ⟨gb326, 0, none⟩) (Kd.a0z HO_8.out (fun k_ hk => (⟨hk, hk.2⟩ : _ ∧ k_ ≠ gb326))) (fun _ hk => hk.2) (.int .i64 ((a0a l0 x177_5).f0))) (fun _ hk => hk.2) (.int .i64 ((a0a l0 x177_5).f1))) (fun _ hk => hk.2) (.int .i64 ((a0a l0 x177_5).f2))) (fun _ hk => hk.2) (.int .i64 ((a0a l0 x177_5).f3))) (fun _ hk => hk.2) (.int .i64 ((a0a l0 x177_5).f4.f0))) (fun _ hk => hk.2) (.int .i64 ((a0a l0 x177_5).f4.f1))) (fun _ hk => hk.1.2)))⟩; replace BK326 : Aside0 (w109.heap[gb326]? = some (.cells #[.int .i64 ((a0a l0 x177_5).f0), .int .i64 ((a0a l0 x177_5).f1), .int .i64 ((a0a l0 x177_5).f2), .int .i64 ((a0a l0 x177_5).f3), .int .i64 ((a0a l0 x177_5).f4.f0), .int .i64 ((a0a l0 x177_5).f4.f1)] 30 (0, 0))) := ⟨(by rw [hw]; exact (by refine qd_ ?_; refine a0q (cs := #[.int .i64 ((a0a l0 x177_5).f0), .int .i64 ((a0a l0 x177_5).f1), .int .i64 ((a0a l0 x177_5).f2), .int .i64 ((a0a l0 x177_5).f3), .int .i64 ((a0a l0 x177_5).f4.f0), .int .i64 0]) ?_ 5 _ rfl; refine qd_ ?_; refine a0q (cs := #[.int .i64 ((a0a l0 x177_5).f0), .int .i64 ((a0a l0 x177_5).f1), .int .i64 ((a0a l0 x177_5).f2), .int .i64 ((a0a l0 x177_5).f3), .int .i64 0, .int .i64 0]) ?_ 4 _ rfl; refine qd_ ?_; refine a0q (cs := #[.int .i64 ((a0a l0 x177_5).f0), .int .i64 ((a0a l0 x177_5).f1), .int .i64 ((a0a l0 x177_5).f2), .int .i64 0, .int .i64 0, .int .i64 0]) ?_ 3 _ rfl; refine qd_ ?_; refine a0q (cs := #[.int .i64 ((a0a l0 x177_5).f0), .int .i64 ((a0a l0 x177_5).f1), .int .i64 0, .int .i64 0, .int .i64 0, .int .i64 0]) ?_ 2 _ rfl; refine qd_ ?_; refine a0q (cs := #[.int .i64 ((a0a l0 x177_5).f0), .int .i64 0, .int .i64 0, .int .i64 0, .int .i64 0, .int .i64 0]) ?_ 1 _ rfl; refine qd_ ?_; refine a0q (cs := #[.int .i64 0, .int .i64 0, .int .i64 0, .int .i64 0, .int .i64 0, .int .i64 0]) ?_ 0 _ rfl; refine qd_ ?_; exact BK326.out))⟩; replace HB : Aside0 (Below w.heap.size w w109) := ⟨(by rw [hw]; exact qb_)⟩; clear hw; obtain ⟨z'110_0, z'110_1, z'110_2, z'110_3, z'110_4, z'110_5⟩ := qz6_ BK326; obtain ⟨y'110_0, y'110_1, y'110_2, y'110_3, y'110_4, y'110_5⟩ := qf6_ BK326))
                       go_roundg k5
                       case measure => have := HK1.out; have := HJ16.out; have := HK3.out; have := HK4.out; have := HK5.out; omega
                       case rel => exact ⟨(x17_5), (wrap64 (x177_5 + 1)), qs_, qs_, H', ⟨by have := HK1.out; have := HJ16.out; have := HK3.out; have := HK4.out; have := HK5.out; omega⟩, ⟨by (with_reducible repeat (first | apply Kd.a0n | apply Kd.a0o | apply Kd.a0m)); exact Kd.a0z HO_8.out (fun _ hk => trivial)⟩, ⟨qb_⟩⟩
                     ·rw [if_neg c101] at H
                      exact absurd H (by simp)
                    ·rw [if_neg c100] at H
                     exact absurd H (by simp)
                   ·rw [if_neg c99] at H
                    have c99b0 : decide (x177_5 < (l0.length : Int)) = false := decide_eq_false c99
                    clear c99
                    have H' := am_ H
                    clear H
                    go_wp2
                    go_roundg k5
                    case measure => have := HK1.out; have := HJ16.out; have := HK3.out; have := HK4.out; have := HK5.out; omega
                    case rel => exact ⟨(x17_5), (wrap64 (x171_4 + 1)), qs_, qs_, H', ⟨by have := HK1.out; have := HJ16.out; have := HK3.out; have := HK4.out; have := HK5.out; omega⟩, ⟨by (with_reducible repeat (first | apply Kd.a0n | apply Kd.a0o | apply Kd.a0m)); exact HO_8.out⟩, ⟨qb_⟩⟩
                ·rw [if_neg c98] at H
                 exact absurd H (by simp)
               ·rw [if_neg c97] at H
                exact absurd H (by simp)
              ·rw [if_neg c96] at H
               have c96b0 : decide (x171_4 < (l1.length : Int)) = false := decide_eq_false c96
               clear c96
               by_cases c111 : x7_3 = true
               ·subst c111
                have H1 : (if x16_3 = a2 then (if t302 = 0 then (some true) else (if x17_4 = (wrap64 (a2 - t302)) then (some ((t301.length : Int) == (l1.length : Int))) else (some false))) else (some false)) = some r := by rw [if_pos rfl] at H; exact H
                clear H
                have H := H1
                clear H1
                by_cases c112 : x16_3 = a2
                ·rw [if_pos c112] at H
                 have c112b0 : (x16_3 == a2) = true := beq_iff_eq.mpr c112
                 have c112b1 : (x16_3 != a2) = false := bne_eq_false_iff_eq.mpr c112
                 clear c112
                 by_cases c113 : t302 = 0
                 ·rw [if_pos c113] at H
                  have c113b0 : (t302 == 0) = true := beq_iff_eq.mpr c113
                  have c113b1 : (t302 != 0) = false := bne_eq_false_iff_eq.mpr c113
                  clear c113
                  obtain rfl := si_ H
                  go_wp2
                  go_ret
                  exact ⟨qx_, qb_⟩
                 ·rw [if_neg c113] at H
                  have c113b0 : (t302 == 0) = false := beq_eq_false_iff_ne.mpr c113
                  have c113b1 : (t302 != 0) = true := bne_iff_ne.mpr c113
                  by_cases c114 : x17_4 = (wrap64 (a2 - t302))
                  ·rw [if_pos c114] at H
                   have c114b0 : (x17_4 == (wrap64 (a2 - t302))) = true := beq_iff_eq.mpr c114
                   have c114b1 : (x17_4 != (wrap64 (a2 - t302))) = false := bne_eq_false_iff_eq.mpr c114
                   clear c114
                   obtain rfl := si_ H
                   go_wp2
                   go_ret
                   exact ⟨qx_, qb_⟩
                  ·rw [if_neg c114] at H
                   have c114b0 : (x17_4 == (wrap64 (a2 - t302))) = false := beq_eq_false_iff_ne.mpr c114
                   have c114b1 : (x17_4 != (wrap64 (a2 - t302))) = true := bne_iff_ne.mpr c114
                   obtain rfl := si_ H
                   go_wp2
                   go_ret
                   exact ⟨qx_, qb_⟩
                ·rw [if_neg c112] at H
                 have c112b0 : (x16_3 == a2) = false := beq_eq_false_iff_ne.mpr c112
                 have c112b1 : (x16_3 != a2) = true := bne_iff_ne.mpr c112
                 obtain rfl := si_ H
                 go_wp2
                 go_ret
                 exact ⟨qx_, qb_⟩
               ·replace c111 := be_ c111
                subst c111
                have H1 : (some false) = some r := by rw [if_neg (show ¬ (false = true) by decide)] at H; exact H
                clear H
                have H := H1
                clear H1
                obtain rfl := si_ H
                go_wp2
                go_ret
                exact ⟨qx_, qb_⟩
     ·rw [if_neg c16] at H
      have c16b0 : (t303 == 0) = false := beq_eq_false_iff_ne.mpr c16
      have c16b1 : (t303 != 0) = true := bne_iff_ne.mpr c16
      by_cases c115 : t300 = true
      ·subst c115
       have H1 : (if (t301.length : Int) = 0 then (if t302 = 0 then (some (t312 != 0)) else (some false)) else (some false)) = some r := by rw [if_pos rfl] at H; exact H
       clear H
       have H := H1
       clear H1
       by_cases c116 : (t301.length : Int) = 0
       ·rw [if_pos c116] at H
        have c116b0 : ((t301.length : Int) == 0) = true := beq_iff_eq.mpr c116
        have c116b1 : ((t301.length : Int) != 0) = false := bne_eq_false_iff_eq.mpr c116
        clear c116
        by_cases c117 : t302 = 0
        ·rw [if_pos c117] at H
         have c117b0 : (t302 == 0) = true := beq_iff_eq.mpr c117
         have c117b1 : (t302 != 0) = false := bne_eq_false_iff_eq.mpr c117
         clear c117
         obtain rfl := si_ H
         obtain ⟨Ao118, co118, eo118⟩ := Kd.a1v HO_11.out
         subst eo118
         go_wp2_with (first | ((with_reducible refine a1c (f := 12) rfl ?_); refine a1y (some 58) rfl rfl Try.func12 (by kernel_rfl) rfl #[.slice A0 l0.length c0, .slice Ao118 x11_1.length co118, .int .i64 a2] rfl ql_ ?_; (with_reducible refine (a0g.calls k1 _ _ l0 _ _ x11_1 a2 t310 t311 t312 _ ?s1 ?s2 ?s3 ?s4 A15.out).mono ?_); (case s1 => exact qc_ HR0); (case s2 => exact HC0.out); (case s3 => exact qv_ (Kd.a0p HO_11.out).2.2); (case s4 => exact (Kd.a0p HO_11.out).2.1); rintro e w119 ⟨v313, rfl, ho0, hb⟩; refine ⟨_, rfl, ?_⟩; replace HO_11 := qrb_ HO_11 hb; have HO314 := am_ (Kd.a2k (Kd.a3e ho0 (Kd.R_lt (qr_ HO_8))) (a1s qb_)); replace HO_8 := qel_ HO_8 ho0 hb; replace HB := qbs_ hb; (try clear hb); (try clear hb2); (try clear hk); (try clear hi); (try clear ho0); obtain ⟨Ao120, co120, eo120⟩ := Kd.a1v HO_8.out; subst eo120))
         go_ret
         exact ⟨qx_, qb_⟩
        ·rw [if_neg c117] at H
         have c117b0 : (t302 == 0) = false := beq_eq_false_iff_ne.mpr c117
         have c117b1 : (t302 != 0) = true := bne_iff_ne.mpr c117
         obtain rfl := si_ H
         obtain ⟨Ao121, co121, eo121⟩ := Kd.a1v HO_11.out
         subst eo121
         go_wp2_with (first | ((with_reducible refine a1c (f := 12) rfl ?_); refine a1y (some 58) rfl rfl Try.func12 (by kernel_rfl) rfl #[.slice A0 l0.length c0, .slice Ao121 x11_1.length co121, .int .i64 a2] rfl ql_ ?_; (with_reducible refine (a0g.calls k1 _ _ l0 _ _ x11_1 a2 t310 t311 t312 _ ?s1 ?s2 ?s3 ?s4 A15.out).mono ?_); (case s1 => exact qc_ HR0); (case s2 => exact HC0.out); (case s3 => exact qv_ (Kd.a0p HO_11.out).2.2); (case s4 => exact (Kd.a0p HO_11.out).2.1); rintro e w122 ⟨v313, rfl, ho0, hb⟩; refine ⟨_, rfl, ?_⟩; replace HO_11 := qrb_ HO_11 hb; have HO314 := am_ (Kd.a2k (Kd.a3e ho0 (Kd.R_lt (qr_ HO_8))) (a1s qb_)); replace HO_8 := qel_ HO_8 ho0 hb; replace HB := qbs_ hb; (try clear hb); (try clear hb2); (try clear hk); (try clear hi); (try clear ho0); obtain ⟨Ao123, co123, eo123⟩ := Kd.a1v HO_8.out; subst eo123))
         go_ret
         exact ⟨qx_, qb_⟩
       ·rw [if_neg c116] at H
        have c116b0 : ((t301.length : Int) == 0) = false := beq_eq_false_iff_ne.mpr c116
        have c116b1 : ((t301.length : Int) != 0) = true := bne_iff_ne.mpr c116
        have c116b2 : ¬ (t301 = []) := fun h_ => c116 (by rw [h_]; rfl)
        obtain rfl := si_ H
        obtain ⟨Ao124, co124, eo124⟩ := Kd.a1v HO_11.out
        subst eo124
        go_wp2_with (first | ((with_reducible refine a1c (f := 12) rfl ?_); refine a1y (some 58) rfl rfl Try.func12 (by kernel_rfl) rfl #[.slice A0 l0.length c0, .slice Ao124 x11_1.length co124, .int .i64 a2] rfl ql_ ?_; (with_reducible refine (a0g.calls k1 _ _ l0 _ _ x11_1 a2 t310 t311 t312 _ ?s1 ?s2 ?s3 ?s4 A15.out).mono ?_); (case s1 => exact qc_ HR0); (case s2 => exact HC0.out); (case s3 => exact qv_ (Kd.a0p HO_11.out).2.2); (case s4 => exact (Kd.a0p HO_11.out).2.1); rintro e w125 ⟨v313, rfl, ho0, hb⟩; refine ⟨_, rfl, ?_⟩; replace HO_11 := qrb_ HO_11 hb; have HO314 := am_ (Kd.a2k (Kd.a3e ho0 (Kd.R_lt (qr_ HO_8))) (a1s qb_)); replace HO_8 := qel_ HO_8 ho0 hb; replace HB := qbs_ hb; (try clear hb); (try clear hb2); (try clear hk); (try clear hi); (try clear ho0); obtain ⟨Ao126, co126, eo126⟩ := Kd.a1v HO_8.out; subst eo126))
        go_ret
        exact ⟨qx_, qb_⟩
      ·replace c115 := be_ c115
       subst c115
       have H1 : (some false) = some r := by rw [if_neg (show ¬ (false = true) by decide)] at H; exact H
       clear H
       have H := H1
       clear H1
       obtain rfl := si_ H
       obtain ⟨Ao127, co127, eo127⟩ := Kd.a1v HO_11.out
       subst eo127
       go_wp2_with (first | ((with_reducible refine a1c (f := 12) rfl ?_); refine a1y (some 58) rfl rfl Try.func12 (by kernel_rfl) rfl #[.slice A0 l0.length c0, .slice Ao127 x11_1.length co127, .int .i64 a2] rfl ql_ ?_; (with_reducible refine (a0g.calls k1 _ _ l0 _ _ x11_1 a2 t310 t311 t312 _ ?s1 ?s2 ?s3 ?s4 A15.out).mono ?_); (case s1 => exact qc_ HR0); (case s2 => exact HC0.out); (case s3 => exact qv_ (Kd.a0p HO_11.out).2.2); (case s4 => exact (Kd.a0p HO_11.out).2.1); rintro e w128 ⟨v313, rfl, ho0, hb⟩; refine ⟨_, rfl, ?_⟩; replace HO_11 := qrb_ HO_11 hb; have HO314 := am_ (Kd.a2k (Kd.a3e ho0 (Kd.R_lt (qr_ HO_8))) (a1s qb_)); replace HO_8 := qel_ HO_8 ho0 hb; replace HB := qbs_ hb; (try clear hb); (try clear hb2); (try clear hk); (try clear hi); (try clear ho0)))
       go_ret
       exact ⟨qx_, qb_⟩
end Go.Proofs.Ytfbgkcadnmcakaa.Px
