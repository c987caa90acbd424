/- Contracts of Go functions, printed. Conditions: as each theorem states. -/
import Derived.Test.YtfbgkcadnmcakaaPx0
import Derived.Test.YtfbgkcadnmcakaaPx5
namespace Go.Proofs.Ytfbgkcadnmcakaa.Px
open Go.Proofs.Ytfbgkcadnmcakaa.Given
open Go.RowKit Go.Proofs.YtfbgkcadnmcakaaW.PrintWords Go.Proofs.YtfbgkcadnmcakaaW.PrintLast Go.Proofs.YtfbgkcadnmcakaaW.PrintMore
attribute [local go_sem] a2w a2u a3d a3c a2q a2r a2x a2y
set_option linter.unusedVariables false
set_option linter.unusedSimpArgs false
def a2c.l0 : Nat → Int → List Int → Int → Int → Option (Int)
 | 0, _, _, _, _ => none
 | k + 1, x3, x6, x7, x8 => if x8 < x7 then (if 0 ≤ x8 then (if x8 < (x6.length : Int) then (if (rd x6 x8) = x3 then (a2c.l0 k x3 x6 x7 (wrap64 (x8 + 1))) else (some (rd x6 x8))) else (none)) else (none)) else (some x3)
def a2c.f (k : Nat) (l0 : List Int) : Option (Int) := a2c.l0 k 0 l0 (l0.length : Int) 0
theorem a2c.a1k : ∀ k, (∀ y0 y1 y2 y3, LeO (a2c.l0 k y0 y1 y2 y3) (a2c.l0 (k + 1) y0 y1 y2 y3))
 | 0 => fun _ _ _ _ r h => by simp [a2c.l0] at h
 | k + 1 => by
  have ih0 := a2c.a1k k
  ·intro y0 y1 y2 y3
   unfold a2c.l0
   with_reducible (repeat' first | apply ih0 | apply LeO.refl | apply LeO.none | apply LeO.ite | refine LeO.bind ?_ (fun _ => ?_))
theorem a2c.mono : ∀ a0 k, LeO (a2c.f k a0) (a2c.f (k + 1) a0) := by
 intro a0 k
 have ih0 := a2c.a1k k
 unfold a2c.f
 with_reducible (repeat' first | apply ih0 | apply LeO.refl | apply LeO.none | apply LeO.ite | refine LeO.bind ?_ (fun _ => ?_))
set_option maxHeartbeats 8000000 in
set_option maxRecDepth 100000 in
theorem a2c.calls (k : Nat) (A0 : Option Addr) (c0 : Nat) (l0 : List Int) (r : Int) (w : World) (hr0 : Kd.C (Kd.int .i64) w A0 l0.length l0) (hc0 : l0.length ≤ c0) (h : a2c.f k l0 = some r) :
  Calls Try.prog 31 #[.slice A0 l0.length c0] w fun e w' => e = .returned (.int .i64 r) ∧ a3j w w' := by
 have HR0 := am_ hr0
 have HC0 := am_ hc0
 clear hr0 hc0
 have H : (a2c.l0 k 0 l0 (l0.length : Int) 0) = some r := h
 clear h
 have H' := am_ H
 clear H
 go_enter Try.func31, Try.ntmps31
 go_wp2
 go_loopg [8] k (fun kq v8 w' => ∃ (x8_1 : Int), v8 = .int .i64 x8_1 ∧ Aside0 (a2c.l0 kq 0 l0 (l0.length : Int) x8_1 = some r) ∧ Aside0 (kq ≤ k) ∧ a3j w w')
 case atStart => exact ⟨(0), qs_, H', ⟨Nat.le_refl _⟩, qy_⟩
 case round =>
  clear H'
  obtain ⟨x8_1, rfl, HA, HK1, ⟨m1, rfl⟩⟩ := hrel
  cases gk with
  | zero => exact absurd HA.out (by simp [a2c.l0])
  | succ k1 =>
   have H := HA.out
   clear HA
   simp only [a2c.l0] at H
   by_cases c2 : x8_1 < (l0.length : Int)
   ·rw [if_pos c2] at H
    have c2b0 : decide (x8_1 < (l0.length : Int)) = true := decide_eq_true c2
    clear c2
    by_cases c3 : 0 ≤ x8_1
    ·rw [if_pos c3] at H
     have c3b0 : decide (0 ≤ x8_1) = true := decide_eq_true c3
     clear c3
     by_cases c4 : x8_1 < (l0.length : Int)
     ·rw [if_pos c4] at H
      have c4b0 : decide (x8_1 < (l0.length : Int)) = true := decide_eq_true c4
      clear c4
      by_cases c5 : (rd l0 x8_1) = 0
      ·rw [if_pos c5] at H
       have c5b0 : ((rd l0 x8_1) == 0) = true := beq_iff_eq.mpr c5
       have c5b1 : ((rd l0 x8_1) != 0) = false := bne_eq_false_iff_eq.mpr c5
       clear c5
       have H' := am_ H
       clear H
       have p219 : 0 ≤ (x8_1 : Int) := ot_
       have q219 : x8_1 < (l0.length : Int) := ot_
       obtain ⟨ad219, e219, hx219_0⟩ := Kd.a4l HR0.out x8_1 p219 q219
       cases e219
       replace p219 := eq_true p219
       replace q219 := eq_true q219
       go_wp2
       go_roundg k1
       case measure => have := HK1.out; omega
       case rel => exact ⟨(wrap64 (x8_1 + 1)), qs_, H', ⟨by have := HK1.out; omega⟩, qy_⟩
      ·rw [if_neg c5] at H
       have c5b0 : ((rd l0 x8_1) == 0) = false := beq_eq_false_iff_ne.mpr c5
       have c5b1 : ((rd l0 x8_1) != 0) = true := bne_iff_ne.mpr c5
       obtain rfl := si_ H
       have p219 : 0 ≤ (x8_1 : Int) := ot_
       have q219 : x8_1 < (l0.length : Int) := ot_
       obtain ⟨ad219, e219, hx219_0⟩ := Kd.a4l HR0.out x8_1 p219 q219
       cases e219
       replace p219 := eq_true p219
       replace q219 := eq_true q219
       go_wp2
       go_ret
       exact ⟨qs_, qy_⟩
     ·rw [if_neg c4] at H
      exact absurd H (by simp)
    ·rw [if_neg c3] at H
     exact absurd H (by simp)
   ·rw [if_neg c2] at H
    have c2b0 : decide (x8_1 < (l0.length : Int)) = false := decide_eq_false c2
    clear c2
    obtain rfl := si_ H
    go_wp2
    go_ret
    exact ⟨qs_, qy_⟩
def a2i.f (k : Nat) (a0_0 a0_1 a0_2 a0_3 a0_4 a0_5 a1_0 a1_1 a1_2 a1_3 a1_4 a1_5 : Int) : Option (Int) := (cmp_Compare_int.f a0_5 a1_5).bind fun t222 => ((cmp_Compare_int.f a0_0 a1_0).bind fun t223 => ((a2c.f k (([t222, t223] : List Int))).bind fun t227 => (some t227)))
theorem a2i.mono : ∀ a0 a1 a2 a3 a4 a5 a6 a7 a8 a9 a10 a11 k, LeO (a2i.f k a0 a1 a2 a3 a4 a5 a6 a7 a8 a9 a10 a11) (a2i.f (k + 1) a0 a1 a2 a3 a4 a5 a6 a7 a8 a9 a10 a11) := by
 intro a0 a1 a2 a3 a4 a5 a6 a7 a8 a9 a10 a11 k
 unfold a2i.f
 with_reducible (repeat' first | apply a2c.mono | apply LeO.refl | apply LeO.none | apply LeO.ite | refine LeO.bind ?_ (fun _ => ?_))
def a2i.T1 : Bool × List (List Nat × List Nat) := (true, [([], []), ([0], [0]), ([1], [1]), ([], []), ([3], [3]), ([4], [4]), ([2, 5], [2, 5]), ([], []), ([7], [7]), ([], []), ([9], [9]), ([8, 10, 6], [8, 10]), ([6, 11], [6, 11]), ([12, 11], [12]), ([13, 13, 0, 1, 2, 3, 4, 5, 6, 7, 8, 9, 10, 11, 12, 13], [13])])
def a2i.B1 : List Nat := [0, 1, 3, 0, 8, 24, 63, 0, 128, 0, 512, 2047, 4095, 8191, 16383]
theorem a2i.tab1 : rtab .any (opsOf Try.f30 1) = a2i.T1 := by kernel_rfl
theorem a2i.b5r : a3w a2i.T1.2 a2i.B1 = true := by kernel_rfl
end Go.Proofs.Ytfbgkcadnmcakaa.Px
