/- Contracts of Go functions, printed. Conditions: as each theorem states. -/
import Derived.Test.YtemnlgefngjliaaPx0
namespace Go.Proofs.Ytemnlgefngjliaa.Px
open Go.Proofs.Ytemnlgefngjliaa.Given
open Go.RowKit Go.Proofs.YtemnlgefngjliaaW.PrintWords Go.Proofs.YtemnlgefngjliaaW.PrintLast Go.Proofs.YtemnlgefngjliaaW.PrintMore
attribute [local go_sem] a2f a2g a2r a2s a1x a1y a2h a2i
set_option linter.unusedVariables false
set_option linter.unusedSimpArgs false
def a3q.f (a0 : Int) : Option (Bool) := if 0 ≤ a0 then (some (decide (a0 ≤ 36524))) else (some false)
set_option maxHeartbeats 8000000 in
set_option maxRecDepth 100000 in
theorem a3q.calls (a0 : Int) (r : Bool) (w : World) (h : a3q.f a0 = some r) :
  Calls Try.prog 58 #[.int .i64 a0] w fun e w' => e = .returned (.bool r) ∧ a1j w w' := by
 have H : (if 0 ≤ a0 then (some (decide (a0 ≤ 36524))) else (some false)) = some r := h
 clear h
 by_cases c2 : 0 ≤ a0
 ·rw [if_pos c2] at H
  have c2b0 : decide (0 ≤ a0) = true := decide_eq_true c2
  clear c2
  obtain rfl := si_ H
  go_enter Try.func58, Try.ntmps58
  go_wp2
  go_ret
  exact ⟨qs_, qy_⟩
 ·rw [if_neg c2] at H
  have c2b0 : decide (0 ≤ a0) = false := decide_eq_false c2
  clear c2
  obtain rfl := si_ H
  go_enter Try.func58, Try.ntmps58
  go_wp2
  go_ret
  exact ⟨qs_, qy_⟩
mutual
def a0k.l0 : Nat → List Int → List Int → Int → Int → Option (Bool)
 | 0, _, _, _, _ => none
 | k + 1, x0, x5, x6, x7 => if x7 < x6 then (if 0 ≤ x7 then (if x7 < (x5.length : Int) then ((a3q.f (rd x5 x7)).bind fun t102 => (if t102 = true then (if x7 > 0 then (if 0 ≤ (wrap64 (x7 - 1)) then (if (wrap64 (x7 - 1)) < (x0.length : Int) then (a0k.j1 k x0 x5 x6 x7 (decide ((rd x5 x7) ≤ (rd x0 (wrap64 (x7 - 1)))))) else (none)) else (none)) else (a0k.j1 k x0 x5 x6 x7 false)) else (a0k.j1 k x0 x5 x6 x7 true))) else (none)) else (none)) else (some (decide ((x0.length : Int) ≤ 100)))
def a0k.j1 : Nat → List Int → List Int → Int → Int → Bool → Option (Bool)
 | 0, _, _, _, _, _ => none
 | k + 1, x0, x5, x6, x7, x27 => if x27 = true then (some false) else (a0k.l0 k x0 x5 x6 (wrap64 (x7 + 1)))
end
def a0k.f (k : Nat) (l0 : List Int) : Option (Bool) := a0k.l0 k l0 l0 (l0.length : Int) 0
theorem a0k.a0t : ∀ k, (∀ y0 y1 y2 y3, LeO (a0k.l0 k y0 y1 y2 y3) (a0k.l0 (k + 1) y0 y1 y2 y3)) ∧ (∀ y0 y1 y2 y3 y4, LeO (a0k.j1 k y0 y1 y2 y3 y4) (a0k.j1 (k + 1) y0 y1 y2 y3 y4))
 | 0 => ⟨fun _ _ _ _ r h => by simp [a0k.l0] at h, fun _ _ _ _ _ r h => by simp [a0k.j1] at h⟩
 | k + 1 => by
  obtain ⟨ih0, ih1⟩ := a0k.a0t k
  refine ⟨?_, ?_⟩
  ·intro y0 y1 y2 y3
   unfold a0k.l0
   with_reducible (repeat' first | apply ih0 | apply ih1 | apply LeO.refl | apply LeO.none | apply LeO.ite | refine LeO.bind ?_ (fun _ => ?_))
  ·intro y0 y1 y2 y3 y4
   unfold a0k.j1
   with_reducible (repeat' first | apply ih0 | apply ih1 | apply LeO.refl | apply LeO.none | apply LeO.ite | refine LeO.bind ?_ (fun _ => ?_))
theorem a0k.mono : ∀ a0 k, LeO (a0k.f k a0) (a0k.f (k + 1) a0) := by
 intro a0 k
 obtain ⟨ih0, ih1⟩ := a0k.a0t k
 unfold a0k.f
 with_reducible (repeat' first | apply ih0 | apply ih1 | apply LeO.refl | apply LeO.none | apply LeO.ite | refine LeO.bind ?_ (fun _ => ?_))
set_option maxHeartbeats 8000000 in
set_option maxRecDepth 100000 in
theorem a0k.calls (k : Nat) (A0 : Option Addr) (c0 : Nat) (l0 : List Int) (r : Bool) (w : World) (hr0 : Kd.C (Kd.int .i64) w A0 l0.length l0) (hc0 : l0.length ≤ c0) (h : a0k.f k l0 = some r) :
  Calls Try.prog 59 #[.slice A0 l0.length c0] w fun e w' => e = .returned (.bool r) ∧ a1j w w' := by
 have HR0 := am_ hr0
 have HC0 := am_ hc0
 clear hr0 hc0
 have H : (a0k.l0 k l0 l0 (l0.length : Int) 0) = some r := h
 clear h
 have H' := am_ H
 clear H
 go_enter Try.func59, Try.ntmps59
 go_wp2
 go_loopg [7] k (fun kq v7 w' => ∃ (x7_1 : Int), v7 = .int .i64 x7_1 ∧ Aside0 (a0k.l0 kq l0 l0 (l0.length : Int) x7_1 = some r) ∧ Aside0 (kq ≤ k) ∧ a1j w w')
 case atStart => exact ⟨(0), qs_, H', ⟨Nat.le_refl _⟩, qy_⟩
 case round =>
  clear H'
  obtain ⟨x7_1, rfl, HA, HK1, ⟨m1, rfl⟩⟩ := hrel
  cases gk with
  | zero => exact absurd HA.out (by simp [a0k.l0])
  | succ k1 =>
   have H := HA.out
   clear HA
   simp only [a0k.l0] at H
   by_cases c2 : x7_1 < (l0.length : Int)
   ·rw [if_pos c2] at H
    have c2b0 : decide (x7_1 < (l0.length : Int)) = true := decide_eq_true c2
    clear c2
    by_cases c3 : 0 ≤ x7_1
    ·rw [if_pos c3] at H
     have c3b0 : decide (0 ≤ x7_1) = true := decide_eq_true c3
     clear c3
     by_cases c4 : x7_1 < (l0.length : Int)
     ·rw [if_pos c4] at H
      have c4b0 : decide (x7_1 < (l0.length : Int)) = true := decide_eq_true c4
      clear c4
      have HC5 := am_ H
      clear H
      have p101 : 0 ≤ (x7_1 : Int) := ot_
      have q101 : x7_1 < (l0.length : Int) := ot_
      obtain ⟨ad101, e101, hx101_0⟩ := Kd.a2o HR0.out x7_1 p101 q101
      cases e101
      replace p101 := eq_true p101
      replace q101 := eq_true q101
      go_upto_region 4 with (fail)
      go_cut [27] (fun v27 wc => ∃ (kq : Nat) (x27_4 : Bool), v27 = .bool x27_4 ∧ Aside0 (a0k.j1 kq l0 l0 (l0.length : Int) x7_1 x27_4 = some r) ∧ Aside0 (kq ≤ k1) ∧ a1j w wc)
      case first =>
       have H := HC5.out
       clear HC5
       replace H := bm_ H
       obtain ⟨t102, A60, H⟩ := H
       replace H : (if t102 = true then (if x7_1 > 0 then (if 0 ≤ (wrap64 (x7_1 - 1)) then (if (wrap64 (x7_1 - 1)) < (l0.length : Int) then (a0k.j1 k1 l0 l0 (l0.length : Int) x7_1 (decide ((rd l0 x7_1) ≤ (rd l0 (wrap64 (x7_1 - 1)))))) else (none)) else (none)) else (a0k.j1 k1 l0 l0 (l0.length : Int) x7_1 false)) else (a0k.j1 k1 l0 l0 (l0.length : Int) x7_1 true)) = some r := H
       have A6 := am_ A60
       clear A60
       by_cases c7 : t102 = true
       ·subst c7
        have H1 : (if x7_1 > 0 then (if 0 ≤ (wrap64 (x7_1 - 1)) then (if (wrap64 (x7_1 - 1)) < (l0.length : Int) then (a0k.j1 k1 l0 l0 (l0.length : Int) x7_1 (decide ((rd l0 x7_1) ≤ (rd l0 (wrap64 (x7_1 - 1)))))) else (none)) else (none)) else (a0k.j1 k1 l0 l0 (l0.length : Int) x7_1 false)) = some r := by rw [if_pos rfl] at H; exact H
        clear H
        have H := H1
        clear H1
        by_cases c8 : x7_1 > 0
        ·rw [if_pos c8] at H
         have c8b0 : decide (0 < x7_1) = true := decide_eq_true c8
         clear c8
         (first | rw [c8b0] | (simp only [a3h, a3u]; rw [c8b0]) | skip)
         obtain ⟨ji9, hji9⟩ : ∃ j_ : Int, (wrap64 (x7_1 - 1)) = j_ := ⟨_, rfl⟩
         replace H : (if 0 ≤ (ji9) then (if (ji9) < (l0.length : Int) then (a0k.j1 k1 l0 l0 (l0.length : Int) x7_1 (decide ((rd l0 x7_1) ≤ (rd l0 (ji9))))) else (none)) else (none)) = some r := by first | (rw [hji9] at H; exact H) | (simp only [hji9] at H ⊢; exact H)
         (try rw [hji9] at A6)
         have hji9w : (IntKind.i64.wrap (x7_1 - 1)) = ji9 := (a3h _).trans hji9
         by_cases c10 : 0 ≤ (ji9)
         ·rw [if_pos c10] at H
          have c10b0 : decide (0 ≤ (ji9)) = true := decide_eq_true c10
          clear c10
          by_cases c11 : (ji9) < (l0.length : Int)
          ·rw [if_pos c11] at H
           have c11b0 : decide ((ji9) < (l0.length : Int)) = true := decide_eq_true c11
           clear c11
           have H' := am_ H
           clear H
           go_wp2_with (first | ((with_reducible refine a0e (f := 58) rfl ?_); refine a0w (some 13) rfl rfl Try.func58 (by kernel_rfl) rfl #[.int .i64 (rd l0 x7_1)] rfl ql_ ?_; (with_reducible refine (a3q.calls (rd l0 x7_1) true _ A6.out).mono ?_); rintro e w' ⟨rfl, ⟨nd, rfl⟩⟩; refine ⟨_, rfl, ?_⟩; have p103 : 0 ≤ ((ji9) : Int) := ot_; have q103 : (ji9) < (l0.length : Int) := ot_; obtain ⟨ad103, e103, hx103_0⟩ := Kd.a2o HR0.out (ji9) p103 q103; obtain rfl : ad101 = ad103 := (by injection e103); replace p103 := eq_true p103; replace q103 := eq_true q103))
           try subst hji9
           go_meet
           case rel => exact ⟨_, (decide ((rd l0 x7_1) ≤ (rd l0 ((wrap64 (x7_1 - 1)))))), (by first | rfl | (simp; done) | (simp only [← hji9] <;> (first | rfl | simp)) | (simp [*]; done)), H', ⟨by have := HK1.out; first | omega | exact Nat.le_refl _⟩, qy_⟩
          ·rw [if_neg c11] at H
           exact absurd H (by simp)
         ·rw [if_neg c10] at H
          exact absurd H (by simp)
        ·rw [if_neg c8] at H
         have c8b0 : decide (0 < x7_1) = false := decide_eq_false c8
         clear c8
         (first | rw [c8b0] | (simp only [a3h, a3u]; rw [c8b0]) | skip)
         have H' := am_ H
         clear H
         go_wp2_with (first | ((with_reducible refine a0e (f := 58) rfl ?_); refine a0w (some 13) rfl rfl Try.func58 (by kernel_rfl) rfl #[.int .i64 (rd l0 x7_1)] rfl ql_ ?_; (with_reducible refine (a3q.calls (rd l0 x7_1) true _ A6.out).mono ?_); rintro e w' ⟨rfl, ⟨nd, rfl⟩⟩; refine ⟨_, rfl, ?_⟩))
         go_meet
         case rel => exact ⟨_, (false), qs_, H', ⟨by have := HK1.out; first | omega | exact Nat.le_refl _⟩, qy_⟩
       ·replace c7 := be_ c7
        subst c7
        have H1 : (a0k.j1 k1 l0 l0 (l0.length : Int) x7_1 true) = some r := by rw [if_neg (show ¬ (false = true) by decide)] at H; exact H
        clear H
        have H := H1
        clear H1
        have H' := am_ H
        clear H
        go_wp2_with (first | ((with_reducible refine a0e (f := 58) rfl ?_); refine a0w (some 13) rfl rfl Try.func58 (by kernel_rfl) rfl #[.int .i64 (rd l0 x7_1)] rfl ql_ ?_; (with_reducible refine (a3q.calls (rd l0 x7_1) false _ A6.out).mono ?_); rintro e w' ⟨rfl, ⟨nd, rfl⟩⟩; refine ⟨_, rfl, ?_⟩))
        go_meet
        case rel => exact ⟨_, (true), qs_, H', ⟨by have := HK1.out; first | omega | exact Nat.le_refl _⟩, qy_⟩
      case rest =>
       clear HC5
       try clear c1
       try clear p1
       try clear q1
       try clear hx1
       try clear c2
       try clear c2b0
       try clear p2
       try clear c3
       try clear c3b0
       try clear c4
       try clear c4b0
       try clear c5
       try clear p6
       try clear c7
       try clear c8
       try clear c8b0
       try clear c10
       try clear c10b0
       try clear p10
       try clear q10
       try clear hx10
       try clear c11
       try clear c11b0
       try clear hx101_0
       try clear hx103_0
       try clear p101
       try clear p103
       try clear q101
       try clear q103
       obtain ⟨kq, x27_4, rfl, HA, HJ4, ⟨mc4, rfl⟩⟩ := hcut
       cases kq with
       | zero => exact absurd HA.out (by simp [a0k.j1])
       | succ kj4 =>
        have H := HA.out
        clear HA
        simp only [a0k.j1] at H
        by_cases c12 : x27_4 = true
        ·subst c12
         have H1 : (some false) = some r := by rw [if_pos rfl] at H; exact H
         clear H
         have H := H1
         clear H1
         obtain rfl := si_ H
         go_wp2
         go_ret
         exact ⟨qs_, qy_⟩
        ·replace c12 := be_ c12
         subst c12
         have H1 : (a0k.l0 kj4 l0 l0 (l0.length : Int) (wrap64 (x7_1 + 1))) = some r := by rw [if_neg (show ¬ (false = true) by decide)] at H; exact H
         clear H
         have H := H1
         clear H1
         have H' := am_ H
         clear H
         go_wp2
         go_roundg kj4
         case measure => have := HK1.out; have := HJ4.out; omega
         case rel => exact ⟨(wrap64 (x7_1 + 1)), qs_, H', ⟨by have := HK1.out; have := HJ4.out; omega⟩, qy_⟩
     ·rw [if_neg c4] at H
      exact absurd H (by simp)
    ·rw [if_neg c3] at H
     exact absurd H (by simp)
   ·rw [if_neg c2] at H
    have c2b0 : decide (x7_1 < (l0.length : Int)) = false := decide_eq_false c2
    clear c2
    obtain rfl := si_ H
    go_wp2
    go_ret
    exact ⟨qs_, qy_⟩
def cmp_isNaN_int.f (a0 : Int) : Option (Bool) := some (a0 != a0)
set_option maxHeartbeats 8000000 in
set_option maxRecDepth 100000 in
theorem cmp_isNaN_int.calls (a0 : Int) (r : Bool) (w : World) (h : cmp_isNaN_int.f a0 = some r) :
  Calls Try.prog 81 #[.int .i64 a0] w fun e w' => e = .returned (.bool r) ∧ a1j w w' := by
 have H : (some (a0 != a0)) = some r := h
 clear h
 obtain rfl := si_ H
 go_enter Try.func81, Try.ntmps81
 go_wp2
 go_ret
 exact ⟨qs_, qy_⟩
def cmp_Less_int.f (a0 a1 : Int) : Option (Bool) := (cmp_isNaN_int.f a0).bind fun t104 => (if t104 = true then ((cmp_isNaN_int.f a1).bind fun t105 => (if t105 = true then (some (decide (a0 < a1))) else (some true))) else (some (decide (a0 < a1))))
set_option maxHeartbeats 8000000 in
set_option maxRecDepth 100000 in
theorem cmp_Less_int.calls (a0 a1 : Int) (r : Bool) (w : World) (h : cmp_Less_int.f a0 a1 = some r) :
  Calls Try.prog 83 #[.int .i64 a0, .int .i64 a1] w fun e w' => e = .returned (.bool r) ∧ a1j w w' := by
 have H : ((cmp_isNaN_int.f a0).bind fun t104 => (if t104 = true then ((cmp_isNaN_int.f a1).bind fun t105 => (if t105 = true then (some (decide (a0 < a1))) else (some true))) else (some (decide (a0 < a1))))) = some r := h
 clear h
 replace H := bm_ H
 obtain ⟨t104, A30, H⟩ := H
 replace H : (if t104 = true then ((cmp_isNaN_int.f a1).bind fun t105 => (if t105 = true then (some (decide (a0 < a1))) else (some true))) else (some (decide (a0 < a1)))) = some r := H
 have A3 := am_ A30
 clear A30
 by_cases c4 : t104 = true
 ·subst c4
  have H1 : ((cmp_isNaN_int.f a1).bind fun t105 => (if t105 = true then (some (decide (a0 < a1))) else (some true))) = some r := by rw [if_pos rfl] at H; exact H
  clear H
  have H := H1
  clear H1
  replace H := bm_ H
  obtain ⟨t105, A50, H⟩ := H
  replace H : (if t105 = true then (some (decide (a0 < a1))) else (some true)) = some r := H
  have A5 := am_ A50
  clear A50
  by_cases c6 : t105 = true
  ·subst c6
   have H1 : (some (decide (a0 < a1))) = some r := by rw [if_pos rfl] at H; exact H
   clear H
   have H := H1
   clear H1
   obtain rfl := si_ H
   go_enter Try.func83, Try.ntmps83
   go_wp2_with (first | ((with_reducible refine a0e (f := 81) rfl ?_); refine a0w (some 6) rfl rfl Try.func81 (by kernel_rfl) rfl #[.int .i64 a0] rfl ql_ ?_; (with_reducible refine (cmp_isNaN_int.calls a0 true _ A3.out).mono ?_); rintro e w' ⟨rfl, ⟨nd, rfl⟩⟩; refine ⟨_, rfl, ?_⟩) | (go_at_call 81; (with_reducible refine (cmp_isNaN_int.calls a1 true _ A5.out).mono ?_); rintro e w' ⟨rfl, ⟨nd, rfl⟩⟩))
   go_ret
   exact ⟨qs_, qy_⟩
  ·replace c6 := be_ c6
   subst c6
   have H1 : (some true) = some r := by rw [if_neg (show ¬ (false = true) by decide)] at H; exact H
   clear H
   have H := H1
   clear H1
   obtain rfl := si_ H
   go_enter Try.func83, Try.ntmps83
   go_wp2_with (first | ((with_reducible refine a0e (f := 81) rfl ?_); refine a0w (some 6) rfl rfl Try.func81 (by kernel_rfl) rfl #[.int .i64 a0] rfl ql_ ?_; (with_reducible refine (cmp_isNaN_int.calls a0 true _ A3.out).mono ?_); rintro e w' ⟨rfl, ⟨nd, rfl⟩⟩; refine ⟨_, rfl, ?_⟩) | (go_at_call 81; (with_reducible refine (cmp_isNaN_int.calls a1 false _ A5.out).mono ?_); rintro e w' ⟨rfl, ⟨nd, rfl⟩⟩))
   go_ret
   exact ⟨qs_, qy_⟩
 ·replace c4 := be_ c4
  subst c4
  have H1 : (some (decide (a0 < a1))) = some r := by rw [if_neg (show ¬ (false = true) by decide)] at H; exact H
  clear H
  have H := H1
  clear H1
  obtain rfl := si_ H
  go_enter Try.func83, Try.ntmps83
  go_wp2_with (first | ((with_reducible refine a0e (f := 81) rfl ?_); refine a0w (some 6) rfl rfl Try.func81 (by kernel_rfl) rfl #[.int .i64 a0] rfl ql_ ?_; (with_reducible refine (cmp_isNaN_int.calls a0 false _ A3.out).mono ?_); rintro e w' ⟨rfl, ⟨nd, rfl⟩⟩; refine ⟨_, rfl, ?_⟩))
  go_ret
  exact ⟨qs_, qy_⟩
def a2a.f (a0 : Int) : Option (Bool) := some (a0 != a0)
set_option maxHeartbeats 8000000 in
set_option maxRecDepth 100000 in
theorem a2a.calls (a0 : Int) (r : Bool) (w : World) (h : a2a.f a0 = some r) :
  Calls Try.prog 84 #[.int .i64 a0] w fun e w' => e = .returned (.bool r) ∧ a1j w w' := by
 have H : (some (a0 != a0)) = some r := h
 clear h
 obtain rfl := si_ H
 go_enter Try.func84, Try.ntmps84
 go_wp2
 go_ret
 exact ⟨qs_, qy_⟩
def a1n.l0 : Nat → List Int → Int → Int → Int → Int → Option (Int × Bool)
 | 0, _, _, _, _, _ => none
 | k + 1, x0, x1, x6, x7, x8 => if x7 < x8 then (if 0 ≤ (wrap64 ((IntKind.u64.wrap (wrap64 (x7 + x8))) / 2)) then (if (wrap64 ((IntKind.u64.wrap (wrap64 (x7 + x8))) / 2)) < (x0.length : Int) then ((cmp_Less_int.f (rd x0 (wrap64 ((IntKind.u64.wrap (wrap64 (x7 + x8))) / 2))) x1).bind fun t107 => (if t107 = true then (a1n.l0 k x0 x1 x6 (wrap64 ((wrap64 ((IntKind.u64.wrap (wrap64 (x7 + x8))) / 2)) + 1)) x8) else (a1n.l0 k x0 x1 x6 x7 (wrap64 ((IntKind.u64.wrap (wrap64 (x7 + x8))) / 2))))) else (none)) else (none)) else (if x7 < x6 then (if 0 ≤ x7 then (if x7 < (x0.length : Int) then (if (rd x0 x7) = x1 then (some (x7, true)) else ((a2a.f (rd x0 x7)).bind fun t110 => (if t110 = true then ((a2a.f x1).bind fun t111 => (some (x7, t111))) else (some (x7, false))))) else (none)) else (none)) else (some (x7, false)))
def a1n.f (k : Nat) (l0 : List Int) (a1 : Int) : Option (Int × Bool) := a1n.l0 k l0 a1 (l0.length : Int) 0 (l0.length : Int)
theorem a1n.a0t : ∀ k, (∀ y0 y1 y2 y3 y4, LeO (a1n.l0 k y0 y1 y2 y3 y4) (a1n.l0 (k + 1) y0 y1 y2 y3 y4))
 | 0 => fun _ _ _ _ _ r h => by simp [a1n.l0] at h
 | k + 1 => by
  have ih0 := a1n.a0t k
  ·intro y0 y1 y2 y3 y4
   unfold a1n.l0
   with_reducible (repeat' first | apply ih0 | apply LeO.refl | apply LeO.none | apply LeO.ite | refine LeO.bind ?_ (fun _ => ?_))
theorem a1n.mono : ∀ a0 a1 k, LeO (a1n.f k a0 a1) (a1n.f (k + 1) a0 a1) := by
 intro a0 a1 k
 have ih0 := a1n.a0t k
 unfold a1n.f
 with_reducible (repeat' first | apply ih0 | apply LeO.refl | apply LeO.none | apply LeO.ite | refine LeO.bind ?_ (fun _ => ?_))
set_option maxHeartbeats 8000000 in
set_option maxRecDepth 100000 in
theorem a1n.calls (k : Nat) (A0 : Option Addr) (c0 : Nat) (l0 : List Int) (a1 r1 : Int) (r2 : Bool) (w : World) (hr0 : Kd.C (Kd.int .i64) w A0 l0.length l0) (hc0 : l0.length ≤ c0) (h : a1n.f k l0 a1 = some (r1, r2)) :
  Calls Try.prog 73 #[.slice A0 l0.length c0, .int .i64 a1] w fun e w' => e = .returned (.tuple #[.int .i64 r1, .bool r2]) ∧ a1j w w' := by
 have HR0 := am_ hr0
 have HC0 := am_ hc0
 clear hr0 hc0
 have H : (a1n.l0 k l0 a1 (l0.length : Int) 0 (l0.length : Int)) = some (r1, r2) := h
 clear h
 have H' := am_ H
 clear H
 go_enter Try.func73, Try.ntmps73
 go_wp2
 go_loopg [7, 8] k (fun kq v7 v8 w' => ∃ (x7_1 : Int) (x8_1 : Int), v7 = .int .i64 x7_1 ∧ v8 = .int .i64 x8_1 ∧ Aside0 (a1n.l0 kq l0 a1 (l0.length : Int) x7_1 x8_1 = some (r1, r2)) ∧ Aside0 (kq ≤ k) ∧ a1j w w')
 case atStart => exact ⟨(0), ((l0.length : Int)), qs_, qs_, H', ⟨Nat.le_refl _⟩, qy_⟩
 case round =>
  clear H'
  try clear p2
  obtain ⟨x7_1, x8_1, rfl, rfl, HA, HK1, ⟨m1, rfl⟩⟩ := hrel
  cases gk with
  | zero => exact absurd HA.out (by simp [a1n.l0])
  | succ k1 =>
   have H := HA.out
   clear HA
   simp only [a1n.l0] at H
   by_cases c3 : x7_1 < x8_1
   ·rw [if_pos c3] at H
    have c3b0 : decide (x7_1 < x8_1) = true := decide_eq_true c3
    clear c3
    obtain ⟨ji4, hji4⟩ : ∃ j_ : Int, (wrap64 ((IntKind.u64.wrap (wrap64 (x7_1 + x8_1))) / 2)) = j_ := ⟨_, rfl⟩
    replace H : (if 0 ≤ (ji4) then (if (ji4) < (l0.length : Int) then ((cmp_Less_int.f (rd l0 (ji4)) a1).bind fun t107 => (if t107 = true then (a1n.l0 k1 l0 a1 (l0.length : Int) (wrap64 ((ji4) + 1)) x8_1) else (a1n.l0 k1 l0 a1 (l0.length : Int) x7_1 ji4))) else (none)) else (none)) = some (r1, r2) := by first | (rw [hji4] at H; exact H) | (simp only [hji4] at H ⊢; exact H)
    have hji4w : (IntKind.i64.wrap ((IntKind.u64.wrap (wrap64 (x7_1 + x8_1))) / 2)) = ji4 := (a3h _).trans hji4
    by_cases c5 : 0 ≤ (ji4)
    ·rw [if_pos c5] at H
     have c5b0 : decide (0 ≤ (ji4)) = true := decide_eq_true c5
     clear c5
     by_cases c6 : (ji4) < (l0.length : Int)
     ·rw [if_pos c6] at H
      have c6b0 : decide ((ji4) < (l0.length : Int)) = true := decide_eq_true c6
      clear c6
      replace H := bm_ H
      obtain ⟨t107, A70, H⟩ := H
      replace H : (if t107 = true then (a1n.l0 k1 l0 a1 (l0.length : Int) (wrap64 ((ji4) + 1)) x8_1) else (a1n.l0 k1 l0 a1 (l0.length : Int) x7_1 ji4)) = some (r1, r2) := H
      have A7 := am_ A70
      clear A70
      by_cases c8 : t107 = true
      ·subst c8
       have H1 : (a1n.l0 k1 l0 a1 (l0.length : Int) (wrap64 ((ji4) + 1)) x8_1) = some (r1, r2) := by rw [if_pos rfl] at H; exact H
       clear H
       have H := H1
       clear H1
       have H' := am_ H
       clear H
       have p106 : 0 ≤ ((ji4) : Int) := ot_
       have q106 : (ji4) < (l0.length : Int) := ot_
       obtain ⟨ad106, e106, hx106_0⟩ := Kd.a2o HR0.out (ji4) p106 q106
       cases e106
       replace p106 := eq_true p106
       replace q106 := eq_true q106
       go_wp2_with (first | ((with_reducible refine a0e (f := 83) rfl ?_); refine a0w (some 27) rfl rfl Try.func83 (by kernel_rfl) rfl #[.int .i64 (rd l0 (ji4)), .int .i64 a1] rfl (by (try simp only [List.map_toArray, List.map_cons, List.map_nil]); first | done | (simp only [hji4]; rfl) | rfl | (simp only [List.length_drop, List.length_take]; rfl)) ?_; (with_reducible refine (cmp_Less_int.calls (rd l0 (ji4)) a1 true _ A7.out).mono ?_); rintro e w' ⟨rfl, ⟨nd, rfl⟩⟩; refine ⟨_, rfl, ?_⟩))
       go_roundg k1
       case measure => have := HK1.out; omega
       case rel => exact ⟨(wrap64 ((ji4) + 1)), (x8_1), (by first | rfl | (simp; done) | (simp only [← hji4] <;> (first | rfl | simp)) | (simp [*]; done)), qs_, H', ⟨by have := HK1.out; omega⟩, qy_⟩
      ·replace c8 := be_ c8
       subst c8
       have H1 : (a1n.l0 k1 l0 a1 (l0.length : Int) x7_1 ji4) = some (r1, r2) := by rw [if_neg (show ¬ (false = true) by decide)] at H; exact H
       clear H
       have H := H1
       clear H1
       have H' := am_ H
       clear H
       have p106 : 0 ≤ ((ji4) : Int) := ot_
       have q106 : (ji4) < (l0.length : Int) := ot_
       obtain ⟨ad106, e106, hx106_0⟩ := Kd.a2o HR0.out (ji4) p106 q106
       cases e106
       replace p106 := eq_true p106
       replace q106 := eq_true q106
       go_wp2_with (first | ((with_reducible refine a0e (f := 83) rfl ?_); refine a0w (some 27) rfl rfl Try.func83 (by kernel_rfl) rfl #[.int .i64 (rd l0 (ji4)), .int .i64 a1] rfl (by (try simp only [List.map_toArray, List.map_cons, List.map_nil]); first | done | (simp only [hji4]; rfl) | rfl | (simp only [List.length_drop, List.length_take]; rfl)) ?_; (with_reducible refine (cmp_Less_int.calls (rd l0 (ji4)) a1 false _ A7.out).mono ?_); rintro e w' ⟨rfl, ⟨nd, rfl⟩⟩; refine ⟨_, rfl, ?_⟩))
       go_roundg k1
       case measure => have := HK1.out; omega
       case rel => exact ⟨(x7_1), (ji4), qs_, (by first | rfl | (simp; done) | (simp only [← hji4] <;> (first | rfl | simp)) | (simp [*]; done)), H', ⟨by have := HK1.out; omega⟩, qy_⟩
     ·rw [if_neg c6] at H
      exact absurd H (by simp)
    ·rw [if_neg c5] at H
     exact absurd H (by simp)
   ·rw [if_neg c3] at H
    have c3b0 : decide (x7_1 < x8_1) = false := decide_eq_false c3
    clear c3
    by_cases c9 : x7_1 < (l0.length : Int)
    ·rw [if_pos c9] at H
     have c9b0 : decide (x7_1 < (l0.length : Int)) = true := decide_eq_true c9
     clear c9
     by_cases c10 : 0 ≤ x7_1
     ·rw [if_pos c10] at H
      have c10b0 : decide (0 ≤ x7_1) = true := decide_eq_true c10
      clear c10
      by_cases c11 : x7_1 < (l0.length : Int)
      ·rw [if_pos c11] at H
       have c11b0 : decide (x7_1 < (l0.length : Int)) = true := decide_eq_true c11
       clear c11
       by_cases c12 : (rd l0 x7_1) = a1
       ·rw [if_pos c12] at H
        have c12b0 : ((rd l0 x7_1) == a1) = true := beq_iff_eq.mpr c12
        have c12b1 : ((rd l0 x7_1) != a1) = false := bne_eq_false_iff_eq.mpr c12
        clear c12
        simp only [Option.some.injEq, Prod.mk.injEq] at H
        obtain ⟨rfl, rfl⟩ := H
        have p108 : 0 ≤ (x7_1 : Int) := ot_
        have q108 : x7_1 < (l0.length : Int) := ot_
        obtain ⟨ad108, e108, hx108_0⟩ := Kd.a2o HR0.out x7_1 p108 q108
        cases e108
        replace p108 := eq_true p108
        replace q108 := eq_true q108
        go_wp2
        go_ret2
        exact ⟨qs_, qy_⟩
       ·rw [if_neg c12] at H
        have c12b0 : ((rd l0 x7_1) == a1) = false := beq_eq_false_iff_ne.mpr c12
        have c12b1 : ((rd l0 x7_1) != a1) = true := bne_iff_ne.mpr c12
        replace H := bm_ H
        obtain ⟨t110, A130, H⟩ := H
        replace H : (if t110 = true then ((a2a.f a1).bind fun t111 => (some (x7_1, t111))) else (some (x7_1, false))) = some (r1, r2) := H
        have A13 := am_ A130
        clear A130
        by_cases c14 : t110 = true
        ·subst c14
         have H1 : ((a2a.f a1).bind fun t111 => (some (x7_1, t111))) = some (r1, r2) := by rw [if_pos rfl] at H; exact H
         clear H
         have H := H1
         clear H1
         replace H := bm_ H
         obtain ⟨t111, A150, H⟩ := H
         replace H : (some (x7_1, t111)) = some (r1, r2) := H
         have A15 := am_ A150
         clear A150
         simp only [Option.some.injEq, Prod.mk.injEq] at H
         obtain ⟨rfl, rfl⟩ := H
         have p108 : 0 ≤ (x7_1 : Int) := ot_
         have q108 : x7_1 < (l0.length : Int) := ot_
         obtain ⟨ad108, e108, hx108_0⟩ := Kd.a2o HR0.out x7_1 p108 q108
         cases e108
         replace p108 := eq_true p108
         replace q108 := eq_true q108
         have p109 : 0 ≤ (x7_1 : Int) := ot_
         have q109 : x7_1 < (l0.length : Int) := ot_
         obtain ⟨ad109, e109, hx109_0⟩ := Kd.a2o HR0.out x7_1 p109 q109
         obtain rfl : ad108 = ad109 := (by injection e109)
         replace p109 := eq_true p109
         replace q109 := eq_true q109
         go_wp2_with (first | (go_at_call 84; (with_reducible refine (a2a.calls (rd l0 x7_1) true _ A13.out).mono ?_); rintro e w' ⟨rfl, ⟨nd, rfl⟩⟩) | (go_at_call 84; (with_reducible refine (a2a.calls a1 t111 _ A15.out).mono ?_); rintro e w' ⟨rfl, ⟨nd, rfl⟩⟩))
         go_ret2
         exact ⟨qs_, qy_⟩
        ·replace c14 := be_ c14
         subst c14
         have H1 : (some (x7_1, false)) = some (r1, r2) := by rw [if_neg (show ¬ (false = true) by decide)] at H; exact H
         clear H
         have H := H1
         clear H1
         simp only [Option.some.injEq, Prod.mk.injEq] at H
         obtain ⟨rfl, rfl⟩ := H
         have p108 : 0 ≤ (x7_1 : Int) := ot_
         have q108 : x7_1 < (l0.length : Int) := ot_
         obtain ⟨ad108, e108, hx108_0⟩ := Kd.a2o HR0.out x7_1 p108 q108
         cases e108
         replace p108 := eq_true p108
         replace q108 := eq_true q108
         have p109 : 0 ≤ (x7_1 : Int) := ot_
         have q109 : x7_1 < (l0.length : Int) := ot_
         obtain ⟨ad109, e109, hx109_0⟩ := Kd.a2o HR0.out x7_1 p109 q109
         obtain rfl : ad108 = ad109 := (by injection e109)
         replace p109 := eq_true p109
         replace q109 := eq_true q109
         go_wp2_with (first | (go_at_call 84; (with_reducible refine (a2a.calls (rd l0 x7_1) false _ A13.out).mono ?_); rintro e w' ⟨rfl, ⟨nd, rfl⟩⟩))
         go_ret2
         exact ⟨qs_, qy_⟩
      ·rw [if_neg c11] at H
       exact absurd H (by simp)
     ·rw [if_neg c10] at H
      exact absurd H (by simp)
    ·rw [if_neg c9] at H
     have c9b0 : decide (x7_1 < (l0.length : Int)) = false := decide_eq_false c9
     clear c9
     simp only [Option.some.injEq, Prod.mk.injEq] at H
     obtain ⟨rfl, rfl⟩ := H
     go_wp2
     go_ret2
     exact ⟨qs_, qy_⟩
def a5g.f (a0 : Int) : Option (Int) := some (Int.tmod (wrap64 (a0 + 5)) 7)
set_option maxHeartbeats 8000000 in
set_option maxRecDepth 100000 in
theorem a5g.calls (a0 r : Int) (w : World) (h : a5g.f a0 = some r) :
  Calls Try.prog 74 #[.int .i64 a0] w fun e w' => e = .returned (.int .i64 r) ∧ a1j w w' := by
 have H : (some (Int.tmod (wrap64 (a0 + 5)) 7)) = some r := h
 clear h
 obtain rfl := si_ H
 go_enter Try.func74, Try.ntmps74
 go_wp2
 go_ret
 exact ⟨qs_, qy_⟩
def a2e.f (k : Nat) (l0 : List Int) (a1 : Int) : Option (Bool) := (a1n.f k l0 a1).bind fun bt112 => (if bt112.2 = true then (some true) else ((a5g.f a1).bind fun t114 => (some (decide (t114 > 4)))))
theorem a2e.mono : ∀ a0 a1 k, LeO (a2e.f k a0 a1) (a2e.f (k + 1) a0 a1) := by
 intro a0 a1 k
 unfold a2e.f
 with_reducible (repeat' first | apply a1n.mono | apply LeO.refl | apply LeO.none | apply LeO.ite | refine LeO.bind ?_ (fun _ => ?_))
set_option maxHeartbeats 8000000 in
set_option maxRecDepth 100000 in
theorem a2e.calls (k : Nat) (A0 : Option Addr) (c0 : Nat) (l0 : List Int) (a1 : Int) (r : Bool) (w : World) (hr0 : Kd.C (Kd.int .i64) w A0 l0.length l0) (hc0 : l0.length ≤ c0) (h : a2e.f k l0 a1 = some r) :
  Calls Try.prog 60 #[.slice A0 l0.length c0, .int .i64 a1] w fun e w' => e = .returned (.bool r) ∧ a1j w w' := by
 have HR0 := am_ hr0
 have HC0 := am_ hc0
 clear hr0 hc0
 have H : ((a1n.f k l0 a1).bind fun bt112 => (if bt112.2 = true then (some true) else ((a5g.f a1).bind fun t114 => (some (decide (t114 > 4)))))) = some r := h
 clear h
 replace H := bm_ H
 obtain ⟨⟨t112, t113⟩, A30, H⟩ := H
 replace H : (if t113 = true then (some true) else ((a5g.f a1).bind fun t114 => (some (decide (t114 > 4))))) = some r := H
 have A3 := am_ A30
 clear A30
 by_cases c4 : t113 = true
 ·subst c4
  have H1 : (some true) = some r := by rw [if_pos rfl] at H; exact H
  clear H
  have H := H1
  clear H1
  obtain rfl := si_ H
  go_enter Try.func60, Try.ntmps60
  go_wp2_with (first | ((with_reducible refine a0e (f := 73) rfl ?_); refine a0w (some 10) rfl rfl Try.func73 (by kernel_rfl) rfl #[.slice A0 l0.length c0, .int .i64 a1] rfl ql_ ?_; (with_reducible refine (a1n.calls k _ _ l0 a1 t112 true _ ?s1 ?s2 A3.out).mono ?_); (case s1 => repeat (first | exact HR0.out | (with_reducible refine Kd.a2b ?_ _) | (with_reducible refine Kd.a2c ?_ _) | (with_reducible refine Kd.a2m ?_))); (case s2 => exact HC0.out); rintro e w' ⟨rfl, ⟨nd, rfl⟩⟩; refine ⟨_, rfl, ?_⟩))
  go_ret
  exact ⟨qs_, qy_⟩
 ·replace c4 := be_ c4
  subst c4
  have H1 : ((a5g.f a1).bind fun t114 => (some (decide (t114 > 4)))) = some r := by rw [if_neg (show ¬ (false = true) by decide)] at H; exact H
  clear H
  have H := H1
  clear H1
  replace H := bm_ H
  obtain ⟨t114, A50, H⟩ := H
  replace H : (some (decide (t114 > 4))) = some r := H
  have A5 := am_ A50
  clear A50
  obtain rfl := si_ H
  go_enter Try.func60, Try.ntmps60
  go_wp2_with (first | ((with_reducible refine a0e (f := 73) rfl ?_); refine a0w (some 10) rfl rfl Try.func73 (by kernel_rfl) rfl #[.slice A0 l0.length c0, .int .i64 a1] rfl ql_ ?_; (with_reducible refine (a1n.calls k _ _ l0 a1 t112 false _ ?s1 ?s2 A3.out).mono ?_); (case s1 => repeat (first | exact HR0.out | (with_reducible refine Kd.a2b ?_ _) | (with_reducible refine Kd.a2c ?_ _) | (with_reducible refine Kd.a2m ?_))); (case s2 => exact HC0.out); rintro e w' ⟨rfl, ⟨nd, rfl⟩⟩; refine ⟨_, rfl, ?_⟩) | (go_at_call 74; (with_reducible refine (a5g.calls a1 t114 _ A5.out).mono ?_); rintro e w' ⟨rfl, ⟨nd, rfl⟩⟩))
  go_ret
  exact ⟨qs_, qy_⟩
end Go.Proofs.Ytemnlgefngjliaa.Px
