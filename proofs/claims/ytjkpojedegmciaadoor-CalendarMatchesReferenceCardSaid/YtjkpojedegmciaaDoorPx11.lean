/- Contracts of Go functions, written by a program of this session's own (wip/tools/myprint.py) out of the translation: each Go function does what the Lean function of its name says. Conditions: as each theorem states. -/
import Derived.Test.YtjkpojedegmciaaDoorPx0
import Derived.Test.YtjkpojedegmciaaDoorPx7
import Derived.Test.YtjkpojedegmciaaDoorPx10
namespace Go.Proofs.YtjkpojedegmciaaDoor.Px
open Go.Proofs.YtjkpojedegmciaaDoor.Given
open Go.RowKit Go.Proofs.YtjkpojedegmciaaDoorW.PrintWords Go.Proofs.YtjkpojedegmciaaDoorW.PrintLast Go.Proofs.YtjkpojedegmciaaDoorW.PrintMore
attribute [local go_sem] max2_int min2_int max_two min_two max_three min_three max_four min_four   -- for this text's walks alone
set_option linter.unusedVariables false
set_option linter.unusedSimpArgs false

/-! ### cohousingref03_Deadline: function 26 -/
mutual
def cohousingref03_Deadline.j0 : Nat → Int → Int → Int → List Int → Bool → Option (Int × Int)
  | 0, _, _, _, _, _ => none
  | k + 1, x0, x1, x2, x3, x32 => if x32 = true then (some (0, 1)) else (if x2 = 2 then (cohousingref03_Deadline.j1 k x3 (wrap64 ((wrap64 (x0 + x1)) + 3))) else (cohousingref03_Deadline.j1 k x3 (wrap64 (x0 + x1))))
def cohousingref03_Deadline.j1 : Nat → List Int → Int → Option (Int × Int)
  | 0, _, _ => none
  | k + 1, x3, x10 => cohousingref03_Deadline.l0 k x3 x10
def cohousingref03_Deadline.j3 : Nat → Int → Option (Int × Int)
  | 0, _ => none
  | k + 1, x10 => if x10 > 36524 then (some (0, 3)) else (some (x10, 0))
def cohousingref03_Deadline.l0 : Nat → List Int → Int → Option (Int × Int)
  | 0, _, _ => none
  | k + 1, x3, x10 => if x10 ≤ 36524 then ((cohousingref03_works.f k x10 x3).bind fun t195 => (if t195 = true then (cohousingref03_Deadline.j3 k x10) else (cohousingref03_Deadline.l0 k x3 (wrap64 (x10 + 1))))) else (cohousingref03_Deadline.j3 k x10)
end
def cohousingref03_Deadline.f (k : Nat) (a0 : Int) (a1 : Int) (a2 : Int) (l3 : List Int) : Option (Int × Int) := (cohousingref03_In.f a0).bind fun t192 => (if t192 = true then (if a1 < 0 then (cohousingref03_Deadline.j0 k a0 a1 a2 l3 true) else (if a1 > 1000 then (cohousingref03_Deadline.j0 k a0 a1 a2 l3 true) else (if a2 = 1 then ((cohousingref03_Holidays.f k l3).bind fun t193 => (cohousingref03_Deadline.j0 k a0 a1 a2 l3 (!t193))) else (if a2 = 2 then ((cohousingref03_Holidays.f k l3).bind fun t194 => (cohousingref03_Deadline.j0 k a0 a1 a2 l3 (!t194))) else (cohousingref03_Deadline.j0 k a0 a1 a2 l3 true))))) else (some (0, 3)))
theorem cohousingref03_Deadline.mono_l : ∀ k, (∀ y0 y1 y2 y3 y4, LeO (cohousingref03_Deadline.j0 k y0 y1 y2 y3 y4) (cohousingref03_Deadline.j0 (k + 1) y0 y1 y2 y3 y4)) ∧ (∀ y0 y1, LeO (cohousingref03_Deadline.j1 k y0 y1) (cohousingref03_Deadline.j1 (k + 1) y0 y1)) ∧ (∀ y0, LeO (cohousingref03_Deadline.j3 k y0) (cohousingref03_Deadline.j3 (k + 1) y0)) ∧ (∀ y0 y1, LeO (cohousingref03_Deadline.l0 k y0 y1) (cohousingref03_Deadline.l0 (k + 1) y0 y1))
  | 0 => ⟨fun _ _ _ _ _ r h => by simp [cohousingref03_Deadline.j0] at h, fun _ _ r h => by simp [cohousingref03_Deadline.j1] at h, fun _ r h => by simp [cohousingref03_Deadline.j3] at h, fun _ _ r h => by simp [cohousingref03_Deadline.l0] at h⟩
  | k + 1 => by
    obtain ⟨ih0, ih1, ih2, ih3⟩ := cohousingref03_Deadline.mono_l k
    refine ⟨?_, ?_, ?_, ?_⟩
    · intro y0 y1 y2 y3 y4
      unfold cohousingref03_Deadline.j0
      repeat' first
      | (with_reducible exact ih0 _ _ _ _ _)
      | (with_reducible exact ih1 _ _)
      | (with_reducible exact ih2 _)
      | (with_reducible exact ih3 _ _)
      | (with_reducible exact cohousingref03_Holidays.mono _ _)
      | (with_reducible exact cohousingref03_works.mono _ _ _)
      | (with_reducible exact LeO.refl _)
      | (with_reducible exact LeO.none _)
      | (with_reducible refine LeO.ite ?_ ?_)
      | (with_reducible refine LeO.bind ?_ (fun _ => ?_))
      | exact ih0 _ _ _ _ _
      | exact ih1 _ _
      | exact ih2 _
      | exact ih3 _ _
      | exact cohousingref03_Holidays.mono _ _
      | exact cohousingref03_works.mono _ _ _
      | exact LeO.none _
      | refine LeO.ite ?_ ?_
      | refine LeO.bind ?_ (fun _ => ?_)
    · intro y0 y1
      unfold cohousingref03_Deadline.j1
      repeat' first
      | (with_reducible exact ih0 _ _ _ _ _)
      | (with_reducible exact ih1 _ _)
      | (with_reducible exact ih2 _)
      | (with_reducible exact ih3 _ _)
      | (with_reducible exact cohousingref03_Holidays.mono _ _)
      | (with_reducible exact cohousingref03_works.mono _ _ _)
      | (with_reducible exact LeO.refl _)
      | (with_reducible exact LeO.none _)
      | (with_reducible refine LeO.ite ?_ ?_)
      | (with_reducible refine LeO.bind ?_ (fun _ => ?_))
      | exact ih0 _ _ _ _ _
      | exact ih1 _ _
      | exact ih2 _
      | exact ih3 _ _
      | exact cohousingref03_Holidays.mono _ _
      | exact cohousingref03_works.mono _ _ _
      | exact LeO.none _
      | refine LeO.ite ?_ ?_
      | refine LeO.bind ?_ (fun _ => ?_)
    · intro y0
      unfold cohousingref03_Deadline.j3
      repeat' first
      | (with_reducible exact ih0 _ _ _ _ _)
      | (with_reducible exact ih1 _ _)
      | (with_reducible exact ih2 _)
      | (with_reducible exact ih3 _ _)
      | (with_reducible exact cohousingref03_Holidays.mono _ _)
      | (with_reducible exact cohousingref03_works.mono _ _ _)
      | (with_reducible exact LeO.refl _)
      | (with_reducible exact LeO.none _)
      | (with_reducible refine LeO.ite ?_ ?_)
      | (with_reducible refine LeO.bind ?_ (fun _ => ?_))
      | exact ih0 _ _ _ _ _
      | exact ih1 _ _
      | exact ih2 _
      | exact ih3 _ _
      | exact cohousingref03_Holidays.mono _ _
      | exact cohousingref03_works.mono _ _ _
      | exact LeO.none _
      | refine LeO.ite ?_ ?_
      | refine LeO.bind ?_ (fun _ => ?_)
    · intro y0 y1
      unfold cohousingref03_Deadline.l0
      repeat' first
      | (with_reducible exact ih0 _ _ _ _ _)
      | (with_reducible exact ih1 _ _)
      | (with_reducible exact ih2 _)
      | (with_reducible exact ih3 _ _)
      | (with_reducible exact cohousingref03_Holidays.mono _ _)
      | (with_reducible exact cohousingref03_works.mono _ _ _)
      | (with_reducible exact LeO.refl _)
      | (with_reducible exact LeO.none _)
      | (with_reducible refine LeO.ite ?_ ?_)
      | (with_reducible refine LeO.bind ?_ (fun _ => ?_))
      | exact ih0 _ _ _ _ _
      | exact ih1 _ _
      | exact ih2 _
      | exact ih3 _ _
      | exact cohousingref03_Holidays.mono _ _
      | exact cohousingref03_works.mono _ _ _
      | exact LeO.none _
      | refine LeO.ite ?_ ?_
      | refine LeO.bind ?_ (fun _ => ?_)
theorem cohousingref03_Deadline.mono : ∀ a0 a1 a2 a3 k, LeO (cohousingref03_Deadline.f k a0 a1 a2 a3) (cohousingref03_Deadline.f (k + 1) a0 a1 a2 a3) := by
  intro a0 a1 a2 a3 k
  obtain ⟨ih0, ih1, ih2, ih3⟩ := cohousingref03_Deadline.mono_l k
  unfold cohousingref03_Deadline.f
  repeat' first
      | (with_reducible exact ih0 _ _ _ _ _)
      | (with_reducible exact ih1 _ _)
      | (with_reducible exact ih2 _)
      | (with_reducible exact ih3 _ _)
      | (with_reducible exact cohousingref03_Holidays.mono _ _)
      | (with_reducible exact cohousingref03_works.mono _ _ _)
      | (with_reducible exact LeO.refl _)
      | (with_reducible exact LeO.none _)
      | (with_reducible refine LeO.ite ?_ ?_)
      | (with_reducible refine LeO.bind ?_ (fun _ => ?_))
      | exact ih0 _ _ _ _ _
      | exact ih1 _ _
      | exact ih2 _
      | exact ih3 _ _
      | exact cohousingref03_Holidays.mono _ _
      | exact cohousingref03_works.mono _ _ _
      | exact LeO.none _
      | refine LeO.ite ?_ ?_
      | refine LeO.bind ?_ (fun _ => ?_)
set_option maxHeartbeats 8000000 in
set_option maxRecDepth 100000 in
theorem cohousingref03_Deadline.calls (k : Nat) (a0 : Int) (a1 : Int) (a2 : Int) (A3 : Option Addr) (c3 : Nat) (l3 : List Int) (r1 : Int) (r2 : Int) (w : World) (hr3 : Kd.C (Kd.int .i64) w A3 l3.length l3) (hc3 : l3.length ≤ c3) (h : cohousingref03_Deadline.f k a0 a1 a2 l3 = some (r1, r2)) :
    Calls Tryd.prog 26 #[.int .i64 a0, .int .i64 a1, .int .i64 a2, .slice A3 l3.length c3] w fun e w' => e = .returned (.tuple #[.int .i64 r1, .int .i64 r2]) ∧ Drawn0 w w' := by
  have HR3 := Aside0.mk hr3
  have HC3 := Aside0.mk hc3
  clear hr3 hc3
  have H : ((cohousingref03_In.f a0).bind fun t192 => (if t192 = true then (if a1 < 0 then (cohousingref03_Deadline.j0 k a0 a1 a2 l3 true) else (if a1 > 1000 then (cohousingref03_Deadline.j0 k a0 a1 a2 l3 true) else (if a2 = 1 then ((cohousingref03_Holidays.f k l3).bind fun t193 => (cohousingref03_Deadline.j0 k a0 a1 a2 l3 (!t193))) else (if a2 = 2 then ((cohousingref03_Holidays.f k l3).bind fun t194 => (cohousingref03_Deadline.j0 k a0 a1 a2 l3 (!t194))) else (cohousingref03_Deadline.j0 k a0 a1 a2 l3 true))))) else (some (0, 3)))) = some (r1, r2) := h
  clear h
  replace H := Option.bind_eq_some_iff.mp H
  obtain ⟨t192, A50, H⟩ := H
  replace H : (if t192 = true then (if a1 < 0 then (cohousingref03_Deadline.j0 k a0 a1 a2 l3 true) else (if a1 > 1000 then (cohousingref03_Deadline.j0 k a0 a1 a2 l3 true) else (if a2 = 1 then ((cohousingref03_Holidays.f k l3).bind fun t193 => (cohousingref03_Deadline.j0 k a0 a1 a2 l3 (!t193))) else (if a2 = 2 then ((cohousingref03_Holidays.f k l3).bind fun t194 => (cohousingref03_Deadline.j0 k a0 a1 a2 l3 (!t194))) else (cohousingref03_Deadline.j0 k a0 a1 a2 l3 true))))) else (some (0, 3))) = some (r1, r2) := H
  have A5 := Aside0.mk A50
  clear A50
  by_cases c6 : t192 = true
  · subst c6
    have H1 : (if a1 < 0 then (cohousingref03_Deadline.j0 k a0 a1 a2 l3 true) else (if a1 > 1000 then (cohousingref03_Deadline.j0 k a0 a1 a2 l3 true) else (if a2 = 1 then ((cohousingref03_Holidays.f k l3).bind fun t193 => (cohousingref03_Deadline.j0 k a0 a1 a2 l3 (!t193))) else (if a2 = 2 then ((cohousingref03_Holidays.f k l3).bind fun t194 => (cohousingref03_Deadline.j0 k a0 a1 a2 l3 (!t194))) else (cohousingref03_Deadline.j0 k a0 a1 a2 l3 true))))) = some (r1, r2) := by rw [if_pos rfl] at H; exact H
    clear H
    have H := H1
    clear H1
    have HC7 := Aside0.mk H
    clear H
    go_enter Tryd.func26, Tryd.ntmps26
    go_upto_region 3 with (first | ((with_reducible refine gate_callee (f := 30) rfl ?_); refine goesL_ (some 12) rfl rfl Tryd.func30 (by kernel_rfl) rfl #[.int .i64 a0] rfl (by (try simp only [List.map_toArray, List.map_cons, List.map_nil]); first | done | rfl | (simp only [List.length_drop, List.length_take]; rfl)) ?_; (with_reducible refine (cohousingref03_In.calls a0 true _ A5.out).mono ?_); rintro e w' ⟨rfl, ⟨nd, rfl⟩⟩; refine ⟨_, rfl, ?_⟩))
    (try simp only [Act.put, List.setIfInBounds_toArray, List.set_cons_zero, List.set_cons_succ])
    go_cut [32] (fun v32 wc => ∃ (kq : Nat) (x32_6 : Bool), v32 = .bool x32_6 ∧ Aside0 (cohousingref03_Deadline.j0 kq a0 a1 a2 l3 x32_6 = some (r1, r2)) ∧ Aside0 (kq ≤ k) ∧ Drawn0 w wc)
    case first =>
      have H := HC7.out
      clear HC7
      by_cases c8 : a1 < 0
      · rw [if_pos c8] at H
        have c8b0 : decide (a1 < 0) = true := decide_eq_true c8
        clear c8
        (first | rw [c8b0] | (simp only [i64_w, i32_w]; rw [c8b0]) | skip)
        have H' := Aside0.mk H
        clear H
        go_wp2
        go_meet
        case rel => exact ⟨_, (true), (by first | rfl | (simp; done) | (simp [*]; done)), H', ⟨by first | omega | exact Nat.le_refl _⟩, by repeat (first | exact Drawn0.refl _ | apply Drawn0.step)⟩
      · rw [if_neg c8] at H
        have c8b0 : decide (a1 < 0) = false := decide_eq_false c8
        clear c8
        (first | rw [c8b0] | (simp only [i64_w, i32_w]; rw [c8b0]) | skip)
        by_cases c9 : a1 > 1000
        · rw [if_pos c9] at H
          have c9b0 : decide (1000 < a1) = true := decide_eq_true c9
          clear c9
          have H' := Aside0.mk H
          clear H
          go_wp2
          go_meet
          case rel => exact ⟨_, (true), (by first | rfl | (simp; done) | (simp [*]; done)), H', ⟨by first | omega | exact Nat.le_refl _⟩, by repeat (first | exact Drawn0.refl _ | apply Drawn0.step)⟩
        · rw [if_neg c9] at H
          have c9b0 : decide (1000 < a1) = false := decide_eq_false c9
          clear c9
          by_cases c10 : a2 = 1
          · rw [if_pos c10] at H
            have c10b0 : (a2 == 1) = true := beq_iff_eq.mpr c10
            have c10b1 : (a2 != 1) = false := bne_eq_false_iff_eq.mpr c10
            clear c10
            replace H := Option.bind_eq_some_iff.mp H
            obtain ⟨t193, A110, H⟩ := H
            replace H : (cohousingref03_Deadline.j0 k a0 a1 a2 l3 (!t193)) = some (r1, r2) := H
            have A11 := Aside0.mk A110
            clear A110
            have H' := Aside0.mk H
            clear H
            go_wp2_with (first | (go_at_call 27; (with_reducible refine (cohousingref03_Holidays.calls k _ _ l3 t193 _ ?side1 ?side2 A11.out).mono ?_); (case side1 => repeat (first | exact HR3.out | (with_reducible refine Kd.C_alloc ?_ _) | (with_reducible refine Kd.C_drewN ?_ _) | (with_reducible refine Kd.C_drew ?_))); (case side2 => exact HC3.out); rintro e w' ⟨rfl, ⟨nd, rfl⟩⟩))
            go_meet
            case rel => exact ⟨_, (!t193), (by first | rfl | (simp; done) | (simp [*]; done)), H', ⟨by first | omega | exact Nat.le_refl _⟩, by repeat (first | exact Drawn0.refl _ | apply Drawn0.step)⟩
          · rw [if_neg c10] at H
            have c10b0 : (a2 == 1) = false := beq_eq_false_iff_ne.mpr c10
            have c10b1 : (a2 != 1) = true := bne_iff_ne.mpr c10
            by_cases c12 : a2 = 2
            · rw [if_pos c12] at H
              have c12b0 : (a2 == 2) = true := beq_iff_eq.mpr c12
              have c12b1 : (a2 != 2) = false := bne_eq_false_iff_eq.mpr c12
              clear c12
              replace H := Option.bind_eq_some_iff.mp H
              obtain ⟨t194, A130, H⟩ := H
              replace H : (cohousingref03_Deadline.j0 k a0 a1 a2 l3 (!t194)) = some (r1, r2) := H
              have A13 := Aside0.mk A130
              clear A130
              have H' := Aside0.mk H
              clear H
              go_wp2_with (first | (go_at_call 27; (with_reducible refine (cohousingref03_Holidays.calls k _ _ l3 t194 _ ?side1 ?side2 A13.out).mono ?_); (case side1 => repeat (first | exact HR3.out | (with_reducible refine Kd.C_alloc ?_ _) | (with_reducible refine Kd.C_drewN ?_ _) | (with_reducible refine Kd.C_drew ?_))); (case side2 => exact HC3.out); rintro e w' ⟨rfl, ⟨nd, rfl⟩⟩))
              go_meet
              case rel => exact ⟨_, (!t194), (by first | rfl | (simp; done) | (simp [*]; done)), H', ⟨by first | omega | exact Nat.le_refl _⟩, by repeat (first | exact Drawn0.refl _ | apply Drawn0.step)⟩
            · rw [if_neg c12] at H
              have c12b0 : (a2 == 2) = false := beq_eq_false_iff_ne.mpr c12
              have c12b1 : (a2 != 2) = true := bne_iff_ne.mpr c12
              have H' := Aside0.mk H
              clear H
              go_wp2
              go_meet
              case rel => exact ⟨_, (true), (by first | rfl | (simp; done) | (simp [*]; done)), H', ⟨by first | omega | exact Nat.le_refl _⟩, by repeat (first | exact Drawn0.refl _ | apply Drawn0.step)⟩
    case rest =>
      clear HC7
      try clear c1
      try clear c2
      try clear p2
      try clear c3
      try clear c6
      try clear c8
      try clear c8b0
      try clear c9
      try clear c9b0
      try clear c10
      try clear c10b0
      try clear c10b1
      try clear c12
      try clear c12b0
      try clear c12b1
      obtain ⟨kq, x32_6, rfl, HA, HJ6, ⟨mc6, rfl⟩⟩ := hcut
      cases kq with
      | zero => exact absurd HA.out (by simp [cohousingref03_Deadline.j0])
      | succ kj6 =>
        have H := HA.out
        clear HA
        simp only [cohousingref03_Deadline.j0] at H
        by_cases c14 : x32_6 = true
        · subst c14
          have H1 : (some (0, 1)) = some (r1, r2) := by rw [if_pos rfl] at H; exact H
          clear H
          have H := H1
          clear H1
          simp only [Option.some.injEq, Prod.mk.injEq] at H
          obtain ⟨rfl, rfl⟩ := H
          go_wp2
          go_ret2
          exact ⟨by first | rfl | (simp; done) | (simp [*]; done), by repeat (first | exact Drawn0.refl _ | apply Drawn0.step)⟩
        · replace c14 := Bool.eq_false_iff.mpr c14
          subst c14
          have H1 : (if a2 = 2 then (cohousingref03_Deadline.j1 kj6 l3 (wrap64 ((wrap64 (a0 + a1)) + 3))) else (cohousingref03_Deadline.j1 kj6 l3 (wrap64 (a0 + a1)))) = some (r1, r2) := by rw [if_neg (show ¬ (false = true) by decide)] at H; exact H
          clear H
          have H := H1
          clear H1
          have HC15 := Aside0.mk H
          clear H
          go_upto_if 37 with (fail)
          go_cut [10] (fun v10 wc => ∃ (kq : Nat) (x10_14 : Int), v10 = .int .i64 x10_14 ∧ Aside0 (cohousingref03_Deadline.j1 kq l3 x10_14 = some (r1, r2)) ∧ Aside0 (kq ≤ kj6) ∧ Drawn0 w wc)
          case first =>
            have H := HC15.out
            clear HC15
            by_cases c16 : a2 = 2
            · rw [if_pos c16] at H
              have c16b0 : (a2 == 2) = true := beq_iff_eq.mpr c16
              have c16b1 : (a2 != 2) = false := bne_eq_false_iff_eq.mpr c16
              clear c16
              (first | rw [c16b0] | (simp only [i64_w, i32_w]; rw [c16b0]) | skip)
              have H' := Aside0.mk H
              clear H
              go_wp2
              go_meet
              case rel => exact ⟨_, (wrap64 ((wrap64 (a0 + a1)) + 3)), (by first | rfl | (simp; done) | (simp [*]; done)), H', ⟨by have := HJ6.out; first | omega | exact Nat.le_refl _⟩, by repeat (first | exact Drawn0.refl _ | apply Drawn0.step)⟩
            · rw [if_neg c16] at H
              have c16b0 : (a2 == 2) = false := beq_eq_false_iff_ne.mpr c16
              have c16b1 : (a2 != 2) = true := bne_iff_ne.mpr c16
              (first | rw [c16b0] | (simp only [i64_w, i32_w]; rw [c16b0]) | skip)
              have H' := Aside0.mk H
              clear H
              go_wp2
              go_meet
              case rel => exact ⟨_, (wrap64 (a0 + a1)), (by first | rfl | (simp; done) | (simp [*]; done)), H', ⟨by have := HJ6.out; first | omega | exact Nat.le_refl _⟩, by repeat (first | exact Drawn0.refl _ | apply Drawn0.step)⟩
          case rest =>
            clear HC15
            try clear c1
            try clear c2
            try clear p2
            try clear c3
            try clear c6
            try clear p6
            try clear c8
            try clear c8b0
            try clear c9
            try clear c9b0
            try clear c10
            try clear c10b0
            try clear c10b1
            try clear c12
            try clear c12b0
            try clear c12b1
            try clear c14
            try clear c16
            try clear c16b0
            try clear c16b1
            try clear p2
            obtain ⟨kq, x10_14, rfl, HA, HJ14, ⟨mc14, rfl⟩⟩ := hcut
            cases kq with
            | zero => exact absurd HA.out (by simp [cohousingref03_Deadline.j1])
            | succ kj14 =>
              have H := HA.out
              clear HA
              simp only [cohousingref03_Deadline.j1] at H
              have HC17 := Aside0.mk H
              clear H
              go_upto_block 0 with (fail)
              go_cut [10] (fun v10 wc => ∃ (kq : Nat) (x10_16 : Int), v10 = .int .i64 x10_16 ∧ Aside0 (cohousingref03_Deadline.j3 kq x10_16 = some (r1, r2)) ∧ Aside0 (kq ≤ kj14) ∧ Drawn0 w wc)
              case first =>
                have H := HC17.out
                clear HC17
                have H' := Aside0.mk H
                clear H
                go_wp2
                go_loopg [10] kj14 (fun kq v10 w' => ∃ (x10_3 : Int), v10 = .int .i64 x10_3 ∧ Aside0 (cohousingref03_Deadline.l0 kq l3 x10_3 = some (r1, r2)) ∧ Aside0 (kq ≤ kj14) ∧ Drawn0 w w')
                case atStart => exact ⟨(x10_14), (by first | rfl | (simp; done) | (simp [*]; done)), H', ⟨Nat.le_refl _⟩, by repeat (first | exact Drawn0.refl _ | apply Drawn0.step)⟩
                case round =>
                  clear H'
                  try clear c1
                  try clear c2
                  try clear p2
                  try clear c3
                  try clear c6
                  try clear p6
                  try clear c8
                  try clear c8b0
                  try clear c9
                  try clear c9b0
                  try clear c10
                  try clear c10b0
                  try clear c10b1
                  try clear c12
                  try clear c12b0
                  try clear c12b1
                  try clear c14
                  try clear c16
                  try clear c16b0
                  try clear c16b1
                  try clear p2
                  try clear p6
                  obtain ⟨x10_3, rfl, HA, HK3, ⟨m3, rfl⟩⟩ := hrel
                  cases gk with
                  | zero => exact absurd HA.out (by simp [cohousingref03_Deadline.l0])
                  | succ k3 =>
                    have H := HA.out
                    clear HA
                    simp only [cohousingref03_Deadline.l0] at H
                    by_cases c18 : x10_3 ≤ 36524
                    · rw [if_pos c18] at H
                      have c18b0 : decide (x10_3 ≤ 36524) = true := decide_eq_true c18
                      clear c18
                      (first | rw [c18b0] | (simp only [i64_w, i32_w]; rw [c18b0]) | skip)
                      replace H := Option.bind_eq_some_iff.mp H
                      obtain ⟨t195, A190, H⟩ := H
                      replace H : (if t195 = true then (cohousingref03_Deadline.j3 k3 x10_3) else (cohousingref03_Deadline.l0 k3 l3 (wrap64 (x10_3 + 1)))) = some (r1, r2) := H
                      have A19 := Aside0.mk A190
                      clear A190
                      by_cases c20 : t195 = true
                      · subst c20
                        have H1 : (cohousingref03_Deadline.j3 k3 x10_3) = some (r1, r2) := by rw [if_pos rfl] at H; exact H
                        clear H
                        have H := H1
                        clear H1
                        have H' := Aside0.mk H
                        clear H
                        go_wp2_with (first | (go_at_call 37; (with_reducible refine (cohousingref03_works.calls k3 x10_3 _ _ l3 true _ ?side1 ?side2 A19.out).mono ?_); (case side1 => repeat (first | exact HR3.out | (with_reducible refine Kd.C_alloc ?_ _) | (with_reducible refine Kd.C_drewN ?_ _) | (with_reducible refine Kd.C_drew ?_))); (case side2 => exact HC3.out); rintro e w' ⟨rfl, ⟨nd, rfl⟩⟩))
                        go_meet
                        case rel => exact ⟨_, (x10_3), (by first | rfl | (simp; done) | (simp [*]; done)), H', ⟨by have := HJ6.out; have := HJ14.out; have := HK3.out; first | omega | exact Nat.le_refl _⟩, by repeat (first | exact Drawn0.refl _ | apply Drawn0.step)⟩
                      · replace c20 := Bool.eq_false_iff.mpr c20
                        subst c20
                        have H1 : (cohousingref03_Deadline.l0 k3 l3 (wrap64 (x10_3 + 1))) = some (r1, r2) := by rw [if_neg (show ¬ (false = true) by decide)] at H; exact H
                        clear H
                        have H := H1
                        clear H1
                        have H' := Aside0.mk H
                        clear H
                        go_wp2_with (first | (go_at_call 37; (with_reducible refine (cohousingref03_works.calls k3 x10_3 _ _ l3 false _ ?side1 ?side2 A19.out).mono ?_); (case side1 => repeat (first | exact HR3.out | (with_reducible refine Kd.C_alloc ?_ _) | (with_reducible refine Kd.C_drewN ?_ _) | (with_reducible refine Kd.C_drew ?_))); (case side2 => exact HC3.out); rintro e w' ⟨rfl, ⟨nd, rfl⟩⟩))
                        go_roundg k3
                        case measure => have := HJ6.out; have := HJ14.out; have := HK3.out; omega
                        case rel => exact ⟨(wrap64 (x10_3 + 1)), (by first | rfl | (simp; done) | (simp [*]; done)), H', ⟨by have := HJ6.out; have := HJ14.out; have := HK3.out; omega⟩, by repeat (first | exact Drawn0.refl _ | apply Drawn0.step)⟩
                    · rw [if_neg c18] at H
                      have c18b0 : decide (x10_3 ≤ 36524) = false := decide_eq_false c18
                      clear c18
                      (first | rw [c18b0] | (simp only [i64_w, i32_w]; rw [c18b0]) | skip)
                      have H' := Aside0.mk H
                      clear H
                      go_wp2
                      go_meet
                      case rel => exact ⟨_, (x10_3), (by first | rfl | (simp; done) | (simp [*]; done)), H', ⟨by have := HJ6.out; have := HJ14.out; have := HK3.out; first | omega | exact Nat.le_refl _⟩, by repeat (first | exact Drawn0.refl _ | apply Drawn0.step)⟩
              case rest =>
                clear HC17
                try clear c1
                try clear c2
                try clear p2
                try clear c3
                try clear c6
                try clear p6
                try clear c8
                try clear c8b0
                try clear c9
                try clear c9b0
                try clear c10
                try clear c10b0
                try clear c10b1
                try clear c12
                try clear c12b0
                try clear c12b1
                try clear c14
                try clear c16
                try clear c16b0
                try clear c16b1
                try clear c18
                try clear c18b0
                try clear c20
                try clear p2
                try clear p6
                obtain ⟨kq, x10_16, rfl, HA, HJ16, ⟨mc16, rfl⟩⟩ := hcut
                cases kq with
                | zero => exact absurd HA.out (by simp [cohousingref03_Deadline.j3])
                | succ kj16 =>
                  have H := HA.out
                  clear HA
                  simp only [cohousingref03_Deadline.j3] at H
                  by_cases c21 : x10_16 > 36524
                  · rw [if_pos c21] at H
                    have c21b0 : decide (36524 < x10_16) = true := decide_eq_true c21
                    clear c21
                    simp only [Option.some.injEq, Prod.mk.injEq] at H
                    obtain ⟨rfl, rfl⟩ := H
                    go_wp2
                    go_ret2
                    exact ⟨by first | rfl | (simp; done) | (simp [*]; done), by repeat (first | exact Drawn0.refl _ | apply Drawn0.step)⟩
                  · rw [if_neg c21] at H
                    have c21b0 : decide (36524 < x10_16) = false := decide_eq_false c21
                    clear c21
                    simp only [Option.some.injEq, Prod.mk.injEq] at H
                    obtain ⟨rfl, rfl⟩ := H
                    go_wp2
                    go_ret2
                    exact ⟨by first | rfl | (simp; done) | (simp [*]; done), by repeat (first | exact Drawn0.refl _ | apply Drawn0.step)⟩
  · replace c6 := Bool.eq_false_iff.mpr c6
    subst c6
    have H1 : (some (0, 3)) = some (r1, r2) := by rw [if_neg (show ¬ (false = true) by decide)] at H; exact H
    clear H
    have H := H1
    clear H1
    simp only [Option.some.injEq, Prod.mk.injEq] at H
    obtain ⟨rfl, rfl⟩ := H
    go_enter Tryd.func26, Tryd.ntmps26
    go_wp2_with (first | ((with_reducible refine gate_callee (f := 30) rfl ?_); refine goesL_ (some 12) rfl rfl Tryd.func30 (by kernel_rfl) rfl #[.int .i64 a0] rfl (by (try simp only [List.map_toArray, List.map_cons, List.map_nil]); first | done | rfl | (simp only [List.length_drop, List.length_take]; rfl)) ?_; (with_reducible refine (cohousingref03_In.calls a0 false _ A5.out).mono ?_); rintro e w' ⟨rfl, ⟨nd, rfl⟩⟩; refine ⟨_, rfl, ?_⟩))
    go_ret2
    exact ⟨by first | rfl | (simp; done) | (simp [*]; done), by repeat (first | exact Drawn0.refl _ | apply Drawn0.step)⟩

end Go.Proofs.YtjkpojedegmciaaDoor.Px
