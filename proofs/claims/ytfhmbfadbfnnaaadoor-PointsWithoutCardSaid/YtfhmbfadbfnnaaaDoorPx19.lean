/- Contracts of Go functions, written by a program of this session's own (wip/tools/myprint.py) out of the translation: each Go function does what the Lean function of its name says. Conditions: as each theorem states. -/
import Derived.Test.YtfhmbfadbfnnaaaDoorPx0
import Derived.Test.YtfhmbfadbfnnaaaDoorGTab
namespace Go.Proofs.YtfhmbfadbfnnaaaDoor.Px
open Go.Proofs.YtfhmbfadbfnnaaaDoor.Given
open Go.RowKit Go.Proofs.YtfhmbfadbfnnaaaDoorW.PrintWords Go.Proofs.YtfhmbfadbfnnaaaDoorW.PrintLast Go.Proofs.YtfhmbfadbfnnaaaDoorW.PrintMore
attribute [local go_sem] max2_int min2_int max_two min_two max_three min_three max_four min_four   -- for this text's walks alone
set_option linter.unusedVariables false
set_option linter.unusedSimpArgs false

/-! ### calendar_firstOf: function 37 -/
def calendar_firstOf.f (a0 : Int) : Option (Int) := some (wrap64 ((wrap64 (365 * (wrap64 (a0 - 2000)))) + (wrap64 (Int.tdiv (wrap64 ((wrap64 (a0 - 2000)) + 3)) 4))))
set_option maxHeartbeats 8000000 in
set_option maxRecDepth 100000 in
theorem calendar_firstOf.calls (a0 r : Int) (w : World) (h : calendar_firstOf.f a0 = some r) :
    Calls Tryd.prog 37 #[.int .i64 a0] w fun e w' => e = .returned (.int .i64 r) ∧ Drawn0 w w' := by
  have H : (some (wrap64 ((wrap64 (365 * (wrap64 (a0 - 2000)))) + (wrap64 (Int.tdiv (wrap64 ((wrap64 (a0 - 2000)) + 3)) 4))))) = some r := h
  clear h
  obtain rfl := Option.some.inj H
  go_enter Tryd.func37, Tryd.ntmps37
  go_wp2
  go_ret
  exact ⟨qs_, qy_⟩

/-! ### calendar_Day: function 21 -/
mutual
def calendar_Day.j0 : Nat → Int → Int → Int → Bool → Option (Int × Int)
  | 0, _, _, _, _ => none
  | k + 1, x0, x1, x2, x35 => if x35 = true then (some (0, 3)) else ((calendar_firstOf.f x0).bind fun t422 => (calendar_Day.l0 k x0 x2 t422 (wrap64 (x1 - 1)) 0))
def calendar_Day.l0 : Nat → Int → Int → Int → Int → Int → Option (Int × Int)
  | 0, _, _, _, _, _ => none
  | k + 1, x0, x2, x8, x39, x40 => if x40 < x39 then ((calendar_length.f x0 x40).bind fun t423 => (calendar_Day.l0 k x0 x2 (wrap64 (x8 + t423)) x39 (wrap64 (x40 + 1)))) else (some (wrap64 ((wrap64 (x8 + x2)) - 1), 0))
end
def calendar_Day.f (k : Nat) (a0 a1 a2 : Int) : Option (Int × Int) := if a0 < 2000 then (calendar_Day.j0 k a0 a1 a2 true) else (if a0 > 2099 then (calendar_Day.j0 k a0 a1 a2 true) else (if a1 < 1 then (calendar_Day.j0 k a0 a1 a2 true) else (if a1 > 12 then (calendar_Day.j0 k a0 a1 a2 true) else (if a2 < 1 then (calendar_Day.j0 k a0 a1 a2 true) else ((calendar_length.f a0 (wrap64 (a1 - 1))).bind fun t421 => (calendar_Day.j0 k a0 a1 a2 (decide (a2 > t421))))))))
theorem calendar_Day.mono_l : ∀ k, (∀ y0 y1 y2 y3, LeO (calendar_Day.j0 k y0 y1 y2 y3) (calendar_Day.j0 (k + 1) y0 y1 y2 y3)) ∧ (∀ y0 y1 y2 y3 y4, LeO (calendar_Day.l0 k y0 y1 y2 y3 y4) (calendar_Day.l0 (k + 1) y0 y1 y2 y3 y4))
  | 0 => ⟨fun _ _ _ _ r h => by simp [calendar_Day.j0] at h, fun _ _ _ _ _ r h => by simp [calendar_Day.l0] at h⟩
  | k + 1 => by
    obtain ⟨ih0, ih1⟩ := calendar_Day.mono_l k
    refine ⟨?_, ?_⟩
    · intro y0 y1 y2 y3
      unfold calendar_Day.j0
      with_reducible (repeat' first | apply ih0 | apply ih1 | apply LeO.refl | apply LeO.none | apply LeO.ite | refine LeO.bind ?_ (fun _ => ?_))
    · intro y0 y1 y2 y3 y4
      unfold calendar_Day.l0
      with_reducible (repeat' first | apply ih0 | apply ih1 | apply LeO.refl | apply LeO.none | apply LeO.ite | refine LeO.bind ?_ (fun _ => ?_))
theorem calendar_Day.mono : ∀ a0 a1 a2 k, LeO (calendar_Day.f k a0 a1 a2) (calendar_Day.f (k + 1) a0 a1 a2) := by
  intro a0 a1 a2 k
  obtain ⟨ih0, ih1⟩ := calendar_Day.mono_l k
  unfold calendar_Day.f
  with_reducible (repeat' first | apply ih0 | apply ih1 | apply LeO.refl | apply LeO.none | apply LeO.ite | refine LeO.bind ?_ (fun _ => ?_))
set_option maxHeartbeats 8000000 in
set_option maxRecDepth 100000 in
theorem calendar_Day.calls (k : Nat) (a0 a1 a2 r1 r2 : Int) (w : World) (HT : TabOK w) (h : calendar_Day.f k a0 a1 a2 = some (r1, r2)) :
    Calls Tryd.prog 21 #[.int .i64 a0, .int .i64 a1, .int .i64 a2] w fun e w' => e = .returned (.tuple #[.int .i64 r1, .int .i64 r2]) ∧ Drawn0 w w' := by
  have HTA := Aside0.mk HT
  clear HT
  have H : (if a0 < 2000 then (calendar_Day.j0 k a0 a1 a2 true) else (if a0 > 2099 then (calendar_Day.j0 k a0 a1 a2 true) else (if a1 < 1 then (calendar_Day.j0 k a0 a1 a2 true) else (if a1 > 12 then (calendar_Day.j0 k a0 a1 a2 true) else (if a2 < 1 then (calendar_Day.j0 k a0 a1 a2 true) else ((calendar_length.f a0 (wrap64 (a1 - 1))).bind fun t421 => (calendar_Day.j0 k a0 a1 a2 (decide (a2 > t421))))))))) = some (r1, r2) := h
  clear h
  have HC4 := Aside0.mk H
  clear H
  go_enter Tryd.func21, Tryd.ntmps21
  go_upto_region 1 with (fail)
  go_cut [35] (fun v35 wc => ∃ (kq : Nat) (x35_3 : Bool), v35 = .bool x35_3 ∧ Aside0 (calendar_Day.j0 kq a0 a1 a2 x35_3 = some (r1, r2)) ∧ Aside0 (kq ≤ k) ∧ Drawn0 w wc)
  case first =>
    have H := HC4.out
    clear HC4
    by_cases c5 : a0 < 2000
    · rw [if_pos c5] at H
      have c5b0 : decide (a0 < 2000) = true := decide_eq_true c5
      clear c5
      (first | rw [c5b0] | (simp only [i64_w, i32_w]; rw [c5b0]) | skip)
      have H' := Aside0.mk H
      clear H
      go_wp2
      go_meet
      case rel => exact ⟨_, (true), qs_, H', ⟨qo_⟩, qy_⟩
    · rw [if_neg c5] at H
      have c5b0 : decide (a0 < 2000) = false := decide_eq_false c5
      clear c5
      (first | rw [c5b0] | (simp only [i64_w, i32_w]; rw [c5b0]) | skip)
      by_cases c6 : a0 > 2099
      · rw [if_pos c6] at H
        have c6b0 : decide (2099 < a0) = true := decide_eq_true c6
        clear c6
        have H' := Aside0.mk H
        clear H
        go_wp2
        go_meet
        case rel => exact ⟨_, (true), qs_, H', ⟨qo_⟩, qy_⟩
      · rw [if_neg c6] at H
        have c6b0 : decide (2099 < a0) = false := decide_eq_false c6
        clear c6
        by_cases c7 : a1 < 1
        · rw [if_pos c7] at H
          have c7b0 : decide (a1 < 1) = true := decide_eq_true c7
          clear c7
          have H' := Aside0.mk H
          clear H
          go_wp2
          go_meet
          case rel => exact ⟨_, (true), qs_, H', ⟨qo_⟩, qy_⟩
        · rw [if_neg c7] at H
          have c7b0 : decide (a1 < 1) = false := decide_eq_false c7
          clear c7
          by_cases c8 : a1 > 12
          · rw [if_pos c8] at H
            have c8b0 : decide (12 < a1) = true := decide_eq_true c8
            clear c8
            have H' := Aside0.mk H
            clear H
            go_wp2
            go_meet
            case rel => exact ⟨_, (true), qs_, H', ⟨qo_⟩, qy_⟩
          · rw [if_neg c8] at H
            have c8b0 : decide (12 < a1) = false := decide_eq_false c8
            clear c8
            by_cases c9 : a2 < 1
            · rw [if_pos c9] at H
              have c9b0 : decide (a2 < 1) = true := decide_eq_true c9
              clear c9
              have H' := Aside0.mk H
              clear H
              go_wp2
              go_meet
              case rel => exact ⟨_, (true), qs_, H', ⟨qo_⟩, qy_⟩
            · rw [if_neg c9] at H
              have c9b0 : decide (a2 < 1) = false := decide_eq_false c9
              clear c9
              replace H := Option.bind_eq_some_iff.mp H
              obtain ⟨t421, A100, H⟩ := H
              replace H : (calendar_Day.j0 k a0 a1 a2 (decide (a2 > t421))) = some (r1, r2) := H
              have A10 := Aside0.mk A100
              clear A100
              have H' := Aside0.mk H
              clear H
              go_wp2_with (first | (go_at_call 36; (with_reducible refine (calendar_length.calls a0 (wrap64 (a1 - 1)) t421 _ ?side1 A10.out).mono ?_); (case side1 => exact TabOK.drawn HTA.out (by repeat (first | exact Drawn0.refl _ | apply Drawn0.step))); rintro e w' ⟨rfl, ⟨nd, rfl⟩⟩))
              go_meet
              case rel => exact ⟨_, (decide (a2 > t421)), qs_, H', ⟨qo_⟩, qy_⟩
  case rest =>
    clear HC4
    try clear c2
    try clear p2
    try clear c5
    try clear c5b0
    try clear c6
    try clear c6b0
    try clear p6
    try clear c7
    try clear c7b0
    try clear c8
    try clear c8b0
    try clear c9
    try clear c9b0
    obtain ⟨kq, x35_3, rfl, HA, HJ3, ⟨mc3, rfl⟩⟩ := hcut
    cases kq with
    | zero => exact absurd HA.out (by simp [calendar_Day.j0])
    | succ kj3 =>
      have H := HA.out
      clear HA
      simp only [calendar_Day.j0] at H
      by_cases c11 : x35_3 = true
      · subst c11
        have H1 : (some (0, 3)) = some (r1, r2) := by rw [if_pos rfl] at H; exact H
        clear H
        have H := H1
        clear H1
        simp only [Option.some.injEq, Prod.mk.injEq] at H
        obtain ⟨rfl, rfl⟩ := H
        go_wp2
        go_ret2
        exact ⟨qs_, qy_⟩
      · replace c11 := Bool.eq_false_iff.mpr c11
        subst c11
        have H1 : ((calendar_firstOf.f a0).bind fun t422 => (calendar_Day.l0 kj3 a0 a2 t422 (wrap64 (a1 - 1)) 0)) = some (r1, r2) := by rw [if_neg (show ¬ (false = true) by decide)] at H; exact H
        clear H
        have H := H1
        clear H1
        replace H := Option.bind_eq_some_iff.mp H
        obtain ⟨t422, A120, H⟩ := H
        replace H : (calendar_Day.l0 kj3 a0 a2 t422 (wrap64 (a1 - 1)) 0) = some (r1, r2) := H
        have A12 := Aside0.mk A120
        clear A120
        have H' := Aside0.mk H
        clear H
        go_wp2_with (first | ((with_reducible refine gate_callee (f := 37) rfl ?_); refine goesL_ (some 37) rfl rfl Tryd.func37 (by kernel_rfl) rfl #[.int .i64 a0] rfl ql_ ?_; (with_reducible refine (calendar_firstOf.calls a0 t422 _ A12.out).mono ?_); rintro e w' ⟨rfl, ⟨nd, rfl⟩⟩; refine ⟨_, rfl, ?_⟩))
        go_loopg [8, 40] kj3 (fun kq v8 v40 w' => ∃ (x8_2 : Int) (x40_2 : Int), v8 = .int .i64 x8_2 ∧ v40 = .int .i64 x40_2 ∧ Aside0 (calendar_Day.l0 kq a0 a2 x8_2 (wrap64 (a1 - 1)) x40_2 = some (r1, r2)) ∧ Aside0 (kq ≤ kj3) ∧ Drawn0 w w')
        case atStart => exact ⟨(t422), (0), qs_, qs_, H', ⟨Nat.le_refl _⟩, qy_⟩
        case round =>
          clear H'
          try clear c1
          try clear c2
          try clear p2
          try clear c3
          try clear c5
          try clear c5b0
          try clear c6
          try clear c6b0
          try clear p6
          try clear c7
          try clear c7b0
          try clear c8
          try clear c8b0
          try clear c9
          try clear c9b0
          try clear c11
          try clear p2
          try clear p6
          obtain ⟨x8_2, x40_2, rfl, rfl, HA, HK2, ⟨m2, rfl⟩⟩ := hrel
          cases gk with
          | zero => exact absurd HA.out (by simp [calendar_Day.l0])
          | succ k2 =>
            have H := HA.out
            clear HA
            simp only [calendar_Day.l0] at H
            by_cases c13 : x40_2 < (wrap64 (a1 - 1))
            · rw [if_pos c13] at H
              have c13b0 : decide (x40_2 < (wrap64 (a1 - 1))) = true := decide_eq_true c13
              clear c13
              replace H := Option.bind_eq_some_iff.mp H
              obtain ⟨t423, A140, H⟩ := H
              replace H : (calendar_Day.l0 k2 a0 a2 (wrap64 (x8_2 + t423)) (wrap64 (a1 - 1)) (wrap64 (x40_2 + 1))) = some (r1, r2) := H
              have A14 := Aside0.mk A140
              clear A140
              have H' := Aside0.mk H
              clear H
              go_wp2_with (first | ((with_reducible refine gate_callee (f := 36) rfl ?_); refine goesL_ (some 46) rfl rfl Tryd.func36 (by kernel_rfl) rfl #[.int .i64 a0, .int .i64 x40_2] rfl ql_ ?_; (with_reducible refine (calendar_length.calls a0 x40_2 t423 _ ?side1 A14.out).mono ?_); (case side1 => exact TabOK.drawn HTA.out (by repeat (first | exact Drawn0.refl _ | apply Drawn0.step))); rintro e w' ⟨rfl, ⟨nd, rfl⟩⟩; refine ⟨_, rfl, ?_⟩))
              go_roundg k2
              case measure => have := HJ3.out; have := HK2.out; omega
              case rel => exact ⟨(wrap64 (x8_2 + t423)), (wrap64 (x40_2 + 1)), qs_, qs_, H', ⟨by have := HJ3.out; have := HK2.out; omega⟩, qy_⟩
            · rw [if_neg c13] at H
              have c13b0 : decide (x40_2 < (wrap64 (a1 - 1))) = false := decide_eq_false c13
              clear c13
              simp only [Option.some.injEq, Prod.mk.injEq] at H
              obtain ⟨rfl, rfl⟩ := H
              go_wp2
              go_ret2
              exact ⟨qs_, qy_⟩

end Go.Proofs.YtfhmbfadbfnnaaaDoor.Px
