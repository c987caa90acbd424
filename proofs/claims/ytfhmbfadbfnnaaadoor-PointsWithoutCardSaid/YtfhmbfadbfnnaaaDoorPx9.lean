/- Contracts of Go functions, written by a program of this session's own (wip/tools/myprint.py) out of the translation: each Go function does what the Lean function of its name says. Conditions: as each theorem states. -/
import Derived.Test.YtfhmbfadbfnnaaaDoorPx0
import Derived.Test.YtfhmbfadbfnnaaaDoorPx8
namespace Go.Proofs.YtfhmbfadbfnnaaaDoor.Px
open Go.Proofs.YtfhmbfadbfnnaaaDoor.Given
open Go.RowKit Go.Proofs.YtfhmbfadbfnnaaaDoorW.PrintWords Go.Proofs.YtfhmbfadbfnnaaaDoorW.PrintLast Go.Proofs.YtfhmbfadbfnnaaaDoorW.PrintMore
attribute [local go_sem] max2_int min2_int max_two min_two max_three min_three max_four min_four   -- for this text's walks alone
set_option linter.unusedVariables false
set_option linter.unusedSimpArgs false

/-! ### cohousingref03_Date: function 43 -/
mutual
def cohousingref03_Date.l0 : Nat → Int → Int → Option (Int × Int × Int × Int)
  | 0, _, _ => none
  | k + 1, x0, x6 => (cohousingref03_leap.f x6).bind fun t196 => (if x0 ≥ t196 then ((cohousingref03_leap.f x6).bind fun t197 => (cohousingref03_Date.l0 k (wrap64 (x0 - t197)) (wrap64 (x6 + 1)))) else (cohousingref03_Date.l1 k x0 x6 1))
def cohousingref03_Date.l1 : Nat → Int → Int → Int → Option (Int × Int × Int × Int)
  | 0, _, _, _ => none
  | k + 1, x0, x6, x7 => (cohousingref03_length.f k x6 x7).bind fun t198 => (if x0 ≥ t198 then ((cohousingref03_length.f k x6 x7).bind fun t199 => (cohousingref03_Date.l1 k (wrap64 (x0 - t199)) x6 (wrap64 (x7 + 1)))) else (some (x6, x7, wrap64 (x0 + 1), 0)))
end
def cohousingref03_Date.f (k : Nat) (a0 : Int) : Option (Int × Int × Int × Int) := (cohousingref03_In.f a0).bind fun t195 => (if t195 = true then (cohousingref03_Date.l0 k a0 2000) else (some (0, 0, 0, 3)))
theorem cohousingref03_Date.mono_l : ∀ k, (∀ y0 y1, LeO (cohousingref03_Date.l0 k y0 y1) (cohousingref03_Date.l0 (k + 1) y0 y1)) ∧ (∀ y0 y1 y2, LeO (cohousingref03_Date.l1 k y0 y1 y2) (cohousingref03_Date.l1 (k + 1) y0 y1 y2))
  | 0 => ⟨fun _ _ r h => by simp [cohousingref03_Date.l0] at h, fun _ _ _ r h => by simp [cohousingref03_Date.l1] at h⟩
  | k + 1 => by
    obtain ⟨ih0, ih1⟩ := cohousingref03_Date.mono_l k
    refine ⟨?_, ?_⟩
    · intro y0 y1
      unfold cohousingref03_Date.l0
      with_reducible (repeat' first | apply ih0 | apply ih1 | apply cohousingref03_length.mono | apply LeO.refl | apply LeO.none | apply LeO.ite | refine LeO.bind ?_ (fun _ => ?_))
    · intro y0 y1 y2
      unfold cohousingref03_Date.l1
      with_reducible (repeat' first | apply ih0 | apply ih1 | apply cohousingref03_length.mono | apply LeO.refl | apply LeO.none | apply LeO.ite | refine LeO.bind ?_ (fun _ => ?_))
theorem cohousingref03_Date.mono : ∀ a0 k, LeO (cohousingref03_Date.f k a0) (cohousingref03_Date.f (k + 1) a0) := by
  intro a0 k
  obtain ⟨ih0, ih1⟩ := cohousingref03_Date.mono_l k
  unfold cohousingref03_Date.f
  with_reducible (repeat' first | apply ih0 | apply ih1 | apply cohousingref03_length.mono | apply LeO.refl | apply LeO.none | apply LeO.ite | refine LeO.bind ?_ (fun _ => ?_))
set_option maxHeartbeats 8000000 in
set_option maxRecDepth 100000 in
theorem cohousingref03_Date.calls (k : Nat) (a0 r1 r2 r3 r4 : Int) (w : World) (h : cohousingref03_Date.f k a0 = some (r1, r2, r3, r4)) :
    Calls Tryd.prog 43 #[.int .i64 a0] w fun e w' => e = .returned (.tuple #[.int .i64 r1, .int .i64 r2, .int .i64 r3, .int .i64 r4]) ∧ Drawn0 w w' := by
  have H : ((cohousingref03_In.f a0).bind fun t195 => (if t195 = true then (cohousingref03_Date.l0 k a0 2000) else (some (0, 0, 0, 3)))) = some (r1, r2, r3, r4) := h
  clear h
  replace H := Option.bind_eq_some_iff.mp H
  obtain ⟨t195, A20, H⟩ := H
  replace H : (if t195 = true then (cohousingref03_Date.l0 k a0 2000) else (some (0, 0, 0, 3))) = some (r1, r2, r3, r4) := H
  have A2 := Aside0.mk A20
  clear A20
  by_cases c3 : t195 = true
  · subst c3
    have H1 : (cohousingref03_Date.l0 k a0 2000) = some (r1, r2, r3, r4) := by rw [if_pos rfl] at H; exact H
    clear H
    have H := H1
    clear H1
    have H' := Aside0.mk H
    clear H
    go_enter Tryd.func43, Tryd.ntmps43
    go_wp2_with (first | ((with_reducible refine gate_callee (f := 26) rfl ?_); refine goesL_ (some 9) rfl rfl Tryd.func26 (by kernel_rfl) rfl #[.int .i64 a0] rfl ql_ ?_; (with_reducible refine (cohousingref03_In.calls a0 true _ A2.out).mono ?_); rintro e w' ⟨rfl, ⟨nd, rfl⟩⟩; refine ⟨_, rfl, ?_⟩))
    go_loopg [0, 6] k (fun kq v0 v6 w' => ∃ (x0_1 : Int) (x6_1 : Int), v0 = .int .i64 x0_1 ∧ v6 = .int .i64 x6_1 ∧ Aside0 (cohousingref03_Date.l0 kq x0_1 x6_1 = some (r1, r2, r3, r4)) ∧ Aside0 (kq ≤ k) ∧ Drawn0 w w')
    case atStart => exact ⟨(a0), (2000), qs_, qs_, H', ⟨Nat.le_refl _⟩, qy_⟩
    case round =>
      clear H'
      try clear c2
      try clear p2
      try clear c3
      obtain ⟨x0_1, x6_1, rfl, rfl, HA, HK1, ⟨m1, rfl⟩⟩ := hrel
      cases gk with
      | zero => exact absurd HA.out (by simp [cohousingref03_Date.l0])
      | succ k1 =>
        have H := HA.out
        clear HA
        simp only [cohousingref03_Date.l0] at H
        replace H := Option.bind_eq_some_iff.mp H
        obtain ⟨t196, A40, H⟩ := H
        replace H : (if x0_1 ≥ t196 then ((cohousingref03_leap.f x6_1).bind fun t197 => (cohousingref03_Date.l0 k1 (wrap64 (x0_1 - t197)) (wrap64 (x6_1 + 1)))) else (cohousingref03_Date.l1 k1 x0_1 x6_1 1)) = some (r1, r2, r3, r4) := H
        have A4 := Aside0.mk A40
        clear A40
        by_cases c5 : x0_1 ≥ t196
        · rw [if_pos c5] at H
          have c5b0 : decide (t196 ≤ x0_1) = true := decide_eq_true c5
          clear c5
          replace H := Option.bind_eq_some_iff.mp H
          obtain ⟨t197, A60, H⟩ := H
          replace H : (cohousingref03_Date.l0 k1 (wrap64 (x0_1 - t197)) (wrap64 (x6_1 + 1))) = some (r1, r2, r3, r4) := H
          have A6 := Aside0.mk A60
          clear A60
          have H' := Aside0.mk H
          clear H
          go_wp2_with (first | ((with_reducible refine gate_callee (f := 49) rfl ?_); refine goesL_ (some 13) rfl rfl Tryd.func49 (by kernel_rfl) rfl #[.int .i64 x6_1] rfl ql_ ?_; (with_reducible refine (cohousingref03_leap.calls x6_1 t196 _ A4.out).mono ?_); rintro e w' ⟨rfl, ⟨nd, rfl⟩⟩; refine ⟨_, rfl, ?_⟩) | ((with_reducible refine gate_callee (f := 49) rfl ?_); refine goesL_ (some 17) rfl rfl Tryd.func49 (by kernel_rfl) rfl #[.int .i64 x6_1] rfl ql_ ?_; (with_reducible refine (cohousingref03_leap.calls x6_1 t197 _ A6.out).mono ?_); rintro e w' ⟨rfl, ⟨nd, rfl⟩⟩; refine ⟨_, rfl, ?_⟩))
          go_roundg k1
          case measure => have := HK1.out; omega
          case rel => exact ⟨(wrap64 (x0_1 - t197)), (wrap64 (x6_1 + 1)), qs_, qs_, H', ⟨by have := HK1.out; omega⟩, qy_⟩
        · rw [if_neg c5] at H
          have c5b0 : decide (t196 ≤ x0_1) = false := decide_eq_false c5
          clear c5
          have H' := Aside0.mk H
          clear H
          go_wp2_with (first | ((with_reducible refine gate_callee (f := 49) rfl ?_); refine goesL_ (some 13) rfl rfl Tryd.func49 (by kernel_rfl) rfl #[.int .i64 x6_1] rfl ql_ ?_; (with_reducible refine (cohousingref03_leap.calls x6_1 t196 _ A4.out).mono ?_); rintro e w' ⟨rfl, ⟨nd, rfl⟩⟩; refine ⟨_, rfl, ?_⟩))
          go_loopg [0, 7] k1 (fun kq v0 v7 w' => ∃ (x0_2 : Int) (x7_2 : Int), v0 = .int .i64 x0_2 ∧ v7 = .int .i64 x7_2 ∧ Aside0 (cohousingref03_Date.l1 kq x0_2 x6_1 x7_2 = some (r1, r2, r3, r4)) ∧ Aside0 (kq ≤ k1) ∧ Drawn0 w w')
          case atStart => exact ⟨(x0_1), (1), qs_, qs_, H', ⟨Nat.le_refl _⟩, qy_⟩
          case round =>
            clear H'
            try clear c2
            try clear p2
            try clear c3
            try clear c4
            try clear c5
            try clear c5b0
            try clear p6
            try clear p2
            obtain ⟨x0_2, x7_2, rfl, rfl, HA, HK2, ⟨m2, rfl⟩⟩ := hrel
            cases gk with
            | zero => exact absurd HA.out (by simp [cohousingref03_Date.l1])
            | succ k2 =>
              have H := HA.out
              clear HA
              simp only [cohousingref03_Date.l1] at H
              replace H := Option.bind_eq_some_iff.mp H
              obtain ⟨t198, A70, H⟩ := H
              replace H : (if x0_2 ≥ t198 then ((cohousingref03_length.f k2 x6_1 x7_2).bind fun t199 => (cohousingref03_Date.l1 k2 (wrap64 (x0_2 - t199)) x6_1 (wrap64 (x7_2 + 1)))) else (some (x6_1, x7_2, wrap64 (x0_2 + 1), 0))) = some (r1, r2, r3, r4) := H
              have A7 := Aside0.mk A70
              clear A70
              by_cases c8 : x0_2 ≥ t198
              · rw [if_pos c8] at H
                have c8b0 : decide (t198 ≤ x0_2) = true := decide_eq_true c8
                clear c8
                replace H := Option.bind_eq_some_iff.mp H
                obtain ⟨t199, A90, H⟩ := H
                replace H : (cohousingref03_Date.l1 k2 (wrap64 (x0_2 - t199)) x6_1 (wrap64 (x7_2 + 1))) = some (r1, r2, r3, r4) := H
                have A9 := Aside0.mk A90
                clear A90
                have H' := Aside0.mk H
                clear H
                go_wp2_with (first | ((with_reducible refine gate_callee (f := 50) rfl ?_); refine goesL_ (some 24) rfl rfl Tryd.func50 (by kernel_rfl) rfl #[.int .i64 x6_1, .int .i64 x7_2] rfl ql_ ?_; (with_reducible refine (cohousingref03_length.calls k2 x6_1 x7_2 t198 _ A7.out).mono ?_); rintro e w' ⟨rfl, ⟨nd, rfl⟩⟩; refine ⟨_, rfl, ?_⟩) | ((with_reducible refine gate_callee (f := 50) rfl ?_); refine goesL_ (some 29) rfl rfl Tryd.func50 (by kernel_rfl) rfl #[.int .i64 x6_1, .int .i64 x7_2] rfl ql_ ?_; (with_reducible refine (cohousingref03_length.calls k2 x6_1 x7_2 t199 _ A9.out).mono ?_); rintro e w' ⟨rfl, ⟨nd, rfl⟩⟩; refine ⟨_, rfl, ?_⟩))
                go_roundg k2
                case measure => have := HK1.out; have := HK2.out; omega
                case rel => exact ⟨(wrap64 (x0_2 - t199)), (wrap64 (x7_2 + 1)), qs_, qs_, H', ⟨by have := HK1.out; have := HK2.out; omega⟩, qy_⟩
              · rw [if_neg c8] at H
                have c8b0 : decide (t198 ≤ x0_2) = false := decide_eq_false c8
                clear c8
                simp only [Option.some.injEq, Prod.mk.injEq] at H
                obtain ⟨rfl, rfl, rfl, rfl⟩ := H
                go_wp2_with (first | ((with_reducible refine gate_callee (f := 50) rfl ?_); refine goesL_ (some 24) rfl rfl Tryd.func50 (by kernel_rfl) rfl #[.int .i64 x6_1, .int .i64 x7_2] rfl ql_ ?_; (with_reducible refine (cohousingref03_length.calls k2 x6_1 x7_2 t198 _ A7.out).mono ?_); rintro e w' ⟨rfl, ⟨nd, rfl⟩⟩; refine ⟨_, rfl, ?_⟩))
                refine bodyPost_ret (results_list (rs := [.tmp 2, .tmp 3, .tmp 4, .tmp 5]) rfl (by simp) (.tmp (.tmp (.tmp (.tmp .nil))))) rfl ?_
                exact ⟨qs_, qy_⟩
  · replace c3 := Bool.eq_false_iff.mpr c3
    subst c3
    have H1 : (some (0, 0, 0, 3)) = some (r1, r2, r3, r4) := by rw [if_neg (show ¬ (false = true) by decide)] at H; exact H
    clear H
    have H := H1
    clear H1
    simp only [Option.some.injEq, Prod.mk.injEq] at H
    obtain ⟨rfl, rfl, rfl, rfl⟩ := H
    go_enter Tryd.func43, Tryd.ntmps43
    go_wp2_with (first | ((with_reducible refine gate_callee (f := 26) rfl ?_); refine goesL_ (some 9) rfl rfl Tryd.func26 (by kernel_rfl) rfl #[.int .i64 a0] rfl ql_ ?_; (with_reducible refine (cohousingref03_In.calls a0 false _ A2.out).mono ?_); rintro e w' ⟨rfl, ⟨nd, rfl⟩⟩; refine ⟨_, rfl, ?_⟩))
    refine bodyPost_ret (results_list (rs := [.tmp 2, .tmp 3, .tmp 4, .tmp 5]) rfl (by simp) (.tmp (.tmp (.tmp (.tmp .nil))))) rfl ?_
    exact ⟨qs_, qy_⟩

/-! ### cohousingref21_Months: function 27 -/
def cohousingref21_Months.f (k : Nat) (a0 a1 : Int) : Option (Int) := (cohousingref03_Date.f k a0).bind fun bt200 => ((cohousingref03_Date.f k a1).bind fun bt204 => (if bt204.2.2.1 < bt200.2.2.1 then (some (wrap64 ((wrap64 ((wrap64 ((wrap64 (12 * (wrap64 (bt204.1 - bt200.1)))) + bt204.2.1)) - bt200.2.1)) - 1))) else (some (wrap64 ((wrap64 ((wrap64 (12 * (wrap64 (bt204.1 - bt200.1)))) + bt204.2.1)) - bt200.2.1)))))
theorem cohousingref21_Months.mono : ∀ a0 a1 k, LeO (cohousingref21_Months.f k a0 a1) (cohousingref21_Months.f (k + 1) a0 a1) := by
  intro a0 a1 k
  unfold cohousingref21_Months.f
  with_reducible (repeat' first | apply cohousingref03_Date.mono | apply LeO.refl | apply LeO.none | apply LeO.ite | refine LeO.bind ?_ (fun _ => ?_))
set_option maxHeartbeats 8000000 in
set_option maxRecDepth 100000 in
theorem cohousingref21_Months.calls (k : Nat) (a0 a1 r : Int) (w : World) (h : cohousingref21_Months.f k a0 a1 = some r) :
    Calls Tryd.prog 27 #[.int .i64 a0, .int .i64 a1] w fun e w' => e = .returned (.int .i64 r) ∧ Drawn0 w w' := by
  have H : ((cohousingref03_Date.f k a0).bind fun bt200 => ((cohousingref03_Date.f k a1).bind fun bt204 => (if bt204.2.2.1 < bt200.2.2.1 then (some (wrap64 ((wrap64 ((wrap64 ((wrap64 (12 * (wrap64 (bt204.1 - bt200.1)))) + bt204.2.1)) - bt200.2.1)) - 1))) else (some (wrap64 ((wrap64 ((wrap64 (12 * (wrap64 (bt204.1 - bt200.1)))) + bt204.2.1)) - bt200.2.1)))))) = some r := h
  clear h
  replace H := Option.bind_eq_some_iff.mp H
  obtain ⟨⟨t200, t201, t202, t203⟩, A30, H⟩ := H
  replace H : ((cohousingref03_Date.f k a1).bind fun bt204 => (if bt204.2.2.1 < t202 then (some (wrap64 ((wrap64 ((wrap64 ((wrap64 (12 * (wrap64 (bt204.1 - t200)))) + bt204.2.1)) - t201)) - 1))) else (some (wrap64 ((wrap64 ((wrap64 (12 * (wrap64 (bt204.1 - t200)))) + bt204.2.1)) - t201))))) = some r := H
  have A3 := Aside0.mk A30
  clear A30
  replace H := Option.bind_eq_some_iff.mp H
  obtain ⟨⟨t204, t205, t206, t207⟩, A40, H⟩ := H
  replace H : (if t206 < t202 then (some (wrap64 ((wrap64 ((wrap64 ((wrap64 (12 * (wrap64 (t204 - t200)))) + t205)) - t201)) - 1))) else (some (wrap64 ((wrap64 ((wrap64 (12 * (wrap64 (t204 - t200)))) + t205)) - t201)))) = some r := H
  have A4 := Aside0.mk A40
  clear A40
  by_cases c5 : t206 < t202
  · rw [if_pos c5] at H
    have c5b0 : decide (t206 < t202) = true := decide_eq_true c5
    clear c5
    obtain rfl := Option.some.inj H
    go_enter Tryd.func27, Tryd.ntmps27
    go_wp2_with (first | ((with_reducible refine gate_callee (f := 43) rfl ?_); refine goesL_ (some 16) rfl rfl Tryd.func43 (by kernel_rfl) rfl #[.int .i64 a0] rfl ql_ ?_; (with_reducible refine (cohousingref03_Date.calls k a0 t200 t201 t202 t203 _ A3.out).mono ?_); rintro e w' ⟨rfl, ⟨nd, rfl⟩⟩; refine ⟨_, rfl, ?_⟩) | ((with_reducible refine gate_callee (f := 43) rfl ?_); refine goesL_ (some 23) rfl rfl Tryd.func43 (by kernel_rfl) rfl #[.int .i64 a1] rfl ql_ ?_; (with_reducible refine (cohousingref03_Date.calls k a1 t204 t205 t206 t207 _ A4.out).mono ?_); rintro e w' ⟨rfl, ⟨nd, rfl⟩⟩; refine ⟨_, rfl, ?_⟩))
    go_ret
    exact ⟨qs_, qy_⟩
  · rw [if_neg c5] at H
    have c5b0 : decide (t206 < t202) = false := decide_eq_false c5
    clear c5
    obtain rfl := Option.some.inj H
    go_enter Tryd.func27, Tryd.ntmps27
    go_wp2_with (first | ((with_reducible refine gate_callee (f := 43) rfl ?_); refine goesL_ (some 16) rfl rfl Tryd.func43 (by kernel_rfl) rfl #[.int .i64 a0] rfl ql_ ?_; (with_reducible refine (cohousingref03_Date.calls k a0 t200 t201 t202 t203 _ A3.out).mono ?_); rintro e w' ⟨rfl, ⟨nd, rfl⟩⟩; refine ⟨_, rfl, ?_⟩) | ((with_reducible refine gate_callee (f := 43) rfl ?_); refine goesL_ (some 23) rfl rfl Tryd.func43 (by kernel_rfl) rfl #[.int .i64 a1] rfl ql_ ?_; (with_reducible refine (cohousingref03_Date.calls k a1 t204 t205 t206 t207 _ A4.out).mono ?_); rintro e w' ⟨rfl, ⟨nd, rfl⟩⟩; refine ⟨_, rfl, ?_⟩))
    go_ret
    exact ⟨qs_, qy_⟩

/-! ### cohousingref21_Count: function 12 -/
def cohousingref21_Count.j0 : Nat → Int → Bool → Int → Int → Int → Int → Int → Int → Int → Int → Int → Option (Int × Int)
  | 0, _, _, _, _, _, _, _, _, _, _, _ => none
  | k + 1, x2, x16, x209000, x209001, x209002, x209003, x210000, x210001, x210002, x210003, x210004 => if x16 = true then (some (0, 1)) else ((cohousingref03_In.f x2).bind fun t212 => (if t212 = true then (if x210001 > x2 then (some (0, 21)) else ((cohousingref21_Months.f k x210001 x2).bind fun t213 => (if (wrap64 ((wrap64 ((wrap64 ((wrap64 (t213 * x209000)) + (wrap64 (x210002 * x209001)))) + (wrap64 (x210003 * x209002)))) + (wrap64 (x210004 * x209003)))) > 1000000000 then (some (0, 3)) else (some (wrap64 ((wrap64 ((wrap64 ((wrap64 (t213 * x209000)) + (wrap64 (x210002 * x209001)))) + (wrap64 (x210003 * x209002)))) + (wrap64 (x210004 * x209003))), 0))))) else (some (0, 3))))
def cohousingref21_Count.f (k : Nat) (a0_0 a0_1 a0_2 a0_3 a1_0 a1_1 a1_2 a1_3 a1_4 a2 : Int) : Option (Int × Int) := (cohousingref21_Weights.f a0_0 a0_1 a0_2 a0_3).bind fun t210 => (if t210 = true then ((cohousingref21_Wait.f a1_0 a1_1 a1_2 a1_3 a1_4).bind fun t211 => (cohousingref21_Count.j0 k a2 (!t211) a0_0 a0_1 a0_2 a0_3 a1_0 a1_1 a1_2 a1_3 a1_4)) else (cohousingref21_Count.j0 k a2 true a0_0 a0_1 a0_2 a0_3 a1_0 a1_1 a1_2 a1_3 a1_4))
theorem cohousingref21_Count.mono_l : ∀ k, (∀ y0 y1 y2 y3 y4 y5 y6 y7 y8 y9 y10, LeO (cohousingref21_Count.j0 k y0 y1 y2 y3 y4 y5 y6 y7 y8 y9 y10) (cohousingref21_Count.j0 (k + 1) y0 y1 y2 y3 y4 y5 y6 y7 y8 y9 y10))
  | 0 => fun _ _ _ _ _ _ _ _ _ _ _ r h => by simp [cohousingref21_Count.j0] at h
  | k + 1 => by
    have ih0 := cohousingref21_Count.mono_l k
    · intro y0 y1 y2 y3 y4 y5 y6 y7 y8 y9 y10
      unfold cohousingref21_Count.j0
      with_reducible (repeat' first | apply ih0 | apply cohousingref21_Months.mono | apply LeO.refl | apply LeO.none | apply LeO.ite | refine LeO.bind ?_ (fun _ => ?_))
theorem cohousingref21_Count.mono : ∀ a0 a1 a2 a3 a4 a5 a6 a7 a8 a9 k, LeO (cohousingref21_Count.f k a0 a1 a2 a3 a4 a5 a6 a7 a8 a9) (cohousingref21_Count.f (k + 1) a0 a1 a2 a3 a4 a5 a6 a7 a8 a9) := by
  intro a0 a1 a2 a3 a4 a5 a6 a7 a8 a9 k
  have ih0 := cohousingref21_Count.mono_l k
  unfold cohousingref21_Count.f
  with_reducible (repeat' first | apply ih0 | apply cohousingref21_Months.mono | apply LeO.refl | apply LeO.none | apply LeO.ite | refine LeO.bind ?_ (fun _ => ?_))
set_option maxHeartbeats 8000000 in
set_option maxRecDepth 100000 in
theorem cohousingref21_Count.calls (k : Nat) (a0_0 a0_1 a0_2 a0_3 a1_0 a1_1 a1_2 a1_3 a1_4 a2 r1 r2 : Int) (w : World) (h : cohousingref21_Count.f k a0_0 a0_1 a0_2 a0_3 a1_0 a1_1 a1_2 a1_3 a1_4 a2 = some (r1, r2)) :
    Calls Tryd.prog 12 #[.agg #[.int .i64 a0_0, .int .i64 a0_1, .int .i64 a0_2, .int .i64 a0_3], .agg #[.int .i64 a1_0, .int .i64 a1_1, .int .i64 a1_2, .int .i64 a1_3, .int .i64 a1_4], .int .i64 a2] w fun e w' => e = .returned (.tuple #[.int .i64 r1, .int .i64 r2]) ∧ Below w.heap.size w w' := by
  have hu23 := Tryd.underlying23
  have hu25 := Tryd.underlying25
  have HB := Aside0.mk (Below.refl w.heap.size w)
  have H : ((cohousingref21_Weights.f a0_0 a0_1 a0_2 a0_3).bind fun t210 => (if t210 = true then ((cohousingref21_Wait.f a1_0 a1_1 a1_2 a1_3 a1_4).bind fun t211 => (cohousingref21_Count.j0 k a2 (!t211) a0_0 a0_1 a0_2 a0_3 a1_0 a1_1 a1_2 a1_3 a1_4)) else (cohousingref21_Count.j0 k a2 true a0_0 a0_1 a0_2 a0_3 a1_0 a1_1 a1_2 a1_3 a1_4))) = some (r1, r2) := h
  clear h
  have HC4 := Aside0.mk H
  clear H
  go_enter Tryd.func12, Tryd.ntmps12
  go_upto_region 1 with (first | ((with_reducible refine gate_dst (N := 3) rfl ?_); refine qev_ 3 #[.int .i64 a0_0, .int .i64 a0_1, .int .i64 a0_2, .int .i64 a0_3] 23 ?_; intro gb208 hg w5 hbox hb; have BK208 := Aside0.mk (hbox); have GW208 := qga_ hg; have GE208 := qga_ hg; replace HB := qbs_ hb; clear hb hbox hg) | ((with_reducible refine gate_dst (N := 4) rfl ?_); refine qev_ 4 #[.int .i64 a1_0, .int .i64 a1_1, .int .i64 a1_2, .int .i64 a1_3, .int .i64 a1_4] 25 ?_; intro gb209 hg w6 hbox hb; have BK209 := Aside0.mk (hbox); have GW209 := qga_ hg; have GE209 := qga_ hg; replace HB := qbs_ hb; have NB208_209 := Aside0.mk ((by rw [hg]; exact Nat.ne_of_lt (blk_lt (qk_ BK208)) : gb208 ≠ gb209)); have NB209_208 := Aside0.mk ((by rw [hg]; exact Nat.ne_of_gt (blk_lt (qk_ BK208)) : gb209 ≠ gb208)); replace BK208 := qkb_ BK208 hb; clear hb hbox hg))
  repeat (go_quiet (first | ((with_reducible refine gate_dst (N := 3) rfl ?_); refine qev_ 3 #[.int .i64 a0_0, .int .i64 a0_1, .int .i64 a0_2, .int .i64 a0_3] 23 ?_; intro gb208 hg w5 hbox hb; have BK208 := Aside0.mk (hbox); have GW208 := qga_ hg; have GE208 := qga_ hg; replace HB := qbs_ hb; clear hb hbox hg) | ((with_reducible refine gate_dst (N := 4) rfl ?_); refine qev_ 4 #[.int .i64 a1_0, .int .i64 a1_1, .int .i64 a1_2, .int .i64 a1_3, .int .i64 a1_4] 25 ?_; intro gb209 hg w6 hbox hb; have BK209 := Aside0.mk (hbox); have GW209 := qga_ hg; have GE209 := qga_ hg; replace HB := qbs_ hb; have NB208_209 := Aside0.mk ((by rw [hg]; exact Nat.ne_of_lt (blk_lt (qk_ BK208)) : gb208 ≠ gb209)); have NB209_208 := Aside0.mk ((by rw [hg]; exact Nat.ne_of_gt (blk_lt (qk_ BK208)) : gb209 ≠ gb208)); replace BK208 := qkb_ BK208 hb; clear hb hbox hg)); go_upto_region 1 with (first | ((with_reducible refine gate_dst (N := 3) rfl ?_); refine qev_ 3 #[.int .i64 a0_0, .int .i64 a0_1, .int .i64 a0_2, .int .i64 a0_3] 23 ?_; intro gb208 hg w5 hbox hb; have BK208 := Aside0.mk (hbox); have GW208 := qga_ hg; have GE208 := qga_ hg; replace HB := qbs_ hb; clear hb hbox hg) | ((with_reducible refine gate_dst (N := 4) rfl ?_); refine qev_ 4 #[.int .i64 a1_0, .int .i64 a1_1, .int .i64 a1_2, .int .i64 a1_3, .int .i64 a1_4] 25 ?_; intro gb209 hg w6 hbox hb; have BK209 := Aside0.mk (hbox); have GW209 := qga_ hg; have GE209 := qga_ hg; replace HB := qbs_ hb; have NB208_209 := Aside0.mk ((by rw [hg]; exact Nat.ne_of_lt (blk_lt (qk_ BK208)) : gb208 ≠ gb209)); have NB209_208 := Aside0.mk ((by rw [hg]; exact Nat.ne_of_gt (blk_lt (qk_ BK208)) : gb209 ≠ gb208)); replace BK208 := qkb_ BK208 hb; clear hb hbox hg)))
  (try simp only [Act.put, List.setIfInBounds_toArray, List.set_cons_zero, List.set_cons_succ])
  go_cut [16] (fun v16 wc => ∃ (kq : Nat) (x16_3 : Bool), v16 = .bool x16_3 ∧ Aside0 (cohousingref21_Count.j0 kq a2 x16_3 a0_0 a0_1 a0_2 a0_3 a1_0 a1_1 a1_2 a1_3 a1_4 = some (r1, r2)) ∧ Aside0 (kq ≤ k) ∧ Aside0 (wc.heap[gb208]? = some (.cells #[.int .i64 a0_0, .int .i64 a0_1, .int .i64 a0_2, .int .i64 a0_3] 23 (0, 0))) ∧ Aside0 (wc.heap[gb209]? = some (.cells #[.int .i64 a1_0, .int .i64 a1_1, .int .i64 a1_2, .int .i64 a1_3, .int .i64 a1_4] 25 (0, 0))) ∧ Aside0 (Below w.heap.size w wc))
  case first =>
    have H := HC4.out
    clear HC4
    replace H := Option.bind_eq_some_iff.mp H
    obtain ⟨t210, A70, H⟩ := H
    replace H : (if t210 = true then ((cohousingref21_Wait.f a1_0 a1_1 a1_2 a1_3 a1_4).bind fun t211 => (cohousingref21_Count.j0 k a2 (!t211) a0_0 a0_1 a0_2 a0_3 a1_0 a1_1 a1_2 a1_3 a1_4)) else (cohousingref21_Count.j0 k a2 true a0_0 a0_1 a0_2 a0_3 a1_0 a1_1 a1_2 a1_3 a1_4)) = some (r1, r2) := H
    have A7 := Aside0.mk A70
    clear A70
    by_cases c8 : t210 = true
    · subst c8
      have H1 : ((cohousingref21_Wait.f a1_0 a1_1 a1_2 a1_3 a1_4).bind fun t211 => (cohousingref21_Count.j0 k a2 (!t211) a0_0 a0_1 a0_2 a0_3 a1_0 a1_1 a1_2 a1_3 a1_4)) = some (r1, r2) := by rw [if_pos rfl] at H; exact H
      clear H
      have H := H1
      clear H1
      replace H := Option.bind_eq_some_iff.mp H
      obtain ⟨t211, A90, H⟩ := H
      replace H : (cohousingref21_Count.j0 k a2 (!t211) a0_0 a0_1 a0_2 a0_3 a1_0 a1_1 a1_2 a1_3 a1_4) = some (r1, r2) := H
      have A9 := Aside0.mk A90
      clear A90
      have H' := Aside0.mk H
      clear H
      have hnb10 := NB208_209.out
      have hnc10 := NB209_208.out
      obtain ⟨hcz11_0, hcz11_1, hcz11_2, hcz11_3⟩ := qz4_ BK208; obtain ⟨hfz11_0, hfz11_1, hfz11_2, hfz11_3⟩ := qf4_ BK208
      go_wp2_with (first | (go_at_call 25; (with_reducible refine (cohousingref21_Weights.calls a0_0 a0_1 a0_2 a0_3 true _ A7.out).mono ?_); rintro e w12 ⟨rfl, hb⟩; replace BK208 := qkb_ BK208 hb; replace BK209 := qkb_ BK209 hb; replace HB := qbs_ hb; (try clear hb); (try clear hb2); (try clear hk); (try clear hi); obtain ⟨hcz13_0, hcz13_1, hcz13_2, hcz13_3, hcz13_4⟩ := qz5_ BK209; obtain ⟨hfz13_0, hfz13_1, hfz13_2, hfz13_3, hfz13_4⟩ := qf5_ BK209) | (go_at_call 16; (with_reducible refine (cohousingref21_Wait.calls a1_0 a1_1 a1_2 a1_3 a1_4 t211 _ A9.out).mono ?_); rintro e w14 ⟨rfl, hb⟩; replace BK208 := qkb_ BK208 hb; replace BK209 := qkb_ BK209 hb; replace HB := qbs_ hb; (try clear hb); (try clear hb2); (try clear hk); (try clear hi)))
      repeat (go_quiet (first | (go_at_call 25; (with_reducible refine (cohousingref21_Weights.calls a0_0 a0_1 a0_2 a0_3 true _ A7.out).mono ?_); rintro e w12 ⟨rfl, hb⟩; replace BK208 := qkb_ BK208 hb; replace BK209 := qkb_ BK209 hb; replace HB := qbs_ hb; (try clear hb); (try clear hb2); (try clear hk); (try clear hi); obtain ⟨hcz13_0, hcz13_1, hcz13_2, hcz13_3, hcz13_4⟩ := qz5_ BK209; obtain ⟨hfz13_0, hfz13_1, hfz13_2, hfz13_3, hfz13_4⟩ := qf5_ BK209) | (go_at_call 16; (with_reducible refine (cohousingref21_Wait.calls a1_0 a1_1 a1_2 a1_3 a1_4 t211 _ A9.out).mono ?_); rintro e w14 ⟨rfl, hb⟩; replace BK208 := qkb_ BK208 hb; replace BK209 := qkb_ BK209 hb; replace HB := qbs_ hb; (try clear hb); (try clear hb2); (try clear hk); (try clear hi))); try go_wp2_with (first | (go_at_call 25; (with_reducible refine (cohousingref21_Weights.calls a0_0 a0_1 a0_2 a0_3 true _ A7.out).mono ?_); rintro e w12 ⟨rfl, hb⟩; replace BK208 := qkb_ BK208 hb; replace BK209 := qkb_ BK209 hb; replace HB := qbs_ hb; (try clear hb); (try clear hb2); (try clear hk); (try clear hi); obtain ⟨hcz13_0, hcz13_1, hcz13_2, hcz13_3, hcz13_4⟩ := qz5_ BK209; obtain ⟨hfz13_0, hfz13_1, hfz13_2, hfz13_3, hfz13_4⟩ := qf5_ BK209) | (go_at_call 16; (with_reducible refine (cohousingref21_Wait.calls a1_0 a1_1 a1_2 a1_3 a1_4 t211 _ A9.out).mono ?_); rintro e w14 ⟨rfl, hb⟩; replace BK208 := qkb_ BK208 hb; replace BK209 := qkb_ BK209 hb; replace HB := qbs_ hb; (try clear hb); (try clear hb2); (try clear hk); (try clear hi))))
      go_meet
      case rel => exact ⟨_, (!t211), qs_, H', ⟨qo_⟩, ⟨qk_ BK208⟩, ⟨qk_ BK209⟩, ⟨qb_⟩⟩
    · replace c8 := Bool.eq_false_iff.mpr c8
      subst c8
      have H1 : (cohousingref21_Count.j0 k a2 true a0_0 a0_1 a0_2 a0_3 a1_0 a1_1 a1_2 a1_3 a1_4) = some (r1, r2) := by rw [if_neg (show ¬ (false = true) by decide)] at H; exact H
      clear H
      have H := H1
      clear H1
      have H' := Aside0.mk H
      clear H
      have hnb15 := NB208_209.out
      have hnc15 := NB209_208.out
      obtain ⟨hcz16_0, hcz16_1, hcz16_2, hcz16_3⟩ := qz4_ BK208; obtain ⟨hfz16_0, hfz16_1, hfz16_2, hfz16_3⟩ := qf4_ BK208
      go_wp2_with (first | (go_at_call 25; (with_reducible refine (cohousingref21_Weights.calls a0_0 a0_1 a0_2 a0_3 false _ A7.out).mono ?_); rintro e w17 ⟨rfl, hb⟩; replace BK208 := qkb_ BK208 hb; replace BK209 := qkb_ BK209 hb; replace HB := qbs_ hb; (try clear hb); (try clear hb2); (try clear hk); (try clear hi)))
      repeat (go_quiet (first | (go_at_call 25; (with_reducible refine (cohousingref21_Weights.calls a0_0 a0_1 a0_2 a0_3 false _ A7.out).mono ?_); rintro e w17 ⟨rfl, hb⟩; replace BK208 := qkb_ BK208 hb; replace BK209 := qkb_ BK209 hb; replace HB := qbs_ hb; (try clear hb); (try clear hb2); (try clear hk); (try clear hi))); try go_wp2_with (first | (go_at_call 25; (with_reducible refine (cohousingref21_Weights.calls a0_0 a0_1 a0_2 a0_3 false _ A7.out).mono ?_); rintro e w17 ⟨rfl, hb⟩; replace BK208 := qkb_ BK208 hb; replace BK209 := qkb_ BK209 hb; replace HB := qbs_ hb; (try clear hb); (try clear hb2); (try clear hk); (try clear hi))))
      go_meet
      case rel => exact ⟨_, (true), qs_, H', ⟨qo_⟩, ⟨qk_ BK208⟩, ⟨qk_ BK209⟩, ⟨qb_⟩⟩
  case rest =>
    clear HC4
    try clear c1
    try clear p2
    try clear c8
    try clear c10
    try clear c12
    try clear c15
    try clear hcz11_0 hcz11_1 hcz11_2 hcz11_3
    try clear hcz13_0 hcz13_1 hcz13_2 hcz13_3 hcz13_4
    try clear hcz16_0 hcz16_1 hcz16_2 hcz16_3
    try clear hfz11_0 hfz11_1 hfz11_2 hfz11_3
    try clear hfz13_0 hfz13_1 hfz13_2 hfz13_3 hfz13_4
    try clear hfz16_0 hfz16_1 hfz16_2 hfz16_3
    obtain ⟨kq, x16_3, rfl, HA, HJ3, BK208, BK209, HB⟩ := hcut
    cases kq with
    | zero => exact absurd HA.out (by simp [cohousingref21_Count.j0])
    | succ kj3 =>
      have H := HA.out
      clear HA
      simp only [cohousingref21_Count.j0] at H
      by_cases c18 : x16_3 = true
      · subst c18
        have H1 : (some (0, 1)) = some (r1, r2) := by rw [if_pos rfl] at H; exact H
        clear H
        have H := H1
        clear H1
        simp only [Option.some.injEq, Prod.mk.injEq] at H
        obtain ⟨rfl, rfl⟩ := H
        go_wp2
        repeat (go_quiet (fail); try go_wp2)
        go_ret2
        try simp only [i64_w]
        exact ⟨qx_, qb_⟩
      · replace c18 := Bool.eq_false_iff.mpr c18
        subst c18
        have H1 : ((cohousingref03_In.f a2).bind fun t212 => (if t212 = true then (if a1_1 > a2 then (some (0, 21)) else ((cohousingref21_Months.f kj3 a1_1 a2).bind fun t213 => (if (wrap64 ((wrap64 ((wrap64 ((wrap64 (t213 * a0_0)) + (wrap64 (a1_2 * a0_1)))) + (wrap64 (a1_3 * a0_2)))) + (wrap64 (a1_4 * a0_3)))) > 1000000000 then (some (0, 3)) else (some (wrap64 ((wrap64 ((wrap64 ((wrap64 (t213 * a0_0)) + (wrap64 (a1_2 * a0_1)))) + (wrap64 (a1_3 * a0_2)))) + (wrap64 (a1_4 * a0_3))), 0))))) else (some (0, 3)))) = some (r1, r2) := by rw [if_neg (show ¬ (false = true) by decide)] at H; exact H
        clear H
        have H := H1
        clear H1
        replace H := Option.bind_eq_some_iff.mp H
        obtain ⟨t212, A190, H⟩ := H
        replace H : (if t212 = true then (if a1_1 > a2 then (some (0, 21)) else ((cohousingref21_Months.f kj3 a1_1 a2).bind fun t213 => (if (wrap64 ((wrap64 ((wrap64 ((wrap64 (t213 * a0_0)) + (wrap64 (a1_2 * a0_1)))) + (wrap64 (a1_3 * a0_2)))) + (wrap64 (a1_4 * a0_3)))) > 1000000000 then (some (0, 3)) else (some (wrap64 ((wrap64 ((wrap64 ((wrap64 (t213 * a0_0)) + (wrap64 (a1_2 * a0_1)))) + (wrap64 (a1_3 * a0_2)))) + (wrap64 (a1_4 * a0_3))), 0))))) else (some (0, 3))) = some (r1, r2) := H
        have A19 := Aside0.mk A190
        clear A190
        by_cases c20 : t212 = true
        · subst c20
          have H1 : (if a1_1 > a2 then (some (0, 21)) else ((cohousingref21_Months.f kj3 a1_1 a2).bind fun t213 => (if (wrap64 ((wrap64 ((wrap64 ((wrap64 (t213 * a0_0)) + (wrap64 (a1_2 * a0_1)))) + (wrap64 (a1_3 * a0_2)))) + (wrap64 (a1_4 * a0_3)))) > 1000000000 then (some (0, 3)) else (some (wrap64 ((wrap64 ((wrap64 ((wrap64 (t213 * a0_0)) + (wrap64 (a1_2 * a0_1)))) + (wrap64 (a1_3 * a0_2)))) + (wrap64 (a1_4 * a0_3))), 0))))) = some (r1, r2) := by rw [if_pos rfl] at H; exact H
          clear H
          have H := H1
          clear H1
          by_cases c21 : a1_1 > a2
          · rw [if_pos c21] at H
            have c21b0 : decide (a2 < a1_1) = true := decide_eq_true c21
            clear c21
            simp only [Option.some.injEq, Prod.mk.injEq] at H
            obtain ⟨rfl, rfl⟩ := H
            go_wp2_with (first | (go_at_call 26; (with_reducible refine (cohousingref03_In.calls a2 true _ A19.out).mono ?_); rintro e w' ⟨rfl, ⟨nd, rfl⟩⟩; (try exact qw_); have hnb22 := NB209_208.out; have hnc22 := NB208_209.out; obtain ⟨hcz23_0, hcz23_1, hcz23_2, hcz23_3, hcz23_4⟩ := qz5_ BK209; obtain ⟨hfz23_0, hfz23_1, hfz23_2, hfz23_3, hfz23_4⟩ := qf5_ BK209))
            repeat (go_quiet (first | (go_at_call 26; (with_reducible refine (cohousingref03_In.calls a2 true _ A19.out).mono ?_); rintro e w' ⟨rfl, ⟨nd, rfl⟩⟩; (try exact qw_); have hnb22 := NB209_208.out; have hnc22 := NB208_209.out; obtain ⟨hcz23_0, hcz23_1, hcz23_2, hcz23_3, hcz23_4⟩ := qz5_ BK209; obtain ⟨hfz23_0, hfz23_1, hfz23_2, hfz23_3, hfz23_4⟩ := qf5_ BK209)); try go_wp2_with (first | (go_at_call 26; (with_reducible refine (cohousingref03_In.calls a2 true _ A19.out).mono ?_); rintro e w' ⟨rfl, ⟨nd, rfl⟩⟩; (try exact qw_); have hnb22 := NB209_208.out; have hnc22 := NB208_209.out; obtain ⟨hcz23_0, hcz23_1, hcz23_2, hcz23_3, hcz23_4⟩ := qz5_ BK209; obtain ⟨hfz23_0, hfz23_1, hfz23_2, hfz23_3, hfz23_4⟩ := qf5_ BK209)))
            go_ret2
            try simp only [i64_w]
            exact ⟨qx_, qb_⟩
          · rw [if_neg c21] at H
            have c21b0 : decide (a2 < a1_1) = false := decide_eq_false c21
            clear c21
            replace H := Option.bind_eq_some_iff.mp H
            obtain ⟨t213, A240, H⟩ := H
            replace H : (if (wrap64 ((wrap64 ((wrap64 ((wrap64 (t213 * a0_0)) + (wrap64 (a1_2 * a0_1)))) + (wrap64 (a1_3 * a0_2)))) + (wrap64 (a1_4 * a0_3)))) > 1000000000 then (some (0, 3)) else (some (wrap64 ((wrap64 ((wrap64 ((wrap64 (t213 * a0_0)) + (wrap64 (a1_2 * a0_1)))) + (wrap64 (a1_3 * a0_2)))) + (wrap64 (a1_4 * a0_3))), 0))) = some (r1, r2) := H
            have A24 := Aside0.mk A240
            clear A240
            by_cases c25 : (wrap64 ((wrap64 ((wrap64 ((wrap64 (t213 * a0_0)) + (wrap64 (a1_2 * a0_1)))) + (wrap64 (a1_3 * a0_2)))) + (wrap64 (a1_4 * a0_3)))) > 1000000000
            · rw [if_pos c25] at H
              have c25b0 : decide (1000000000 < (wrap64 ((wrap64 ((wrap64 ((wrap64 (t213 * a0_0)) + (wrap64 (a1_2 * a0_1)))) + (wrap64 (a1_3 * a0_2)))) + (wrap64 (a1_4 * a0_3))))) = true := decide_eq_true c25
              have c25b9 : decide (1000000000 < (IntKind.i64.wrap ((IntKind.i64.wrap ((IntKind.i64.wrap ((IntKind.i64.wrap (t213 * a0_0)) + (IntKind.i64.wrap (a1_2 * a0_1)))) + (IntKind.i64.wrap (a1_3 * a0_2)))) + (IntKind.i64.wrap (a1_4 * a0_3))))) = true := by simp only [i64_w]; exact c25b0
              clear c25
              simp only [Option.some.injEq, Prod.mk.injEq] at H
              obtain ⟨rfl, rfl⟩ := H
              go_wp2_with (first | (go_at_call 26; (with_reducible refine (cohousingref03_In.calls a2 true _ A19.out).mono ?_); rintro e w' ⟨rfl, ⟨nd, rfl⟩⟩; (try exact qw_); have hnb26 := NB209_208.out; have hnc26 := NB208_209.out; obtain ⟨hcz27_0, hcz27_1, hcz27_2, hcz27_3, hcz27_4⟩ := qz5_ BK209; obtain ⟨hfz27_0, hfz27_1, hfz27_2, hfz27_3, hfz27_4⟩ := qf5_ BK209) | (go_at_call 27; (with_reducible refine (cohousingref21_Months.calls kj3 a1_1 a2 t213 _ A24.out).mono ?_); rintro e w' ⟨rfl, ⟨nd, rfl⟩⟩; (try exact qw_); obtain ⟨hcz28_0, hcz28_1, hcz28_2, hcz28_3⟩ := qz4_ BK208; obtain ⟨hfz28_0, hfz28_1, hfz28_2, hfz28_3⟩ := qf4_ BK208))
              repeat (go_quiet (first | (go_at_call 26; (with_reducible refine (cohousingref03_In.calls a2 true _ A19.out).mono ?_); rintro e w' ⟨rfl, ⟨nd, rfl⟩⟩; (try exact qw_); have hnb26 := NB209_208.out; have hnc26 := NB208_209.out; obtain ⟨hcz27_0, hcz27_1, hcz27_2, hcz27_3, hcz27_4⟩ := qz5_ BK209; obtain ⟨hfz27_0, hfz27_1, hfz27_2, hfz27_3, hfz27_4⟩ := qf5_ BK209) | (go_at_call 27; (with_reducible refine (cohousingref21_Months.calls kj3 a1_1 a2 t213 _ A24.out).mono ?_); rintro e w' ⟨rfl, ⟨nd, rfl⟩⟩; (try exact qw_); obtain ⟨hcz28_0, hcz28_1, hcz28_2, hcz28_3⟩ := qz4_ BK208; obtain ⟨hfz28_0, hfz28_1, hfz28_2, hfz28_3⟩ := qf4_ BK208)); try go_wp2_with (first | (go_at_call 26; (with_reducible refine (cohousingref03_In.calls a2 true _ A19.out).mono ?_); rintro e w' ⟨rfl, ⟨nd, rfl⟩⟩; (try exact qw_); have hnb26 := NB209_208.out; have hnc26 := NB208_209.out; obtain ⟨hcz27_0, hcz27_1, hcz27_2, hcz27_3, hcz27_4⟩ := qz5_ BK209; obtain ⟨hfz27_0, hfz27_1, hfz27_2, hfz27_3, hfz27_4⟩ := qf5_ BK209) | (go_at_call 27; (with_reducible refine (cohousingref21_Months.calls kj3 a1_1 a2 t213 _ A24.out).mono ?_); rintro e w' ⟨rfl, ⟨nd, rfl⟩⟩; (try exact qw_); obtain ⟨hcz28_0, hcz28_1, hcz28_2, hcz28_3⟩ := qz4_ BK208; obtain ⟨hfz28_0, hfz28_1, hfz28_2, hfz28_3⟩ := qf4_ BK208)))
              go_ret2
              try simp only [i64_w]
              exact ⟨qx_, qb_⟩
            · rw [if_neg c25] at H
              have c25b0 : decide (1000000000 < (wrap64 ((wrap64 ((wrap64 ((wrap64 (t213 * a0_0)) + (wrap64 (a1_2 * a0_1)))) + (wrap64 (a1_3 * a0_2)))) + (wrap64 (a1_4 * a0_3))))) = false := decide_eq_false c25
              have c25b9 : decide (1000000000 < (IntKind.i64.wrap ((IntKind.i64.wrap ((IntKind.i64.wrap ((IntKind.i64.wrap (t213 * a0_0)) + (IntKind.i64.wrap (a1_2 * a0_1)))) + (IntKind.i64.wrap (a1_3 * a0_2)))) + (IntKind.i64.wrap (a1_4 * a0_3))))) = false := by simp only [i64_w]; exact c25b0
              clear c25
              simp only [Option.some.injEq, Prod.mk.injEq] at H
              obtain ⟨rfl, rfl⟩ := H
              go_wp2_with (first | (go_at_call 26; (with_reducible refine (cohousingref03_In.calls a2 true _ A19.out).mono ?_); rintro e w' ⟨rfl, ⟨nd, rfl⟩⟩; (try exact qw_); have hnb29 := NB209_208.out; have hnc29 := NB208_209.out; obtain ⟨hcz30_0, hcz30_1, hcz30_2, hcz30_3, hcz30_4⟩ := qz5_ BK209; obtain ⟨hfz30_0, hfz30_1, hfz30_2, hfz30_3, hfz30_4⟩ := qf5_ BK209) | (go_at_call 27; (with_reducible refine (cohousingref21_Months.calls kj3 a1_1 a2 t213 _ A24.out).mono ?_); rintro e w' ⟨rfl, ⟨nd, rfl⟩⟩; (try exact qw_); obtain ⟨hcz31_0, hcz31_1, hcz31_2, hcz31_3⟩ := qz4_ BK208; obtain ⟨hfz31_0, hfz31_1, hfz31_2, hfz31_3⟩ := qf4_ BK208))
              repeat (go_quiet (first | (go_at_call 26; (with_reducible refine (cohousingref03_In.calls a2 true _ A19.out).mono ?_); rintro e w' ⟨rfl, ⟨nd, rfl⟩⟩; (try exact qw_); have hnb29 := NB209_208.out; have hnc29 := NB208_209.out; obtain ⟨hcz30_0, hcz30_1, hcz30_2, hcz30_3, hcz30_4⟩ := qz5_ BK209; obtain ⟨hfz30_0, hfz30_1, hfz30_2, hfz30_3, hfz30_4⟩ := qf5_ BK209) | (go_at_call 27; (with_reducible refine (cohousingref21_Months.calls kj3 a1_1 a2 t213 _ A24.out).mono ?_); rintro e w' ⟨rfl, ⟨nd, rfl⟩⟩; (try exact qw_); obtain ⟨hcz31_0, hcz31_1, hcz31_2, hcz31_3⟩ := qz4_ BK208; obtain ⟨hfz31_0, hfz31_1, hfz31_2, hfz31_3⟩ := qf4_ BK208)); try go_wp2_with (first | (go_at_call 26; (with_reducible refine (cohousingref03_In.calls a2 true _ A19.out).mono ?_); rintro e w' ⟨rfl, ⟨nd, rfl⟩⟩; (try exact qw_); have hnb29 := NB209_208.out; have hnc29 := NB208_209.out; obtain ⟨hcz30_0, hcz30_1, hcz30_2, hcz30_3, hcz30_4⟩ := qz5_ BK209; obtain ⟨hfz30_0, hfz30_1, hfz30_2, hfz30_3, hfz30_4⟩ := qf5_ BK209) | (go_at_call 27; (with_reducible refine (cohousingref21_Months.calls kj3 a1_1 a2 t213 _ A24.out).mono ?_); rintro e w' ⟨rfl, ⟨nd, rfl⟩⟩; (try exact qw_); obtain ⟨hcz31_0, hcz31_1, hcz31_2, hcz31_3⟩ := qz4_ BK208; obtain ⟨hfz31_0, hfz31_1, hfz31_2, hfz31_3⟩ := qf4_ BK208)))
              go_ret2
              try simp only [i64_w]
              exact ⟨qx_, qb_⟩
        · replace c20 := Bool.eq_false_iff.mpr c20
          subst c20
          have H1 : (some (0, 3)) = some (r1, r2) := by rw [if_neg (show ¬ (false = true) by decide)] at H; exact H
          clear H
          have H := H1
          clear H1
          simp only [Option.some.injEq, Prod.mk.injEq] at H
          obtain ⟨rfl, rfl⟩ := H
          go_wp2_with (first | (go_at_call 26; (with_reducible refine (cohousingref03_In.calls a2 false _ A19.out).mono ?_); rintro e w' ⟨rfl, ⟨nd, rfl⟩⟩; (try exact qw_)))
          repeat (go_quiet (first | (go_at_call 26; (with_reducible refine (cohousingref03_In.calls a2 false _ A19.out).mono ?_); rintro e w' ⟨rfl, ⟨nd, rfl⟩⟩; (try exact qw_))); try go_wp2_with (first | (go_at_call 26; (with_reducible refine (cohousingref03_In.calls a2 false _ A19.out).mono ?_); rintro e w' ⟨rfl, ⟨nd, rfl⟩⟩; (try exact qw_))))
          go_ret2
          try simp only [i64_w]
          exact ⟨qx_, qb_⟩

end Go.Proofs.YtfhmbfadbfnnaaaDoor.Px
