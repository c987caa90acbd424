/- Contracts of Go functions, written by a program of this session's own (wip/tools/myprint.py) out of the translation: each Go function does what the Lean function of its name says. Conditions: as each theorem states. -/
import Derived.Test.YtfhmbfadbfnnaaaDoorPx0
namespace Go.Proofs.YtfhmbfadbfnnaaaDoor.Px
open Go.Proofs.YtfhmbfadbfnnaaaDoor.Given
open Go.RowKit Go.Proofs.YtfhmbfadbfnnaaaDoorW.PrintWords Go.Proofs.YtfhmbfadbfnnaaaDoorW.PrintLast Go.Proofs.YtfhmbfadbfnnaaaDoorW.PrintMore
attribute [local go_sem] max2_int min2_int max_two min_two max_three min_three max_four min_four   -- for this text's walks alone
set_option linter.unusedVariables false
set_option linter.unusedSimpArgs false

/-! ### cohousingref21_weight: function 42 -/
def cohousingref21_weight.f (a0 : Int) : Option (Bool) := if a0 ≥ 0 then (some (decide (a0 ≤ 1000000))) else (some false)
set_option maxHeartbeats 8000000 in
set_option maxRecDepth 100000 in
theorem cohousingref21_weight.calls (a0 : Int) (r : Bool) (w : World) (h : cohousingref21_weight.f a0 = some r) :
    Calls Tryd.prog 42 #[.int .i64 a0] w fun e w' => e = .returned (.bool r) ∧ Drawn0 w w' := by
  have H : (if a0 ≥ 0 then (some (decide (a0 ≤ 1000000))) else (some false)) = some r := h
  clear h
  by_cases c2 : a0 ≥ 0
  · rw [if_pos c2] at H
    have c2b0 : decide (0 ≤ a0) = true := decide_eq_true c2
    clear c2
    obtain rfl := Option.some.inj H
    go_enter Tryd.func42, Tryd.ntmps42
    go_wp2
    go_ret
    exact ⟨qs_, qy_⟩
  · rw [if_neg c2] at H
    have c2b0 : decide (0 ≤ a0) = false := decide_eq_false c2
    clear c2
    obtain rfl := Option.some.inj H
    go_enter Tryd.func42, Tryd.ntmps42
    go_wp2
    go_ret
    exact ⟨qs_, qy_⟩

/-! ### cohousingref21_Weights: function 25 -/
def cohousingref21_Weights.f (a0_0 a0_1 a0_2 a0_3 : Int) : Option (Bool) := (cohousingref21_weight.f a0_0).bind fun t189 => (if t189 = true then ((cohousingref21_weight.f a0_1).bind fun t190 => (if t190 = true then ((cohousingref21_weight.f a0_2).bind fun t191 => (if t191 = true then ((cohousingref21_weight.f a0_3).bind fun t192 => (some t192)) else (some false))) else (some false))) else (some false))
set_option maxHeartbeats 8000000 in
set_option maxRecDepth 100000 in
theorem cohousingref21_Weights.calls (a0_0 a0_1 a0_2 a0_3 : Int) (r : Bool) (w : World) (h : cohousingref21_Weights.f a0_0 a0_1 a0_2 a0_3 = some r) :
    Calls Tryd.prog 25 #[.agg #[.int .i64 a0_0, .int .i64 a0_1, .int .i64 a0_2, .int .i64 a0_3]] w fun e w' => e = .returned (.bool r) ∧ Below w.heap.size w w' := by
  have hu23 := Tryd.underlying23
  have HB := Aside0.mk (Below.refl w.heap.size w)
  have H : ((cohousingref21_weight.f a0_0).bind fun t189 => (if t189 = true then ((cohousingref21_weight.f a0_1).bind fun t190 => (if t190 = true then ((cohousingref21_weight.f a0_2).bind fun t191 => (if t191 = true then ((cohousingref21_weight.f a0_3).bind fun t192 => (some t192)) else (some false))) else (some false))) else (some false))) = some r := h
  clear h
  replace H := Option.bind_eq_some_iff.mp H
  obtain ⟨t189, A20, H⟩ := H
  replace H : (if t189 = true then ((cohousingref21_weight.f a0_1).bind fun t190 => (if t190 = true then ((cohousingref21_weight.f a0_2).bind fun t191 => (if t191 = true then ((cohousingref21_weight.f a0_3).bind fun t192 => (some t192)) else (some false))) else (some false))) else (some false)) = some r := H
  have A2 := Aside0.mk A20
  clear A20
  by_cases c3 : t189 = true
  · subst c3
    have H1 : ((cohousingref21_weight.f a0_1).bind fun t190 => (if t190 = true then ((cohousingref21_weight.f a0_2).bind fun t191 => (if t191 = true then ((cohousingref21_weight.f a0_3).bind fun t192 => (some t192)) else (some false))) else (some false))) = some r := by rw [if_pos rfl] at H; exact H
    clear H
    have H := H1
    clear H1
    replace H := Option.bind_eq_some_iff.mp H
    obtain ⟨t190, A40, H⟩ := H
    replace H : (if t190 = true then ((cohousingref21_weight.f a0_2).bind fun t191 => (if t191 = true then ((cohousingref21_weight.f a0_3).bind fun t192 => (some t192)) else (some false))) else (some false)) = some r := H
    have A4 := Aside0.mk A40
    clear A40
    by_cases c5 : t190 = true
    · subst c5
      have H1 : ((cohousingref21_weight.f a0_2).bind fun t191 => (if t191 = true then ((cohousingref21_weight.f a0_3).bind fun t192 => (some t192)) else (some false))) = some r := by rw [if_pos rfl] at H; exact H
      clear H
      have H := H1
      clear H1
      replace H := Option.bind_eq_some_iff.mp H
      obtain ⟨t191, A60, H⟩ := H
      replace H : (if t191 = true then ((cohousingref21_weight.f a0_3).bind fun t192 => (some t192)) else (some false)) = some r := H
      have A6 := Aside0.mk A60
      clear A60
      by_cases c7 : t191 = true
      · subst c7
        have H1 : ((cohousingref21_weight.f a0_3).bind fun t192 => (some t192)) = some r := by rw [if_pos rfl] at H; exact H
        clear H
        have H := H1
        clear H1
        replace H := Option.bind_eq_some_iff.mp H
        obtain ⟨t192, A80, H⟩ := H
        replace H : (some t192) = some r := H
        have A8 := Aside0.mk A80
        clear A80
        obtain rfl := Option.some.inj H
        go_enter Tryd.func25, Tryd.ntmps25
        go_wp2_with (first | ((with_reducible refine gate_dst (N := 1) rfl ?_); refine qev_ 1 #[.int .i64 a0_0, .int .i64 a0_1, .int .i64 a0_2, .int .i64 a0_3] 23 ?_; intro gb188 hg w9 hbox hb; have BK188 := Aside0.mk (hbox); have GW188 := qga_ hg; have GE188 := qga_ hg; replace HB := qbs_ hb; clear hb hbox hg; obtain ⟨hcz10_0, hcz10_1, hcz10_2, hcz10_3⟩ := qz4_ BK188; obtain ⟨hfz10_0, hfz10_1, hfz10_2, hfz10_3⟩ := qf4_ BK188) | ((with_reducible refine gate_callee (f := 42) rfl ?_); refine goesL_ (some 5) rfl rfl Tryd.func42 (by kernel_rfl) rfl #[.int .i64 a0_0] rfl ql_ ?_; (with_reducible refine (cohousingref21_weight.calls a0_0 true _ A2.out).mono ?_); rintro e w' ⟨rfl, ⟨nd, rfl⟩⟩; refine ⟨_, rfl, ?_⟩) | (go_at_call 42; (with_reducible refine (cohousingref21_weight.calls a0_1 true _ A4.out).mono ?_); rintro e w' ⟨rfl, ⟨nd, rfl⟩⟩) | (go_at_call 42; (with_reducible refine (cohousingref21_weight.calls a0_2 true _ A6.out).mono ?_); rintro e w' ⟨rfl, ⟨nd, rfl⟩⟩) | (go_at_call 42; (with_reducible refine (cohousingref21_weight.calls a0_3 t192 _ A8.out).mono ?_); rintro e w' ⟨rfl, ⟨nd, rfl⟩⟩))
        go_ret
        exact ⟨qx_, qb_⟩
      · replace c7 := Bool.eq_false_iff.mpr c7
        subst c7
        have H1 : (some false) = some r := by rw [if_neg (show ¬ (false = true) by decide)] at H; exact H
        clear H
        have H := H1
        clear H1
        obtain rfl := Option.some.inj H
        go_enter Tryd.func25, Tryd.ntmps25
        go_wp2_with (first | ((with_reducible refine gate_dst (N := 1) rfl ?_); refine qev_ 1 #[.int .i64 a0_0, .int .i64 a0_1, .int .i64 a0_2, .int .i64 a0_3] 23 ?_; intro gb188 hg w11 hbox hb; have BK188 := Aside0.mk (hbox); have GW188 := qga_ hg; have GE188 := qga_ hg; replace HB := qbs_ hb; clear hb hbox hg; obtain ⟨hcz12_0, hcz12_1, hcz12_2, hcz12_3⟩ := qz4_ BK188; obtain ⟨hfz12_0, hfz12_1, hfz12_2, hfz12_3⟩ := qf4_ BK188) | ((with_reducible refine gate_callee (f := 42) rfl ?_); refine goesL_ (some 5) rfl rfl Tryd.func42 (by kernel_rfl) rfl #[.int .i64 a0_0] rfl ql_ ?_; (with_reducible refine (cohousingref21_weight.calls a0_0 true _ A2.out).mono ?_); rintro e w' ⟨rfl, ⟨nd, rfl⟩⟩; refine ⟨_, rfl, ?_⟩) | (go_at_call 42; (with_reducible refine (cohousingref21_weight.calls a0_1 true _ A4.out).mono ?_); rintro e w' ⟨rfl, ⟨nd, rfl⟩⟩) | (go_at_call 42; (with_reducible refine (cohousingref21_weight.calls a0_2 false _ A6.out).mono ?_); rintro e w' ⟨rfl, ⟨nd, rfl⟩⟩))
        go_ret
        exact ⟨qx_, qb_⟩
    · replace c5 := Bool.eq_false_iff.mpr c5
      subst c5
      have H1 : (some false) = some r := by rw [if_neg (show ¬ (false = true) by decide)] at H; exact H
      clear H
      have H := H1
      clear H1
      obtain rfl := Option.some.inj H
      go_enter Tryd.func25, Tryd.ntmps25
      go_wp2_with (first | ((with_reducible refine gate_dst (N := 1) rfl ?_); refine qev_ 1 #[.int .i64 a0_0, .int .i64 a0_1, .int .i64 a0_2, .int .i64 a0_3] 23 ?_; intro gb188 hg w13 hbox hb; have BK188 := Aside0.mk (hbox); have GW188 := qga_ hg; have GE188 := qga_ hg; replace HB := qbs_ hb; clear hb hbox hg; obtain ⟨hcz14_0, hcz14_1, hcz14_2, hcz14_3⟩ := qz4_ BK188; obtain ⟨hfz14_0, hfz14_1, hfz14_2, hfz14_3⟩ := qf4_ BK188) | ((with_reducible refine gate_callee (f := 42) rfl ?_); refine goesL_ (some 5) rfl rfl Tryd.func42 (by kernel_rfl) rfl #[.int .i64 a0_0] rfl ql_ ?_; (with_reducible refine (cohousingref21_weight.calls a0_0 true _ A2.out).mono ?_); rintro e w' ⟨rfl, ⟨nd, rfl⟩⟩; refine ⟨_, rfl, ?_⟩) | (go_at_call 42; (with_reducible refine (cohousingref21_weight.calls a0_1 false _ A4.out).mono ?_); rintro e w' ⟨rfl, ⟨nd, rfl⟩⟩))
      go_ret
      exact ⟨qx_, qb_⟩
  · replace c3 := Bool.eq_false_iff.mpr c3
    subst c3
    have H1 : (some false) = some r := by rw [if_neg (show ¬ (false = true) by decide)] at H; exact H
    clear H
    have H := H1
    clear H1
    obtain rfl := Option.some.inj H
    go_enter Tryd.func25, Tryd.ntmps25
    go_wp2_with (first | ((with_reducible refine gate_dst (N := 1) rfl ?_); refine qev_ 1 #[.int .i64 a0_0, .int .i64 a0_1, .int .i64 a0_2, .int .i64 a0_3] 23 ?_; intro gb188 hg w15 hbox hb; have BK188 := Aside0.mk (hbox); have GW188 := qga_ hg; have GE188 := qga_ hg; replace HB := qbs_ hb; clear hb hbox hg; obtain ⟨hcz16_0, hcz16_1, hcz16_2, hcz16_3⟩ := qz4_ BK188; obtain ⟨hfz16_0, hfz16_1, hfz16_2, hfz16_3⟩ := qf4_ BK188) | ((with_reducible refine gate_callee (f := 42) rfl ?_); refine goesL_ (some 5) rfl rfl Tryd.func42 (by kernel_rfl) rfl #[.int .i64 a0_0] rfl ql_ ?_; (with_reducible refine (cohousingref21_weight.calls a0_0 false _ A2.out).mono ?_); rintro e w' ⟨rfl, ⟨nd, rfl⟩⟩; refine ⟨_, rfl, ?_⟩))
    go_ret
    exact ⟨qx_, qb_⟩

/-! ### cohousingref03_In: function 26 -/
def cohousingref03_In.f (a0 : Int) : Option (Bool) := if a0 ≥ 0 then (some (decide (a0 ≤ 36524))) else (some false)
set_option maxHeartbeats 8000000 in
set_option maxRecDepth 100000 in
theorem cohousingref03_In.calls (a0 : Int) (r : Bool) (w : World) (h : cohousingref03_In.f a0 = some r) :
    Calls Tryd.prog 26 #[.int .i64 a0] w fun e w' => e = .returned (.bool r) ∧ Drawn0 w w' := by
  have H : (if a0 ≥ 0 then (some (decide (a0 ≤ 36524))) else (some false)) = some r := h
  clear h
  by_cases c2 : a0 ≥ 0
  · rw [if_pos c2] at H
    have c2b0 : decide (0 ≤ a0) = true := decide_eq_true c2
    clear c2
    obtain rfl := Option.some.inj H
    go_enter Tryd.func26, Tryd.ntmps26
    go_wp2
    go_ret
    exact ⟨qs_, qy_⟩
  · rw [if_neg c2] at H
    have c2b0 : decide (0 ≤ a0) = false := decide_eq_false c2
    clear c2
    obtain rfl := Option.some.inj H
    go_enter Tryd.func26, Tryd.ntmps26
    go_wp2
    go_ret
    exact ⟨qs_, qy_⟩

/-! ### cohousingref21_Wait: function 16 -/
def cohousingref21_Wait.f (a0_0 a0_1 a0_2 a0_3 a0_4 : Int) : Option (Bool) := if a0_0 ≥ 1 then (if a0_0 ≤ 64 then ((cohousingref03_In.f a0_1).bind fun t194 => (if t194 = true then (if a0_2 ≥ 0 then (if a0_2 ≤ 10 then (if a0_3 ≥ 0 then (if a0_3 ≤ 100000 then (if a0_4 ≥ 0 then (some (decide (a0_4 ≤ 1000))) else (some false)) else (some false)) else (some false)) else (some false)) else (some false)) else (some false))) else (some false)) else (some false)
set_option maxHeartbeats 8000000 in
set_option maxRecDepth 100000 in
theorem cohousingref21_Wait.calls (a0_0 a0_1 a0_2 a0_3 a0_4 : Int) (r : Bool) (w : World) (h : cohousingref21_Wait.f a0_0 a0_1 a0_2 a0_3 a0_4 = some r) :
    Calls Tryd.prog 16 #[.agg #[.int .i64 a0_0, .int .i64 a0_1, .int .i64 a0_2, .int .i64 a0_3, .int .i64 a0_4]] w fun e w' => e = .returned (.bool r) ∧ Below w.heap.size w w' := by
  have hu25 := Tryd.underlying25
  have HB := Aside0.mk (Below.refl w.heap.size w)
  have H : (if a0_0 ≥ 1 then (if a0_0 ≤ 64 then ((cohousingref03_In.f a0_1).bind fun t194 => (if t194 = true then (if a0_2 ≥ 0 then (if a0_2 ≤ 10 then (if a0_3 ≥ 0 then (if a0_3 ≤ 100000 then (if a0_4 ≥ 0 then (some (decide (a0_4 ≤ 1000))) else (some false)) else (some false)) else (some false)) else (some false)) else (some false)) else (some false))) else (some false)) else (some false)) = some r := h
  clear h
  by_cases c2 : a0_0 ≥ 1
  · rw [if_pos c2] at H
    have c2b0 : decide (1 ≤ a0_0) = true := decide_eq_true c2
    clear c2
    by_cases c3 : a0_0 ≤ 64
    · rw [if_pos c3] at H
      have c3b0 : decide (a0_0 ≤ 64) = true := decide_eq_true c3
      clear c3
      replace H := Option.bind_eq_some_iff.mp H
      obtain ⟨t194, A40, H⟩ := H
      replace H : (if t194 = true then (if a0_2 ≥ 0 then (if a0_2 ≤ 10 then (if a0_3 ≥ 0 then (if a0_3 ≤ 100000 then (if a0_4 ≥ 0 then (some (decide (a0_4 ≤ 1000))) else (some false)) else (some false)) else (some false)) else (some false)) else (some false)) else (some false)) = some r := H
      have A4 := Aside0.mk A40
      clear A40
      by_cases c5 : t194 = true
      · subst c5
        have H1 : (if a0_2 ≥ 0 then (if a0_2 ≤ 10 then (if a0_3 ≥ 0 then (if a0_3 ≤ 100000 then (if a0_4 ≥ 0 then (some (decide (a0_4 ≤ 1000))) else (some false)) else (some false)) else (some false)) else (some false)) else (some false)) = some r := by rw [if_pos rfl] at H; exact H
        clear H
        have H := H1
        clear H1
        by_cases c6 : a0_2 ≥ 0
        · rw [if_pos c6] at H
          have c6b0 : decide (0 ≤ a0_2) = true := decide_eq_true c6
          clear c6
          by_cases c7 : a0_2 ≤ 10
          · rw [if_pos c7] at H
            have c7b0 : decide (a0_2 ≤ 10) = true := decide_eq_true c7
            clear c7
            by_cases c8 : a0_3 ≥ 0
            · rw [if_pos c8] at H
              have c8b0 : decide (0 ≤ a0_3) = true := decide_eq_true c8
              clear c8
              by_cases c9 : a0_3 ≤ 100000
              · rw [if_pos c9] at H
                have c9b0 : decide (a0_3 ≤ 100000) = true := decide_eq_true c9
                clear c9
                by_cases c10 : a0_4 ≥ 0
                · rw [if_pos c10] at H
                  have c10b0 : decide (0 ≤ a0_4) = true := decide_eq_true c10
                  clear c10
                  obtain rfl := Option.some.inj H
                  go_enter Tryd.func16, Tryd.ntmps16
                  go_wp2_with (first | ((with_reducible refine gate_dst (N := 1) rfl ?_); refine qev_ 1 #[.int .i64 a0_0, .int .i64 a0_1, .int .i64 a0_2, .int .i64 a0_3, .int .i64 a0_4] 25 ?_; intro gb193 hg w11 hbox hb; have BK193 := Aside0.mk (hbox); have GW193 := qga_ hg; have GE193 := qga_ hg; replace HB := qbs_ hb; clear hb hbox hg; obtain ⟨hcz12_0, hcz12_1, hcz12_2, hcz12_3, hcz12_4⟩ := qz5_ BK193; obtain ⟨hfz12_0, hfz12_1, hfz12_2, hfz12_3, hfz12_4⟩ := qf5_ BK193) | (go_at_call 26; (with_reducible refine (cohousingref03_In.calls a0_1 true _ A4.out).mono ?_); rintro e w' ⟨rfl, ⟨nd, rfl⟩⟩))
                  go_ret
                  exact ⟨qx_, qb_⟩
                · rw [if_neg c10] at H
                  have c10b0 : decide (0 ≤ a0_4) = false := decide_eq_false c10
                  clear c10
                  obtain rfl := Option.some.inj H
                  go_enter Tryd.func16, Tryd.ntmps16
                  go_wp2_with (first | ((with_reducible refine gate_dst (N := 1) rfl ?_); refine qev_ 1 #[.int .i64 a0_0, .int .i64 a0_1, .int .i64 a0_2, .int .i64 a0_3, .int .i64 a0_4] 25 ?_; intro gb193 hg w13 hbox hb; have BK193 := Aside0.mk (hbox); have GW193 := qga_ hg; have GE193 := qga_ hg; replace HB := qbs_ hb; clear hb hbox hg; obtain ⟨hcz14_0, hcz14_1, hcz14_2, hcz14_3, hcz14_4⟩ := qz5_ BK193; obtain ⟨hfz14_0, hfz14_1, hfz14_2, hfz14_3, hfz14_4⟩ := qf5_ BK193) | (go_at_call 26; (with_reducible refine (cohousingref03_In.calls a0_1 true _ A4.out).mono ?_); rintro e w' ⟨rfl, ⟨nd, rfl⟩⟩))
                  go_ret
                  exact ⟨qx_, qb_⟩
              · rw [if_neg c9] at H
                have c9b0 : decide (a0_3 ≤ 100000) = false := decide_eq_false c9
                clear c9
                obtain rfl := Option.some.inj H
                go_enter Tryd.func16, Tryd.ntmps16
                go_wp2_with (first | ((with_reducible refine gate_dst (N := 1) rfl ?_); refine qev_ 1 #[.int .i64 a0_0, .int .i64 a0_1, .int .i64 a0_2, .int .i64 a0_3, .int .i64 a0_4] 25 ?_; intro gb193 hg w15 hbox hb; have BK193 := Aside0.mk (hbox); have GW193 := qga_ hg; have GE193 := qga_ hg; replace HB := qbs_ hb; clear hb hbox hg; obtain ⟨hcz16_0, hcz16_1, hcz16_2, hcz16_3, hcz16_4⟩ := qz5_ BK193; obtain ⟨hfz16_0, hfz16_1, hfz16_2, hfz16_3, hfz16_4⟩ := qf5_ BK193) | (go_at_call 26; (with_reducible refine (cohousingref03_In.calls a0_1 true _ A4.out).mono ?_); rintro e w' ⟨rfl, ⟨nd, rfl⟩⟩))
                go_ret
                exact ⟨qx_, qb_⟩
            · rw [if_neg c8] at H
              have c8b0 : decide (0 ≤ a0_3) = false := decide_eq_false c8
              clear c8
              obtain rfl := Option.some.inj H
              go_enter Tryd.func16, Tryd.ntmps16
              go_wp2_with (first | ((with_reducible refine gate_dst (N := 1) rfl ?_); refine qev_ 1 #[.int .i64 a0_0, .int .i64 a0_1, .int .i64 a0_2, .int .i64 a0_3, .int .i64 a0_4] 25 ?_; intro gb193 hg w17 hbox hb; have BK193 := Aside0.mk (hbox); have GW193 := qga_ hg; have GE193 := qga_ hg; replace HB := qbs_ hb; clear hb hbox hg; obtain ⟨hcz18_0, hcz18_1, hcz18_2, hcz18_3, hcz18_4⟩ := qz5_ BK193; obtain ⟨hfz18_0, hfz18_1, hfz18_2, hfz18_3, hfz18_4⟩ := qf5_ BK193) | (go_at_call 26; (with_reducible refine (cohousingref03_In.calls a0_1 true _ A4.out).mono ?_); rintro e w' ⟨rfl, ⟨nd, rfl⟩⟩))
              go_ret
              exact ⟨qx_, qb_⟩
          · rw [if_neg c7] at H
            have c7b0 : decide (a0_2 ≤ 10) = false := decide_eq_false c7
            clear c7
            obtain rfl := Option.some.inj H
            go_enter Tryd.func16, Tryd.ntmps16
            go_wp2_with (first | ((with_reducible refine gate_dst (N := 1) rfl ?_); refine qev_ 1 #[.int .i64 a0_0, .int .i64 a0_1, .int .i64 a0_2, .int .i64 a0_3, .int .i64 a0_4] 25 ?_; intro gb193 hg w19 hbox hb; have BK193 := Aside0.mk (hbox); have GW193 := qga_ hg; have GE193 := qga_ hg; replace HB := qbs_ hb; clear hb hbox hg; obtain ⟨hcz20_0, hcz20_1, hcz20_2, hcz20_3, hcz20_4⟩ := qz5_ BK193; obtain ⟨hfz20_0, hfz20_1, hfz20_2, hfz20_3, hfz20_4⟩ := qf5_ BK193) | (go_at_call 26; (with_reducible refine (cohousingref03_In.calls a0_1 true _ A4.out).mono ?_); rintro e w' ⟨rfl, ⟨nd, rfl⟩⟩))
            go_ret
            exact ⟨qx_, qb_⟩
        · rw [if_neg c6] at H
          have c6b0 : decide (0 ≤ a0_2) = false := decide_eq_false c6
          clear c6
          obtain rfl := Option.some.inj H
          go_enter Tryd.func16, Tryd.ntmps16
          go_wp2_with (first | ((with_reducible refine gate_dst (N := 1) rfl ?_); refine qev_ 1 #[.int .i64 a0_0, .int .i64 a0_1, .int .i64 a0_2, .int .i64 a0_3, .int .i64 a0_4] 25 ?_; intro gb193 hg w21 hbox hb; have BK193 := Aside0.mk (hbox); have GW193 := qga_ hg; have GE193 := qga_ hg; replace HB := qbs_ hb; clear hb hbox hg; obtain ⟨hcz22_0, hcz22_1, hcz22_2, hcz22_3, hcz22_4⟩ := qz5_ BK193; obtain ⟨hfz22_0, hfz22_1, hfz22_2, hfz22_3, hfz22_4⟩ := qf5_ BK193) | (go_at_call 26; (with_reducible refine (cohousingref03_In.calls a0_1 true _ A4.out).mono ?_); rintro e w' ⟨rfl, ⟨nd, rfl⟩⟩))
          go_ret
          exact ⟨qx_, qb_⟩
      · replace c5 := Bool.eq_false_iff.mpr c5
        subst c5
        have H1 : (some false) = some r := by rw [if_neg (show ¬ (false = true) by decide)] at H; exact H
        clear H
        have H := H1
        clear H1
        obtain rfl := Option.some.inj H
        go_enter Tryd.func16, Tryd.ntmps16
        go_wp2_with (first | ((with_reducible refine gate_dst (N := 1) rfl ?_); refine qev_ 1 #[.int .i64 a0_0, .int .i64 a0_1, .int .i64 a0_2, .int .i64 a0_3, .int .i64 a0_4] 25 ?_; intro gb193 hg w23 hbox hb; have BK193 := Aside0.mk (hbox); have GW193 := qga_ hg; have GE193 := qga_ hg; replace HB := qbs_ hb; clear hb hbox hg; obtain ⟨hcz24_0, hcz24_1, hcz24_2, hcz24_3, hcz24_4⟩ := qz5_ BK193; obtain ⟨hfz24_0, hfz24_1, hfz24_2, hfz24_3, hfz24_4⟩ := qf5_ BK193) | (go_at_call 26; (with_reducible refine (cohousingref03_In.calls a0_1 false _ A4.out).mono ?_); rintro e w' ⟨rfl, ⟨nd, rfl⟩⟩))
        go_ret
        exact ⟨qx_, qb_⟩
    · rw [if_neg c3] at H
      have c3b0 : decide (a0_0 ≤ 64) = false := decide_eq_false c3
      clear c3
      obtain rfl := Option.some.inj H
      go_enter Tryd.func16, Tryd.ntmps16
      go_wp2_with (first | ((with_reducible refine gate_dst (N := 1) rfl ?_); refine qev_ 1 #[.int .i64 a0_0, .int .i64 a0_1, .int .i64 a0_2, .int .i64 a0_3, .int .i64 a0_4] 25 ?_; intro gb193 hg w25 hbox hb; have BK193 := Aside0.mk (hbox); have GW193 := qga_ hg; have GE193 := qga_ hg; replace HB := qbs_ hb; clear hb hbox hg; obtain ⟨hcz26_0, hcz26_1, hcz26_2, hcz26_3, hcz26_4⟩ := qz5_ BK193; obtain ⟨hfz26_0, hfz26_1, hfz26_2, hfz26_3, hfz26_4⟩ := qf5_ BK193))
      go_ret
      exact ⟨qx_, qb_⟩
  · rw [if_neg c2] at H
    have c2b0 : decide (1 ≤ a0_0) = false := decide_eq_false c2
    clear c2
    obtain rfl := Option.some.inj H
    go_enter Tryd.func16, Tryd.ntmps16
    go_wp2_with (first | ((with_reducible refine gate_dst (N := 1) rfl ?_); refine qev_ 1 #[.int .i64 a0_0, .int .i64 a0_1, .int .i64 a0_2, .int .i64 a0_3, .int .i64 a0_4] 25 ?_; intro gb193 hg w27 hbox hb; have BK193 := Aside0.mk (hbox); have GW193 := qga_ hg; have GE193 := qga_ hg; replace HB := qbs_ hb; clear hb hbox hg; obtain ⟨hcz28_0, hcz28_1, hcz28_2, hcz28_3, hcz28_4⟩ := qz5_ BK193; obtain ⟨hfz28_0, hfz28_1, hfz28_2, hfz28_3, hfz28_4⟩ := qf5_ BK193))
    go_ret
    exact ⟨qx_, qb_⟩

/-! ### cohousingref03_leap: function 49 -/
def cohousingref03_leap.f (a0 : Int) : Option (Int) := if (Int.tmod a0 4) = 0 then (some 366) else (some 365)
set_option maxHeartbeats 8000000 in
set_option maxRecDepth 100000 in
theorem cohousingref03_leap.calls (a0 r : Int) (w : World) (h : cohousingref03_leap.f a0 = some r) :
    Calls Tryd.prog 49 #[.int .i64 a0] w fun e w' => e = .returned (.int .i64 r) ∧ Drawn0 w w' := by
  have H : (if (Int.tmod a0 4) = 0 then (some 366) else (some 365)) = some r := h
  clear h
  by_cases c2 : (Int.tmod a0 4) = 0
  · rw [if_pos c2] at H
    have c2b0 : ((Int.tmod a0 4) == 0) = true := beq_iff_eq.mpr c2
    have c2b1 : ((Int.tmod a0 4) != 0) = false := bne_eq_false_iff_eq.mpr c2
    clear c2
    obtain rfl := Option.some.inj H
    go_enter Tryd.func49, Tryd.ntmps49
    go_wp2
    go_ret
    exact ⟨qs_, qy_⟩
  · rw [if_neg c2] at H
    have c2b0 : ((Int.tmod a0 4) == 0) = false := beq_eq_false_iff_ne.mpr c2
    have c2b1 : ((Int.tmod a0 4) != 0) = true := bne_iff_ne.mpr c2
    obtain rfl := Option.some.inj H
    go_enter Tryd.func49, Tryd.ntmps49
    go_wp2
    go_ret
    exact ⟨qs_, qy_⟩

/-! ### cohousingref03_length: function 50 -/
mutual
def cohousingref03_length.j0 : Nat → Int → Bool → Option (Int)
  | 0, _, _ => none
  | k + 1, x1, x11 => if x11 = true then (some 29) else (if x1 = 2 then (some 28) else (if x1 = 4 then (cohousingref03_length.j1 k true) else (if x1 = 6 then (cohousingref03_length.j1 k true) else (if x1 = 9 then (cohousingref03_length.j1 k true) else (cohousingref03_length.j1 k (x1 == 11))))))
def cohousingref03_length.j1 : Nat → Bool → Option (Int)
  | 0, _ => none
  | k + 1, x27 => if x27 = true then (some 30) else (some 31)
end
def cohousingref03_length.f (k : Nat) (a0 a1 : Int) : Option (Int) := if a1 = 2 then (cohousingref03_length.j0 k a1 ((Int.tmod a0 4) == 0)) else (cohousingref03_length.j0 k a1 false)
theorem cohousingref03_length.mono_l : ∀ k, (∀ y0 y1, LeO (cohousingref03_length.j0 k y0 y1) (cohousingref03_length.j0 (k + 1) y0 y1)) ∧ (∀ y0, LeO (cohousingref03_length.j1 k y0) (cohousingref03_length.j1 (k + 1) y0))
  | 0 => ⟨fun _ _ r h => by simp [cohousingref03_length.j0] at h, fun _ r h => by simp [cohousingref03_length.j1] at h⟩
  | k + 1 => by
    obtain ⟨ih0, ih1⟩ := cohousingref03_length.mono_l k
    refine ⟨?_, ?_⟩
    · intro y0 y1
      unfold cohousingref03_length.j0
      with_reducible (repeat' first | apply ih0 | apply ih1 | apply LeO.refl | apply LeO.none | apply LeO.ite | refine LeO.bind ?_ (fun _ => ?_))
    · intro y0
      unfold cohousingref03_length.j1
      with_reducible (repeat' first | apply ih0 | apply ih1 | apply LeO.refl | apply LeO.none | apply LeO.ite | refine LeO.bind ?_ (fun _ => ?_))
theorem cohousingref03_length.mono : ∀ a0 a1 k, LeO (cohousingref03_length.f k a0 a1) (cohousingref03_length.f (k + 1) a0 a1) := by
  intro a0 a1 k
  obtain ⟨ih0, ih1⟩ := cohousingref03_length.mono_l k
  unfold cohousingref03_length.f
  with_reducible (repeat' first | apply ih0 | apply ih1 | apply LeO.refl | apply LeO.none | apply LeO.ite | refine LeO.bind ?_ (fun _ => ?_))
set_option maxHeartbeats 8000000 in
set_option maxRecDepth 100000 in
theorem cohousingref03_length.calls (k : Nat) (a0 a1 r : Int) (w : World) (h : cohousingref03_length.f k a0 a1 = some r) :
    Calls Tryd.prog 50 #[.int .i64 a0, .int .i64 a1] w fun e w' => e = .returned (.int .i64 r) ∧ Drawn0 w w' := by
  have H : (if a1 = 2 then (cohousingref03_length.j0 k a1 ((Int.tmod a0 4) == 0)) else (cohousingref03_length.j0 k a1 false)) = some r := h
  clear h
  have HC3 := Aside0.mk H
  clear H
  go_enter Tryd.func50, Tryd.ntmps50
  go_upto_region 1 with (fail)
  go_cut [11] (fun v11 wc => ∃ (kq : Nat) (x11_2 : Bool), v11 = .bool x11_2 ∧ Aside0 (cohousingref03_length.j0 kq a1 x11_2 = some r) ∧ Aside0 (kq ≤ k) ∧ Drawn0 w wc)
  case first =>
    have H := HC3.out
    clear HC3
    by_cases c4 : a1 = 2
    · rw [if_pos c4] at H
      have c4b0 : (a1 == 2) = true := beq_iff_eq.mpr c4
      have c4b1 : (a1 != 2) = false := bne_eq_false_iff_eq.mpr c4
      clear c4
      (first | rw [c4b0] | (simp only [i64_w, i32_w]; rw [c4b0]) | skip)
      have H' := Aside0.mk H
      clear H
      go_wp2
      go_meet
      case rel => exact ⟨_, (((Int.tmod a0 4) == 0)), qs_, H', ⟨qo_⟩, qy_⟩
    · rw [if_neg c4] at H
      have c4b0 : (a1 == 2) = false := beq_eq_false_iff_ne.mpr c4
      have c4b1 : (a1 != 2) = true := bne_iff_ne.mpr c4
      (first | rw [c4b0] | (simp only [i64_w, i32_w]; rw [c4b0]) | skip)
      have H' := Aside0.mk H
      clear H
      go_wp2
      go_meet
      case rel => exact ⟨_, (false), qs_, H', ⟨qo_⟩, qy_⟩
  case rest =>
    clear HC3
    try clear p2
    try clear c4
    try clear c4b0
    try clear c4b1
    obtain ⟨kq, x11_2, rfl, HA, HJ2, ⟨mc2, rfl⟩⟩ := hcut
    cases kq with
    | zero => exact absurd HA.out (by simp [cohousingref03_length.j0])
    | succ kj2 =>
      have H := HA.out
      clear HA
      simp only [cohousingref03_length.j0] at H
      by_cases c5 : x11_2 = true
      · subst c5
        have H1 : (some 29) = some r := by rw [if_pos rfl] at H; exact H
        clear H
        have H := H1
        clear H1
        obtain rfl := Option.some.inj H
        go_wp2
        go_ret
        exact ⟨qs_, qy_⟩
      · replace c5 := Bool.eq_false_iff.mpr c5
        subst c5
        have H1 : (if a1 = 2 then (some 28) else (if a1 = 4 then (cohousingref03_length.j1 kj2 true) else (if a1 = 6 then (cohousingref03_length.j1 kj2 true) else (if a1 = 9 then (cohousingref03_length.j1 kj2 true) else (cohousingref03_length.j1 kj2 (a1 == 11)))))) = some r := by rw [if_neg (show ¬ (false = true) by decide)] at H; exact H
        clear H
        have H := H1
        clear H1
        by_cases c6 : a1 = 2
        · rw [if_pos c6] at H
          have c6b0 : (a1 == 2) = true := beq_iff_eq.mpr c6
          have c6b1 : (a1 != 2) = false := bne_eq_false_iff_eq.mpr c6
          clear c6
          obtain rfl := Option.some.inj H
          go_wp2
          go_ret
          exact ⟨qs_, qy_⟩
        · rw [if_neg c6] at H
          have c6b0 : (a1 == 2) = false := beq_eq_false_iff_ne.mpr c6
          have c6b1 : (a1 != 2) = true := bne_iff_ne.mpr c6
          have HC7 := Aside0.mk H
          clear H
          go_upto_region 5 with (fail)
          go_cut [27] (fun v27 wc => ∃ (kq : Nat) (x27_6 : Bool), v27 = .bool x27_6 ∧ Aside0 (cohousingref03_length.j1 kq x27_6 = some r) ∧ Aside0 (kq ≤ kj2) ∧ Drawn0 w wc)
          case first =>
            have H := HC7.out
            clear HC7
            by_cases c8 : a1 = 4
            · rw [if_pos c8] at H
              have c8b0 : (a1 == 4) = true := beq_iff_eq.mpr c8
              have c8b1 : (a1 != 4) = false := bne_eq_false_iff_eq.mpr c8
              clear c8
              (first | rw [c8b0] | (simp only [i64_w, i32_w]; rw [c8b0]) | skip)
              have H' := Aside0.mk H
              clear H
              go_wp2
              go_meet
              case rel => exact ⟨_, (true), qs_, H', ⟨by have := HJ2.out; first | omega | exact Nat.le_refl _⟩, qy_⟩
            · rw [if_neg c8] at H
              have c8b0 : (a1 == 4) = false := beq_eq_false_iff_ne.mpr c8
              have c8b1 : (a1 != 4) = true := bne_iff_ne.mpr c8
              (first | rw [c8b0] | (simp only [i64_w, i32_w]; rw [c8b0]) | skip)
              by_cases c9 : a1 = 6
              · rw [if_pos c9] at H
                have c9b0 : (a1 == 6) = true := beq_iff_eq.mpr c9
                have c9b1 : (a1 != 6) = false := bne_eq_false_iff_eq.mpr c9
                clear c9
                have H' := Aside0.mk H
                clear H
                go_wp2
                go_meet
                case rel => exact ⟨_, (true), qs_, H', ⟨by have := HJ2.out; first | omega | exact Nat.le_refl _⟩, qy_⟩
              · rw [if_neg c9] at H
                have c9b0 : (a1 == 6) = false := beq_eq_false_iff_ne.mpr c9
                have c9b1 : (a1 != 6) = true := bne_iff_ne.mpr c9
                by_cases c10 : a1 = 9
                · rw [if_pos c10] at H
                  have c10b0 : (a1 == 9) = true := beq_iff_eq.mpr c10
                  have c10b1 : (a1 != 9) = false := bne_eq_false_iff_eq.mpr c10
                  clear c10
                  have H' := Aside0.mk H
                  clear H
                  go_wp2
                  go_meet
                  case rel => exact ⟨_, (true), qs_, H', ⟨by have := HJ2.out; first | omega | exact Nat.le_refl _⟩, qy_⟩
                · rw [if_neg c10] at H
                  have c10b0 : (a1 == 9) = false := beq_eq_false_iff_ne.mpr c10
                  have c10b1 : (a1 != 9) = true := bne_iff_ne.mpr c10
                  have H' := Aside0.mk H
                  clear H
                  go_wp2
                  go_meet
                  case rel => exact ⟨_, ((a1 == 11)), qs_, H', ⟨by have := HJ2.out; first | omega | exact Nat.le_refl _⟩, qy_⟩
          case rest =>
            clear HC7
            try clear c1
            try clear c2
            try clear p2
            try clear c4
            try clear c4b0
            try clear c4b1
            try clear c5
            try clear c6
            try clear c6b0
            try clear c6b1
            try clear c8
            try clear c8b0
            try clear c8b1
            try clear c9
            try clear c9b0
            try clear c9b1
            try clear c10
            try clear c10b0
            try clear c10b1
            try clear p2
            obtain ⟨kq, x27_6, rfl, HA, HJ6, ⟨mc6, rfl⟩⟩ := hcut
            cases kq with
            | zero => exact absurd HA.out (by simp [cohousingref03_length.j1])
            | succ kj6 =>
              have H := HA.out
              clear HA
              simp only [cohousingref03_length.j1] at H
              by_cases c11 : x27_6 = true
              · subst c11
                have H1 : (some 30) = some r := by rw [if_pos rfl] at H; exact H
                clear H
                have H := H1
                clear H1
                obtain rfl := Option.some.inj H
                go_wp2
                go_ret
                exact ⟨qs_, qy_⟩
              · replace c11 := Bool.eq_false_iff.mpr c11
                subst c11
                have H1 : (some 31) = some r := by rw [if_neg (show ¬ (false = true) by decide)] at H; exact H
                clear H
                have H := H1
                clear H1
                obtain rfl := Option.some.inj H
                go_wp2
                go_ret
                exact ⟨qs_, qy_⟩

end Go.Proofs.YtfhmbfadbfnnaaaDoor.Px
