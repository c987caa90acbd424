/- Contracts of Go functions, written by a program of this session's own (wip/tools/myprint.py) out of the translation: each Go function does what the Lean function of its name says. Conditions: as each theorem states. -/
import Derived.Test.YtfhmbfadbfnnaaaDoorPx0
import Derived.Test.YtfhmbfadbfnnaaaDoorPx1
import Derived.Test.YtfhmbfadbfnnaaaDoorGTab
namespace Go.Proofs.YtfhmbfadbfnnaaaDoor.Px
open Go.Proofs.YtfhmbfadbfnnaaaDoor.Given
open Go.RowKit Go.Proofs.YtfhmbfadbfnnaaaDoorW.PrintWords Go.Proofs.YtfhmbfadbfnnaaaDoorW.PrintLast Go.Proofs.YtfhmbfadbfnnaaaDoorW.PrintMore
attribute [local go_sem] max2_int min2_int max_two min_two max_three min_three max_four min_four   -- for this text's walks alone
set_option linter.unusedVariables false
set_option linter.unusedSimpArgs false

/-! ### calendar_Date: function 20 -/
mutual
def calendar_Date.j0 : Nat → Int → Int → Int → Option (Int × Int × Int × Int)
  | 0, _, _, _ => none
  | k + 1, x2, x3, x6 => calendar_Date.l0 k x2 x3 x6
def calendar_Date.l0 : Nat → Int → Int → Int → Option (Int × Int × Int × Int)
  | 0, _, _, _ => none
  | k + 1, x2, x3, x6 => (calendar_length.f x2 x3).bind fun t116 => (if x6 ≥ t116 then ((calendar_length.f x2 x3).bind fun t117 => (calendar_Date.l0 k x2 (wrap64 (x3 + 1)) (wrap64 (x6 - t117)))) else (some (x2, wrap64 (x3 + 1), wrap64 (x6 + 1), 0)))
end
def calendar_Date.f (k : Nat) (a0 : Int) : Option (Int × Int × Int × Int) := (calendar_valid.f a0).bind fun t115 => (if t115 = true then (if (Int.tmod a0 1461) ≥ 366 then (calendar_Date.j0 k (wrap64 ((wrap64 (2000 + (wrap64 (4 * (wrap64 (Int.tdiv a0 1461)))))) + (wrap64 (1 + (wrap64 (Int.tdiv (wrap64 ((Int.tmod a0 1461) - 366)) 365)))))) 0 (Int.tmod (wrap64 ((Int.tmod a0 1461) - 366)) 365)) else (calendar_Date.j0 k (wrap64 (2000 + (wrap64 (4 * (wrap64 (Int.tdiv a0 1461)))))) 0 (Int.tmod a0 1461))) else (some (0, 0, 0, 3)))
theorem calendar_Date.mono_l : ∀ k, (∀ y0 y1 y2, LeO (calendar_Date.j0 k y0 y1 y2) (calendar_Date.j0 (k + 1) y0 y1 y2)) ∧ (∀ y0 y1 y2, LeO (calendar_Date.l0 k y0 y1 y2) (calendar_Date.l0 (k + 1) y0 y1 y2))
  | 0 => ⟨fun _ _ _ r h => by simp [calendar_Date.j0] at h, fun _ _ _ r h => by simp [calendar_Date.l0] at h⟩
  | k + 1 => by
    obtain ⟨ih0, ih1⟩ := calendar_Date.mono_l k
    refine ⟨?_, ?_⟩
    · intro y0 y1 y2
      unfold calendar_Date.j0
      with_reducible (repeat' first | apply ih0 | apply ih1 | apply LeO.refl | apply LeO.none | apply LeO.ite | refine LeO.bind ?_ (fun _ => ?_))
    · intro y0 y1 y2
      unfold calendar_Date.l0
      with_reducible (repeat' first | apply ih0 | apply ih1 | apply LeO.refl | apply LeO.none | apply LeO.ite | refine LeO.bind ?_ (fun _ => ?_))
theorem calendar_Date.mono : ∀ a0 k, LeO (calendar_Date.f k a0) (calendar_Date.f (k + 1) a0) := by
  intro a0 k
  obtain ⟨ih0, ih1⟩ := calendar_Date.mono_l k
  unfold calendar_Date.f
  with_reducible (repeat' first | apply ih0 | apply ih1 | apply LeO.refl | apply LeO.none | apply LeO.ite | refine LeO.bind ?_ (fun _ => ?_))
set_option maxHeartbeats 8000000 in
set_option maxRecDepth 100000 in
theorem calendar_Date.calls (k : Nat) (a0 r1 r2 r3 r4 : Int) (w : World) (HT : TabOK w) (h : calendar_Date.f k a0 = some (r1, r2, r3, r4)) :
    Calls Tryd.prog 20 #[.int .i64 a0] w fun e w' => e = .returned (.tuple #[.int .i64 r1, .int .i64 r2, .int .i64 r3, .int .i64 r4]) ∧ Drawn0 w w' := by
  have HTA := Aside0.mk HT
  clear HT
  have H : ((calendar_valid.f a0).bind fun t115 => (if t115 = true then (if (Int.tmod a0 1461) ≥ 366 then (calendar_Date.j0 k (wrap64 ((wrap64 (2000 + (wrap64 (4 * (wrap64 (Int.tdiv a0 1461)))))) + (wrap64 (1 + (wrap64 (Int.tdiv (wrap64 ((Int.tmod a0 1461) - 366)) 365)))))) 0 (Int.tmod (wrap64 ((Int.tmod a0 1461) - 366)) 365)) else (calendar_Date.j0 k (wrap64 (2000 + (wrap64 (4 * (wrap64 (Int.tdiv a0 1461)))))) 0 (Int.tmod a0 1461))) else (some (0, 0, 0, 3)))) = some (r1, r2, r3, r4) := h
  clear h
  replace H := Option.bind_eq_some_iff.mp H
  obtain ⟨t115, A20, H⟩ := H
  replace H : (if t115 = true then (if (Int.tmod a0 1461) ≥ 366 then (calendar_Date.j0 k (wrap64 ((wrap64 (2000 + (wrap64 (4 * (wrap64 (Int.tdiv a0 1461)))))) + (wrap64 (1 + (wrap64 (Int.tdiv (wrap64 ((Int.tmod a0 1461) - 366)) 365)))))) 0 (Int.tmod (wrap64 ((Int.tmod a0 1461) - 366)) 365)) else (calendar_Date.j0 k (wrap64 (2000 + (wrap64 (4 * (wrap64 (Int.tdiv a0 1461)))))) 0 (Int.tmod a0 1461))) else (some (0, 0, 0, 3))) = some (r1, r2, r3, r4) := H
  have A2 := Aside0.mk A20
  clear A20
  by_cases c3 : t115 = true
  · subst c3
    have H1 : (if (Int.tmod a0 1461) ≥ 366 then (calendar_Date.j0 k (wrap64 ((wrap64 (2000 + (wrap64 (4 * (wrap64 (Int.tdiv a0 1461)))))) + (wrap64 (1 + (wrap64 (Int.tdiv (wrap64 ((Int.tmod a0 1461) - 366)) 365)))))) 0 (Int.tmod (wrap64 ((Int.tmod a0 1461) - 366)) 365)) else (calendar_Date.j0 k (wrap64 (2000 + (wrap64 (4 * (wrap64 (Int.tdiv a0 1461)))))) 0 (Int.tmod a0 1461))) = some (r1, r2, r3, r4) := by rw [if_pos rfl] at H; exact H
    clear H
    have H := H1
    clear H1
    have HC4 := Aside0.mk H
    clear H
    go_enter Tryd.func20, Tryd.ntmps20
    go_upto_if 17 with (first | ((with_reducible refine gate_callee (f := 35) rfl ?_); refine goesL_ (some 8) rfl rfl Tryd.func35 (by kernel_rfl) rfl #[.int .i64 a0] rfl ql_ ?_; (with_reducible refine (calendar_valid.calls a0 true _ A2.out).mono ?_); rintro e w' ⟨rfl, ⟨nd, rfl⟩⟩; refine ⟨_, rfl, ?_⟩))
    (try simp only [Act.put, List.setIfInBounds_toArray, List.set_cons_zero, List.set_cons_succ])
    go_cut [2, 6] (fun v2 v6 wc => ∃ (kq : Nat) (x2_3 : Int) (x6_3 : Int), v2 = .int .i64 x2_3 ∧ v6 = .int .i64 x6_3 ∧ Aside0 (calendar_Date.j0 kq x2_3 0 x6_3 = some (r1, r2, r3, r4)) ∧ Aside0 (kq ≤ k) ∧ Drawn0 w wc)
    case first =>
      have H := HC4.out
      clear HC4
      by_cases c5 : (Int.tmod a0 1461) ≥ 366
      · rw [if_pos c5] at H
        have c5b0 : decide (366 ≤ (Int.tmod a0 1461)) = true := decide_eq_true c5
        clear c5
        (first | rw [c5b0] | (simp only [i64_w, i32_w]; rw [c5b0]) | skip)
        have H' := Aside0.mk H
        clear H
        go_wp2
        go_meet
        case rel => exact ⟨_, (wrap64 ((wrap64 (2000 + (wrap64 (4 * (wrap64 (Int.tdiv a0 1461)))))) + (wrap64 (1 + (wrap64 (Int.tdiv (wrap64 ((Int.tmod a0 1461) - 366)) 365)))))), (Int.tmod (wrap64 ((Int.tmod a0 1461) - 366)) 365), qs_, qs_, H', ⟨qo_⟩, qy_⟩
      · rw [if_neg c5] at H
        have c5b0 : decide (366 ≤ (Int.tmod a0 1461)) = false := decide_eq_false c5
        clear c5
        (first | rw [c5b0] | (simp only [i64_w, i32_w]; rw [c5b0]) | skip)
        have H' := Aside0.mk H
        clear H
        go_wp2
        go_meet
        case rel => exact ⟨_, (wrap64 (2000 + (wrap64 (4 * (wrap64 (Int.tdiv a0 1461)))))), (Int.tmod a0 1461), qs_, qs_, H', ⟨qo_⟩, qy_⟩
    case rest =>
      clear HC4
      try clear c2
      try clear p2
      try clear c3
      try clear c5
      try clear c5b0
      obtain ⟨kq, x2_3, x6_3, rfl, rfl, HA, HJ3, ⟨mc3, rfl⟩⟩ := hcut
      cases kq with
      | zero => exact absurd HA.out (by simp [calendar_Date.j0])
      | succ kj3 =>
        have H := HA.out
        clear HA
        simp only [calendar_Date.j0] at H
        have H' := Aside0.mk H
        clear H
        go_wp2
        go_loopg [3, 6] kj3 (fun kq v3 v6 w' => ∃ (x3_2 : Int) (x6_2 : Int), v3 = .int .i64 x3_2 ∧ v6 = .int .i64 x6_2 ∧ Aside0 (calendar_Date.l0 kq x2_3 x3_2 x6_2 = some (r1, r2, r3, r4)) ∧ Aside0 (kq ≤ kj3) ∧ Drawn0 w w')
        case atStart => exact ⟨(0), (x6_3), qs_, qs_, H', ⟨Nat.le_refl _⟩, qy_⟩
        case round =>
          clear H'
          try clear c2
          try clear p2
          try clear c3
          try clear c5
          try clear c5b0
          try clear p2
          obtain ⟨x3_2, x6_2, rfl, rfl, HA, HK2, ⟨m2, rfl⟩⟩ := hrel
          cases gk with
          | zero => exact absurd HA.out (by simp [calendar_Date.l0])
          | succ k2 =>
            have H := HA.out
            clear HA
            simp only [calendar_Date.l0] at H
            replace H := Option.bind_eq_some_iff.mp H
            obtain ⟨t116, A60, H⟩ := H
            replace H : (if x6_2 ≥ t116 then ((calendar_length.f x2_3 x3_2).bind fun t117 => (calendar_Date.l0 k2 x2_3 (wrap64 (x3_2 + 1)) (wrap64 (x6_2 - t117)))) else (some (x2_3, wrap64 (x3_2 + 1), wrap64 (x6_2 + 1), 0))) = some (r1, r2, r3, r4) := H
            have A6 := Aside0.mk A60
            clear A60
            by_cases c7 : x6_2 ≥ t116
            · rw [if_pos c7] at H
              have c7b0 : decide (t116 ≤ x6_2) = true := decide_eq_true c7
              clear c7
              replace H := Option.bind_eq_some_iff.mp H
              obtain ⟨t117, A80, H⟩ := H
              replace H : (calendar_Date.l0 k2 x2_3 (wrap64 (x3_2 + 1)) (wrap64 (x6_2 - t117))) = some (r1, r2, r3, r4) := H
              have A8 := Aside0.mk A80
              clear A80
              have H' := Aside0.mk H
              clear H
              go_wp2_with (first | ((with_reducible refine gate_callee (f := 36) rfl ?_); refine goesL_ (some 30) rfl rfl Tryd.func36 (by kernel_rfl) rfl #[.int .i64 x2_3, .int .i64 x3_2] rfl ql_ ?_; (with_reducible refine (calendar_length.calls x2_3 x3_2 t116 _ ?side1 A6.out).mono ?_); (case side1 => exact TabOK.drawn HTA.out (by repeat (first | exact Drawn0.refl _ | apply Drawn0.step))); rintro e w' ⟨rfl, ⟨nd, rfl⟩⟩; refine ⟨_, rfl, ?_⟩) | ((with_reducible refine gate_callee (f := 36) rfl ?_); refine goesL_ (some 35) rfl rfl Tryd.func36 (by kernel_rfl) rfl #[.int .i64 x2_3, .int .i64 x3_2] rfl ql_ ?_; (with_reducible refine (calendar_length.calls x2_3 x3_2 t117 _ ?side1 A8.out).mono ?_); (case side1 => exact TabOK.drawn HTA.out (by repeat (first | exact Drawn0.refl _ | apply Drawn0.step))); rintro e w' ⟨rfl, ⟨nd, rfl⟩⟩; refine ⟨_, rfl, ?_⟩))
              go_roundg k2
              case measure => have := HJ3.out; have := HK2.out; omega
              case rel => exact ⟨(wrap64 (x3_2 + 1)), (wrap64 (x6_2 - t117)), qs_, qs_, H', ⟨by have := HJ3.out; have := HK2.out; omega⟩, qy_⟩
            · rw [if_neg c7] at H
              have c7b0 : decide (t116 ≤ x6_2) = false := decide_eq_false c7
              clear c7
              simp only [Option.some.injEq, Prod.mk.injEq] at H
              obtain ⟨rfl, rfl, rfl, rfl⟩ := H
              go_wp2_with (first | ((with_reducible refine gate_callee (f := 36) rfl ?_); refine goesL_ (some 30) rfl rfl Tryd.func36 (by kernel_rfl) rfl #[.int .i64 x2_3, .int .i64 x3_2] rfl ql_ ?_; (with_reducible refine (calendar_length.calls x2_3 x3_2 t116 _ ?side1 A6.out).mono ?_); (case side1 => exact TabOK.drawn HTA.out (by repeat (first | exact Drawn0.refl _ | apply Drawn0.step))); rintro e w' ⟨rfl, ⟨nd, rfl⟩⟩; refine ⟨_, rfl, ?_⟩))
              refine bodyPost_ret (results_list (rs := [.tmp 2, .tmp 3, .tmp 4, .tmp 5]) rfl (by simp) (.tmp (.tmp (.tmp (.tmp .nil))))) rfl ?_
              exact ⟨qs_, qy_⟩
  · replace c3 := Bool.eq_false_iff.mpr c3
    subst c3
    have H1 : (some (0, 0, 0, 3)) = some (r1, r2, r3, r4) := by rw [if_neg (show ¬ (false = true) by decide)] at H; exact H
    clear H
    have H := H1
    clear H1
    simp only [Option.some.injEq, Prod.mk.injEq] at H
    obtain ⟨rfl, rfl, rfl, rfl⟩ := H
    go_enter Tryd.func20, Tryd.ntmps20
    go_wp2_with (first | ((with_reducible refine gate_callee (f := 35) rfl ?_); refine goesL_ (some 8) rfl rfl Tryd.func35 (by kernel_rfl) rfl #[.int .i64 a0] rfl ql_ ?_; (with_reducible refine (calendar_valid.calls a0 false _ A2.out).mono ?_); rintro e w' ⟨rfl, ⟨nd, rfl⟩⟩; refine ⟨_, rfl, ?_⟩))
    refine bodyPost_ret (results_list (rs := [.tmp 2, .tmp 3, .tmp 4, .tmp 5]) rfl (by simp) (.tmp (.tmp (.tmp (.tmp .nil))))) rfl ?_
    exact ⟨qs_, qy_⟩

/-! ### calendar_Month: function 48 -/
def calendar_Month.f (k : Nat) (a0 : Int) : Option (Int × Int) := (calendar_Date.f k a0).bind fun bt118 => (if bt118.2.2.2 = 0 then (some (wrap64 ((wrap64 ((wrap64 (12 * (wrap64 (bt118.1 - 2000)))) + bt118.2.1)) - 1), 0)) else (some (0, bt118.2.2.2)))
theorem calendar_Month.mono : ∀ a0 k, LeO (calendar_Month.f k a0) (calendar_Month.f (k + 1) a0) := by
  intro a0 k
  unfold calendar_Month.f
  with_reducible (repeat' first | apply calendar_Date.mono | apply LeO.refl | apply LeO.none | apply LeO.ite | refine LeO.bind ?_ (fun _ => ?_))
set_option maxHeartbeats 8000000 in
set_option maxRecDepth 100000 in
theorem calendar_Month.calls (k : Nat) (a0 r1 r2 : Int) (w : World) (HT : TabOK w) (h : calendar_Month.f k a0 = some (r1, r2)) :
    Calls Tryd.prog 48 #[.int .i64 a0] w fun e w' => e = .returned (.tuple #[.int .i64 r1, .int .i64 r2]) ∧ Drawn0 w w' := by
  have HTA := Aside0.mk HT
  clear HT
  have H : ((calendar_Date.f k a0).bind fun bt118 => (if bt118.2.2.2 = 0 then (some (wrap64 ((wrap64 ((wrap64 (12 * (wrap64 (bt118.1 - 2000)))) + bt118.2.1)) - 1), 0)) else (some (0, bt118.2.2.2)))) = some (r1, r2) := h
  clear h
  replace H := Option.bind_eq_some_iff.mp H
  obtain ⟨⟨t118, t119, t120, t121⟩, A20, H⟩ := H
  replace H : (if t121 = 0 then (some (wrap64 ((wrap64 ((wrap64 (12 * (wrap64 (t118 - 2000)))) + t119)) - 1), 0)) else (some (0, t121))) = some (r1, r2) := H
  have A2 := Aside0.mk A20
  clear A20
  by_cases c3 : t121 = 0
  · rw [if_pos c3] at H
    have c3b0 : (t121 == 0) = true := beq_iff_eq.mpr c3
    have c3b1 : (t121 != 0) = false := bne_eq_false_iff_eq.mpr c3
    clear c3
    simp only [Option.some.injEq, Prod.mk.injEq] at H
    obtain ⟨rfl, rfl⟩ := H
    go_enter Tryd.func48, Tryd.ntmps48
    go_wp2_with (first | ((with_reducible refine gate_callee (f := 20) rfl ?_); refine goesL_ (some 10) rfl rfl Tryd.func20 (by kernel_rfl) rfl #[.int .i64 a0] rfl ql_ ?_; (with_reducible refine (calendar_Date.calls k a0 t118 t119 t120 t121 _ ?side1 A2.out).mono ?_); (case side1 => exact TabOK.drawn HTA.out (by repeat (first | exact Drawn0.refl _ | apply Drawn0.step))); rintro e w' ⟨rfl, ⟨nd, rfl⟩⟩; refine ⟨_, rfl, ?_⟩))
    go_ret2
    exact ⟨qs_, qy_⟩
  · rw [if_neg c3] at H
    have c3b0 : (t121 == 0) = false := beq_eq_false_iff_ne.mpr c3
    have c3b1 : (t121 != 0) = true := bne_iff_ne.mpr c3
    simp only [Option.some.injEq, Prod.mk.injEq] at H
    obtain ⟨rfl, rfl⟩ := H
    go_enter Tryd.func48, Tryd.ntmps48
    go_wp2_with (first | ((with_reducible refine gate_callee (f := 20) rfl ?_); refine goesL_ (some 10) rfl rfl Tryd.func20 (by kernel_rfl) rfl #[.int .i64 a0] rfl ql_ ?_; (with_reducible refine (calendar_Date.calls k a0 t118 t119 t120 t121 _ ?side1 A2.out).mono ?_); (case side1 => exact TabOK.drawn HTA.out (by repeat (first | exact Drawn0.refl _ | apply Drawn0.step))); rintro e w' ⟨rfl, ⟨nd, rfl⟩⟩; refine ⟨_, rfl, ?_⟩))
    go_ret2
    exact ⟨qs_, qy_⟩

/-! ### points_home_months: function 41 -/
def points_home_months.f (k : Nat) (a0_0 a0_1 a0_2 a0_3 a0_4 a1 : Int) : Option (Int) := (calendar_Date.f k a0_1).bind fun bt123 => ((calendar_Date.f k a1).bind fun bt127 => ((calendar_Month.f k a0_1).bind fun bt131 => ((calendar_Month.f k a1).bind fun bt133 => (if bt127.2.2.1 < bt123.2.2.1 then (some (wrap64 ((wrap64 (bt133.1 - 1)) - bt131.1))) else (some (wrap64 (bt133.1 - bt131.1)))))))
theorem points_home_months.mono : ∀ a0 a1 a2 a3 a4 a5 k, LeO (points_home_months.f k a0 a1 a2 a3 a4 a5) (points_home_months.f (k + 1) a0 a1 a2 a3 a4 a5) := by
  intro a0 a1 a2 a3 a4 a5 k
  unfold points_home_months.f
  with_reducible (repeat' first | apply calendar_Date.mono | apply calendar_Month.mono | apply LeO.refl | apply LeO.none | apply LeO.ite | refine LeO.bind ?_ (fun _ => ?_))
set_option maxHeartbeats 8000000 in
set_option maxRecDepth 100000 in
theorem points_home_months.calls (k : Nat) (a0_0 a0_1 a0_2 a0_3 a0_4 a1 r : Int) (w : World) (HT : TabOK w) (h : points_home_months.f k a0_0 a0_1 a0_2 a0_3 a0_4 a1 = some r) :
    Calls Tryd.prog 41 #[.agg #[.int .i64 a0_0, .int .i64 a0_1, .int .i64 a0_2, .int .i64 a0_3, .int .i64 a0_4], .int .i64 a1] w fun e w' => e = .returned (.int .i64 r) ∧ Below w.heap.size w w' := by
  have hu54 := Tryd.underlying54
  have HTA := Aside0.mk HT
  clear HT
  have HB := Aside0.mk (Below.refl w.heap.size w)
  have H : ((calendar_Date.f k a0_1).bind fun bt123 => ((calendar_Date.f k a1).bind fun bt127 => ((calendar_Month.f k a0_1).bind fun bt131 => ((calendar_Month.f k a1).bind fun bt133 => (if bt127.2.2.1 < bt123.2.2.1 then (some (wrap64 ((wrap64 (bt133.1 - 1)) - bt131.1))) else (some (wrap64 (bt133.1 - bt131.1)))))))) = some r := h
  clear h
  replace H := Option.bind_eq_some_iff.mp H
  obtain ⟨⟨t123, t124, t125, t126⟩, A30, H⟩ := H
  replace H : ((calendar_Date.f k a1).bind fun bt127 => ((calendar_Month.f k a0_1).bind fun bt131 => ((calendar_Month.f k a1).bind fun bt133 => (if bt127.2.2.1 < t125 then (some (wrap64 ((wrap64 (bt133.1 - 1)) - bt131.1))) else (some (wrap64 (bt133.1 - bt131.1))))))) = some r := H
  have A3 := Aside0.mk A30
  clear A30
  replace H := Option.bind_eq_some_iff.mp H
  obtain ⟨⟨t127, t128, t129, t130⟩, A40, H⟩ := H
  replace H : ((calendar_Month.f k a0_1).bind fun bt131 => ((calendar_Month.f k a1).bind fun bt133 => (if t129 < t125 then (some (wrap64 ((wrap64 (bt133.1 - 1)) - bt131.1))) else (some (wrap64 (bt133.1 - bt131.1)))))) = some r := H
  have A4 := Aside0.mk A40
  clear A40
  replace H := Option.bind_eq_some_iff.mp H
  obtain ⟨⟨t131, t132⟩, A50, H⟩ := H
  replace H : ((calendar_Month.f k a1).bind fun bt133 => (if t129 < t125 then (some (wrap64 ((wrap64 (bt133.1 - 1)) - t131))) else (some (wrap64 (bt133.1 - t131))))) = some r := H
  have A5 := Aside0.mk A50
  clear A50
  replace H := Option.bind_eq_some_iff.mp H
  obtain ⟨⟨t133, t134⟩, A60, H⟩ := H
  replace H : (if t129 < t125 then (some (wrap64 ((wrap64 (t133 - 1)) - t131))) else (some (wrap64 (t133 - t131)))) = some r := H
  have A6 := Aside0.mk A60
  clear A60
  by_cases c7 : t129 < t125
  · rw [if_pos c7] at H
    have c7b0 : decide (t129 < t125) = true := decide_eq_true c7
    clear c7
    obtain rfl := Option.some.inj H
    go_enter Tryd.func41, Tryd.ntmps41
    go_wp2_with (first | ((with_reducible refine gate_dst (N := 2) rfl ?_); refine qev_ 2 #[.int .i64 a0_0, .int .i64 a0_1, .int .i64 a0_2, .int .i64 a0_3, .int .i64 a0_4] 54 ?_; intro gb122 hg w8 hbox hb; have BK122 := Aside0.mk (hbox); have GW122 := qga_ hg; have GE122 := qga_ hg; replace HB := qbs_ hb; clear hb hbox hg; obtain ⟨hcz9_0, hcz9_1, hcz9_2, hcz9_3, hcz9_4⟩ := qz5_ BK122; obtain ⟨hfz9_0, hfz9_1, hfz9_2, hfz9_3, hfz9_4⟩ := qf5_ BK122) | ((with_reducible refine gate_callee (f := 20) rfl ?_); refine goesL_ (some 21) rfl rfl Tryd.func20 (by kernel_rfl) rfl #[.int .i64 a0_1] rfl ql_ ?_; (with_reducible refine (calendar_Date.calls k a0_1 t123 t124 t125 t126 _ ?side1 A3.out).mono ?_); (case side1 => exact TabOK.below HTA.out qb_); rintro e w' ⟨rfl, ⟨nd, rfl⟩⟩; refine ⟨_, rfl, ?_⟩) | ((with_reducible refine gate_callee (f := 20) rfl ?_); refine goesL_ (some 28) rfl rfl Tryd.func20 (by kernel_rfl) rfl #[.int .i64 a1] rfl ql_ ?_; (with_reducible refine (calendar_Date.calls k a1 t127 t128 t129 t130 _ ?side1 A4.out).mono ?_); (case side1 => exact TabOK.below HTA.out qb_); rintro e w' ⟨rfl, ⟨nd, rfl⟩⟩; refine ⟨_, rfl, ?_⟩) | ((with_reducible refine gate_callee (f := 48) rfl ?_); refine goesL_ (some 37) rfl rfl Tryd.func48 (by kernel_rfl) rfl #[.int .i64 a0_1] rfl ql_ ?_; (with_reducible refine (calendar_Month.calls k a0_1 t131 t132 _ ?side1 A5.out).mono ?_); (case side1 => exact TabOK.below HTA.out qb_); rintro e w' ⟨rfl, ⟨nd, rfl⟩⟩; refine ⟨_, rfl, ?_⟩) | ((with_reducible refine gate_callee (f := 48) rfl ?_); refine goesL_ (some 42) rfl rfl Tryd.func48 (by kernel_rfl) rfl #[.int .i64 a1] rfl ql_ ?_; (with_reducible refine (calendar_Month.calls k a1 t133 t134 _ ?side1 A6.out).mono ?_); (case side1 => exact TabOK.below HTA.out qb_); rintro e w' ⟨rfl, ⟨nd, rfl⟩⟩; refine ⟨_, rfl, ?_⟩))
    go_ret
    exact ⟨qx_, qb_⟩
  · rw [if_neg c7] at H
    have c7b0 : decide (t129 < t125) = false := decide_eq_false c7
    clear c7
    obtain rfl := Option.some.inj H
    go_enter Tryd.func41, Tryd.ntmps41
    go_wp2_with (first | ((with_reducible refine gate_dst (N := 2) rfl ?_); refine qev_ 2 #[.int .i64 a0_0, .int .i64 a0_1, .int .i64 a0_2, .int .i64 a0_3, .int .i64 a0_4] 54 ?_; intro gb122 hg w10 hbox hb; have BK122 := Aside0.mk (hbox); have GW122 := qga_ hg; have GE122 := qga_ hg; replace HB := qbs_ hb; clear hb hbox hg; obtain ⟨hcz11_0, hcz11_1, hcz11_2, hcz11_3, hcz11_4⟩ := qz5_ BK122; obtain ⟨hfz11_0, hfz11_1, hfz11_2, hfz11_3, hfz11_4⟩ := qf5_ BK122) | ((with_reducible refine gate_callee (f := 20) rfl ?_); refine goesL_ (some 21) rfl rfl Tryd.func20 (by kernel_rfl) rfl #[.int .i64 a0_1] rfl ql_ ?_; (with_reducible refine (calendar_Date.calls k a0_1 t123 t124 t125 t126 _ ?side1 A3.out).mono ?_); (case side1 => exact TabOK.below HTA.out qb_); rintro e w' ⟨rfl, ⟨nd, rfl⟩⟩; refine ⟨_, rfl, ?_⟩) | ((with_reducible refine gate_callee (f := 20) rfl ?_); refine goesL_ (some 28) rfl rfl Tryd.func20 (by kernel_rfl) rfl #[.int .i64 a1] rfl ql_ ?_; (with_reducible refine (calendar_Date.calls k a1 t127 t128 t129 t130 _ ?side1 A4.out).mono ?_); (case side1 => exact TabOK.below HTA.out qb_); rintro e w' ⟨rfl, ⟨nd, rfl⟩⟩; refine ⟨_, rfl, ?_⟩) | ((with_reducible refine gate_callee (f := 48) rfl ?_); refine goesL_ (some 37) rfl rfl Tryd.func48 (by kernel_rfl) rfl #[.int .i64 a0_1] rfl ql_ ?_; (with_reducible refine (calendar_Month.calls k a0_1 t131 t132 _ ?side1 A5.out).mono ?_); (case side1 => exact TabOK.below HTA.out qb_); rintro e w' ⟨rfl, ⟨nd, rfl⟩⟩; refine ⟨_, rfl, ?_⟩) | ((with_reducible refine gate_callee (f := 48) rfl ?_); refine goesL_ (some 42) rfl rfl Tryd.func48 (by kernel_rfl) rfl #[.int .i64 a1] rfl ql_ ?_; (with_reducible refine (calendar_Month.calls k a1 t133 t134 _ ?side1 A6.out).mono ?_); (case side1 => exact TabOK.below HTA.out qb_); rintro e w' ⟨rfl, ⟨nd, rfl⟩⟩; refine ⟨_, rfl, ?_⟩))
    go_ret
    exact ⟨qx_, qb_⟩

end Go.Proofs.YtfhmbfadbfnnaaaDoor.Px
