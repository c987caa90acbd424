/- Contracts of Go functions, written by a program of this session's own (wip/tools/myprint.py) out of the translation: each Go function does what the Lean function of its name says. Conditions: as each theorem states. -/
import Derived.Test.YtjkpojedegmciaaDoorPx0
import Derived.Test.YtjkpojedegmciaaDoorPx2
import Derived.Test.YtjkpojedegmciaaDoorGTab
namespace Go.Proofs.YtjkpojedegmciaaDoor.Px
open Go.Proofs.YtjkpojedegmciaaDoor.Given
open Go.RowKit Go.Proofs.YtjkpojedegmciaaDoorW.PrintWords Go.Proofs.YtjkpojedegmciaaDoorW.PrintLast Go.Proofs.YtjkpojedegmciaaDoorW.PrintMore
attribute [local go_sem] max2_int min2_int max_two min_two max_three min_three max_four min_four   -- for this text's walks alone
set_option linter.unusedVariables false
set_option linter.unusedSimpArgs false

/-! ### calendar_Date: function 13 -/
mutual
def calendar_Date.j0 : Nat → Int → Int → Int → Option (Int × Int × Int × Int)
  | 0, _, _, _ => none
  | k + 1, x2, x3, x6 => calendar_Date.l0 k x2 x3 x6
def calendar_Date.l0 : Nat → Int → Int → Int → Option (Int × Int × Int × Int)
  | 0, _, _, _ => none
  | k + 1, x2, x3, x6 => (calendar_length.f x2 x3).bind fun t102 => (if x6 ≥ t102 then ((calendar_length.f x2 x3).bind fun t103 => (calendar_Date.l0 k x2 (wrap64 (x3 + 1)) (wrap64 (x6 - t103)))) else (some (x2, wrap64 (x3 + 1), wrap64 (x6 + 1), 0)))
end
def calendar_Date.f (k : Nat) (a0 : Int) : Option (Int × Int × Int × Int) := (calendar_valid.f a0).bind fun t101 => (if t101 = true then (if (Int.tmod a0 1461) ≥ 366 then (calendar_Date.j0 k (wrap64 ((wrap64 (2000 + (wrap64 (4 * (wrap64 (Int.tdiv a0 1461)))))) + (wrap64 (1 + (wrap64 (Int.tdiv (wrap64 ((Int.tmod a0 1461) - 366)) 365)))))) 0 (Int.tmod (wrap64 ((Int.tmod a0 1461) - 366)) 365)) else (calendar_Date.j0 k (wrap64 (2000 + (wrap64 (4 * (wrap64 (Int.tdiv a0 1461)))))) 0 (Int.tmod a0 1461))) else (some (0, 0, 0, 3)))
theorem calendar_Date.mono_l : ∀ k, (∀ y0 y1 y2, LeO (calendar_Date.j0 k y0 y1 y2) (calendar_Date.j0 (k + 1) y0 y1 y2)) ∧ (∀ y0 y1 y2, LeO (calendar_Date.l0 k y0 y1 y2) (calendar_Date.l0 (k + 1) y0 y1 y2))
  | 0 => ⟨fun _ _ _ r h => by simp [calendar_Date.j0] at h, fun _ _ _ r h => by simp [calendar_Date.l0] at h⟩
  | k + 1 => by
    obtain ⟨ih0, ih1⟩ := calendar_Date.mono_l k
    refine ⟨?_, ?_⟩
    · intro y0 y1 y2
      unfold calendar_Date.j0
      repeat' first
      | (with_reducible exact ih0 _ _ _)
      | (with_reducible exact ih1 _ _ _)
      | (with_reducible exact LeO.refl _)
      | (with_reducible exact LeO.none _)
      | (with_reducible refine LeO.ite ?_ ?_)
      | (with_reducible refine LeO.bind ?_ (fun _ => ?_))
      | exact ih0 _ _ _
      | exact ih1 _ _ _
      | exact LeO.none _
      | refine LeO.ite ?_ ?_
      | refine LeO.bind ?_ (fun _ => ?_)
    · intro y0 y1 y2
      unfold calendar_Date.l0
      repeat' first
      | (with_reducible exact ih0 _ _ _)
      | (with_reducible exact ih1 _ _ _)
      | (with_reducible exact LeO.refl _)
      | (with_reducible exact LeO.none _)
      | (with_reducible refine LeO.ite ?_ ?_)
      | (with_reducible refine LeO.bind ?_ (fun _ => ?_))
      | exact ih0 _ _ _
      | exact ih1 _ _ _
      | exact LeO.none _
      | refine LeO.ite ?_ ?_
      | refine LeO.bind ?_ (fun _ => ?_)
theorem calendar_Date.mono : ∀ a0 k, LeO (calendar_Date.f k a0) (calendar_Date.f (k + 1) a0) := by
  intro a0 k
  obtain ⟨ih0, ih1⟩ := calendar_Date.mono_l k
  unfold calendar_Date.f
  repeat' first
      | (with_reducible exact ih0 _ _ _)
      | (with_reducible exact ih1 _ _ _)
      | (with_reducible exact LeO.refl _)
      | (with_reducible exact LeO.none _)
      | (with_reducible refine LeO.ite ?_ ?_)
      | (with_reducible refine LeO.bind ?_ (fun _ => ?_))
      | exact ih0 _ _ _
      | exact ih1 _ _ _
      | exact LeO.none _
      | refine LeO.ite ?_ ?_
      | refine LeO.bind ?_ (fun _ => ?_)
set_option maxHeartbeats 8000000 in
set_option maxRecDepth 100000 in
theorem calendar_Date.calls (k : Nat) (a0 : Int) (r1 : Int) (r2 : Int) (r3 : Int) (r4 : Int) (w : World) (HT : TabOK w) (h : calendar_Date.f k a0 = some (r1, r2, r3, r4)) :
    Calls Tryd.prog 13 #[.int .i64 a0] w fun e w' => e = .returned (.tuple #[.int .i64 r1, .int .i64 r2, .int .i64 r3, .int .i64 r4]) ∧ Drawn0 w w' := by
  have HTA := Aside0.mk HT
  clear HT
  have H : ((calendar_valid.f a0).bind fun t101 => (if t101 = true then (if (Int.tmod a0 1461) ≥ 366 then (calendar_Date.j0 k (wrap64 ((wrap64 (2000 + (wrap64 (4 * (wrap64 (Int.tdiv a0 1461)))))) + (wrap64 (1 + (wrap64 (Int.tdiv (wrap64 ((Int.tmod a0 1461) - 366)) 365)))))) 0 (Int.tmod (wrap64 ((Int.tmod a0 1461) - 366)) 365)) else (calendar_Date.j0 k (wrap64 (2000 + (wrap64 (4 * (wrap64 (Int.tdiv a0 1461)))))) 0 (Int.tmod a0 1461))) else (some (0, 0, 0, 3)))) = some (r1, r2, r3, r4) := h
  clear h
  replace H := Option.bind_eq_some_iff.mp H
  obtain ⟨t101, A20, H⟩ := H
  replace H : (if t101 = true then (if (Int.tmod a0 1461) ≥ 366 then (calendar_Date.j0 k (wrap64 ((wrap64 (2000 + (wrap64 (4 * (wrap64 (Int.tdiv a0 1461)))))) + (wrap64 (1 + (wrap64 (Int.tdiv (wrap64 ((Int.tmod a0 1461) - 366)) 365)))))) 0 (Int.tmod (wrap64 ((Int.tmod a0 1461) - 366)) 365)) else (calendar_Date.j0 k (wrap64 (2000 + (wrap64 (4 * (wrap64 (Int.tdiv a0 1461)))))) 0 (Int.tmod a0 1461))) else (some (0, 0, 0, 3))) = some (r1, r2, r3, r4) := H
  have A2 := Aside0.mk A20
  clear A20
  by_cases c3 : t101 = true
  · subst c3
    have H1 : (if (Int.tmod a0 1461) ≥ 366 then (calendar_Date.j0 k (wrap64 ((wrap64 (2000 + (wrap64 (4 * (wrap64 (Int.tdiv a0 1461)))))) + (wrap64 (1 + (wrap64 (Int.tdiv (wrap64 ((Int.tmod a0 1461) - 366)) 365)))))) 0 (Int.tmod (wrap64 ((Int.tmod a0 1461) - 366)) 365)) else (calendar_Date.j0 k (wrap64 (2000 + (wrap64 (4 * (wrap64 (Int.tdiv a0 1461)))))) 0 (Int.tmod a0 1461))) = some (r1, r2, r3, r4) := by rw [if_pos rfl] at H; exact H
    clear H
    have H := H1
    clear H1
    have HC4 := Aside0.mk H
    clear H
    go_enter Tryd.func13, Tryd.ntmps13
    go_upto_if 17 with (first | ((with_reducible refine gate_callee (f := 28) rfl ?_); refine goesL_ (some 8) rfl rfl Tryd.func28 (by kernel_rfl) rfl #[.int .i64 a0] rfl (by (try simp only [List.map_toArray, List.map_cons, List.map_nil]); first | done | rfl | (simp only [List.length_drop, List.length_take]; rfl)) ?_; (with_reducible refine (calendar_valid.calls a0 true _ A2.out).mono ?_); rintro e w' ⟨rfl, ⟨nd, rfl⟩⟩; refine ⟨_, rfl, ?_⟩))
    (try simp only [Act.put, List.setIfInBounds_toArray, List.set_cons_zero, List.set_cons_succ])
    go_cut [2, 6] (fun v2 v6 wc => ∃ (kq : Nat) (x2_3 : Int) (x6_3 : Int), v2 = .int .i64 x2_3 ∧ v6 = .int .i64 x6_3 ∧ Aside0 (calendar_Date.j0 kq x2_3 0 x6_3 = some (r1, r2, r3, r4)) ∧ Aside0 (kq ≤ k) ∧ Drawn0 w wc)
    case first =>
      have H := HC4.out
      clear HC4
      by_cases c5 : (Int.tmod a0 1461) ≥ 366
      · rw [if_pos c5] at H
        have c5b0 : decide (366 ≤ (Int.tmod a0 1461)) = true := decide_eq_true c5
        clear c5
        (first | rw [c5b0] | (simp only [i64_w, i32_w]; rw [c5b0]) | skip)
        have H' := Aside0.mk H
        clear H
        go_wp2
        go_meet
        case rel => exact ⟨_, (wrap64 ((wrap64 (2000 + (wrap64 (4 * (wrap64 (Int.tdiv a0 1461)))))) + (wrap64 (1 + (wrap64 (Int.tdiv (wrap64 ((Int.tmod a0 1461) - 366)) 365)))))), (Int.tmod (wrap64 ((Int.tmod a0 1461) - 366)) 365), (by first | rfl | (simp; done) | (simp [*]; done)), (by first | rfl | (simp; done) | (simp [*]; done)), H', ⟨by first | omega | exact Nat.le_refl _⟩, by repeat (first | exact Drawn0.refl _ | apply Drawn0.step)⟩
      · rw [if_neg c5] at H
        have c5b0 : decide (366 ≤ (Int.tmod a0 1461)) = false := decide_eq_false c5
        clear c5
        (first | rw [c5b0] | (simp only [i64_w, i32_w]; rw [c5b0]) | skip)
        have H' := Aside0.mk H
        clear H
        go_wp2
        go_meet
        case rel => exact ⟨_, (wrap64 (2000 + (wrap64 (4 * (wrap64 (Int.tdiv a0 1461)))))), (Int.tmod a0 1461), (by first | rfl | (simp; done) | (simp [*]; done)), (by first | rfl | (simp; done) | (simp [*]; done)), H', ⟨by first | omega | exact Nat.le_refl _⟩, by repeat (first | exact Drawn0.refl _ | apply Drawn0.step)⟩
    case rest =>
      clear HC4
      try clear c1
      try clear c2
      try clear p2
      try clear c3
      try clear c5
      try clear c5b0
      obtain ⟨kq, x2_3, x6_3, rfl, rfl, HA, HJ3, ⟨mc3, rfl⟩⟩ := hcut
      cases kq with
      | zero => exact absurd HA.out (by simp [calendar_Date.j0])
      | succ kj3 =>
        have H := HA.out
        clear HA
        simp only [calendar_Date.j0] at H
        have H' := Aside0.mk H
        clear H
        go_wp2
        go_loopg [3, 6] kj3 (fun kq v3 v6 w' => ∃ (x3_2 : Int) (x6_2 : Int), v3 = .int .i64 x3_2 ∧ v6 = .int .i64 x6_2 ∧ Aside0 (calendar_Date.l0 kq x2_3 x3_2 x6_2 = some (r1, r2, r3, r4)) ∧ Aside0 (kq ≤ kj3) ∧ Drawn0 w w')
        case atStart => exact ⟨(0), (x6_3), (by first | rfl | (simp; done) | (simp [*]; done)), (by first | rfl | (simp; done) | (simp [*]; done)), H', ⟨Nat.le_refl _⟩, by repeat (first | exact Drawn0.refl _ | apply Drawn0.step)⟩
        case round =>
          clear H'
          try clear c1
          try clear c2
          try clear p2
          try clear c3
          try clear c5
          try clear c5b0
          try clear p2
          obtain ⟨x3_2, x6_2, rfl, rfl, HA, HK2, ⟨m2, rfl⟩⟩ := hrel
          cases gk with
          | zero => exact absurd HA.out (by simp [calendar_Date.l0])
          | succ k2 =>
            have H := HA.out
            clear HA
            simp only [calendar_Date.l0] at H
            replace H := Option.bind_eq_some_iff.mp H
            obtain ⟨t102, A60, H⟩ := H
            replace H : (if x6_2 ≥ t102 then ((calendar_length.f x2_3 x3_2).bind fun t103 => (calendar_Date.l0 k2 x2_3 (wrap64 (x3_2 + 1)) (wrap64 (x6_2 - t103)))) else (some (x2_3, wrap64 (x3_2 + 1), wrap64 (x6_2 + 1), 0))) = some (r1, r2, r3, r4) := H
            have A6 := Aside0.mk A60
            clear A60
            by_cases c7 : x6_2 ≥ t102
            · rw [if_pos c7] at H
              have c7b0 : decide (t102 ≤ x6_2) = true := decide_eq_true c7
              clear c7
              replace H := Option.bind_eq_some_iff.mp H
              obtain ⟨t103, A80, H⟩ := H
              replace H : (calendar_Date.l0 k2 x2_3 (wrap64 (x3_2 + 1)) (wrap64 (x6_2 - t103))) = some (r1, r2, r3, r4) := H
              have A8 := Aside0.mk A80
              clear A80
              have H' := Aside0.mk H
              clear H
              go_wp2_with (first | ((with_reducible refine gate_callee (f := 29) rfl ?_); refine goesL_ (some 30) rfl rfl Tryd.func29 (by kernel_rfl) rfl #[.int .i64 x2_3, .int .i64 x3_2] rfl (by (try simp only [List.map_toArray, List.map_cons, List.map_nil]); first | done | rfl | (simp only [List.length_drop, List.length_take]; rfl)) ?_; (with_reducible refine (calendar_length.calls x2_3 x3_2 t102 _ ?side1 A6.out).mono ?_); (case side1 => exact TabOK.drawn HTA.out (by repeat (first | exact Drawn0.refl _ | apply Drawn0.step))); rintro e w' ⟨rfl, ⟨nd, rfl⟩⟩; refine ⟨_, rfl, ?_⟩) | ((with_reducible refine gate_callee (f := 29) rfl ?_); refine goesL_ (some 35) rfl rfl Tryd.func29 (by kernel_rfl) rfl #[.int .i64 x2_3, .int .i64 x3_2] rfl (by (try simp only [List.map_toArray, List.map_cons, List.map_nil]); first | done | rfl | (simp only [List.length_drop, List.length_take]; rfl)) ?_; (with_reducible refine (calendar_length.calls x2_3 x3_2 t103 _ ?side1 A8.out).mono ?_); (case side1 => exact TabOK.drawn HTA.out (by repeat (first | exact Drawn0.refl _ | apply Drawn0.step))); rintro e w' ⟨rfl, ⟨nd, rfl⟩⟩; refine ⟨_, rfl, ?_⟩))
              go_roundg k2
              case measure => have := HJ3.out; have := HK2.out; omega
              case rel => exact ⟨(wrap64 (x3_2 + 1)), (wrap64 (x6_2 - t103)), (by first | rfl | (simp; done) | (simp [*]; done)), (by first | rfl | (simp; done) | (simp [*]; done)), H', ⟨by have := HJ3.out; have := HK2.out; omega⟩, by repeat (first | exact Drawn0.refl _ | apply Drawn0.step)⟩
            · rw [if_neg c7] at H
              have c7b0 : decide (t102 ≤ x6_2) = false := decide_eq_false c7
              clear c7
              simp only [Option.some.injEq, Prod.mk.injEq] at H
              obtain ⟨rfl, rfl, rfl, rfl⟩ := H
              go_wp2_with (first | ((with_reducible refine gate_callee (f := 29) rfl ?_); refine goesL_ (some 30) rfl rfl Tryd.func29 (by kernel_rfl) rfl #[.int .i64 x2_3, .int .i64 x3_2] rfl (by (try simp only [List.map_toArray, List.map_cons, List.map_nil]); first | done | rfl | (simp only [List.length_drop, List.length_take]; rfl)) ?_; (with_reducible refine (calendar_length.calls x2_3 x3_2 t102 _ ?side1 A6.out).mono ?_); (case side1 => exact TabOK.drawn HTA.out (by repeat (first | exact Drawn0.refl _ | apply Drawn0.step))); rintro e w' ⟨rfl, ⟨nd, rfl⟩⟩; refine ⟨_, rfl, ?_⟩))
              refine bodyPost_ret (results_list (rs := [.tmp 2, .tmp 3, .tmp 4, .tmp 5]) rfl (by simp) (.tmp (.tmp (.tmp (.tmp .nil))))) rfl ?_
              exact ⟨by first | rfl | (simp; done) | (simp [*]; done), by repeat (first | exact Drawn0.refl _ | apply Drawn0.step)⟩
  · replace c3 := Bool.eq_false_iff.mpr c3
    subst c3
    have H1 : (some (0, 0, 0, 3)) = some (r1, r2, r3, r4) := by rw [if_neg (show ¬ (false = true) by decide)] at H; exact H
    clear H
    have H := H1
    clear H1
    simp only [Option.some.injEq, Prod.mk.injEq] at H
    obtain ⟨rfl, rfl, rfl, rfl⟩ := H
    go_enter Tryd.func13, Tryd.ntmps13
    go_wp2_with (first | ((with_reducible refine gate_callee (f := 28) rfl ?_); refine goesL_ (some 8) rfl rfl Tryd.func28 (by kernel_rfl) rfl #[.int .i64 a0] rfl (by (try simp only [List.map_toArray, List.map_cons, List.map_nil]); first | done | rfl | (simp only [List.length_drop, List.length_take]; rfl)) ?_; (with_reducible refine (calendar_valid.calls a0 false _ A2.out).mono ?_); rintro e w' ⟨rfl, ⟨nd, rfl⟩⟩; refine ⟨_, rfl, ?_⟩))
    refine bodyPost_ret (results_list (rs := [.tmp 2, .tmp 3, .tmp 4, .tmp 5]) rfl (by simp) (.tmp (.tmp (.tmp (.tmp .nil))))) rfl ?_
    exact ⟨by first | rfl | (simp; done) | (simp [*]; done), by repeat (first | exact Drawn0.refl _ | apply Drawn0.step)⟩

/-! ### calendar_firstOf: function 33 -/
def calendar_firstOf.f (a0 : Int) : Option (Int) := some (wrap64 ((wrap64 (365 * (wrap64 (a0 - 2000)))) + (wrap64 (Int.tdiv (wrap64 ((wrap64 (a0 - 2000)) + 3)) 4))))
set_option maxHeartbeats 8000000 in
set_option maxRecDepth 100000 in
theorem calendar_firstOf.calls (a0 : Int) (r : Int) (w : World) (h : calendar_firstOf.f a0 = some r) :
    Calls Tryd.prog 33 #[.int .i64 a0] w fun e w' => e = .returned (.int .i64 r) ∧ Drawn0 w w' := by
  have H : (some (wrap64 ((wrap64 (365 * (wrap64 (a0 - 2000)))) + (wrap64 (Int.tdiv (wrap64 ((wrap64 (a0 - 2000)) + 3)) 4))))) = some r := h
  clear h
  obtain rfl := Option.some.inj H
  go_enter Tryd.func33, Tryd.ntmps33
  go_wp2
  go_ret
  exact ⟨by first | rfl | (simp; done) | (simp [*]; done), by repeat (first | exact Drawn0.refl _ | apply Drawn0.step)⟩

/-! ### calendar_Day: function 15 -/
mutual
def calendar_Day.j0 : Nat → Int → Int → Int → Bool → Option (Int × Int)
  | 0, _, _, _, _ => none
  | k + 1, x0, x1, x2, x35 => if x35 = true then (some (0, 3)) else ((calendar_firstOf.f x0).bind fun t105 => (calendar_Day.l0 k x0 x2 t105 (wrap64 (x1 - 1)) 0))
def calendar_Day.l0 : Nat → Int → Int → Int → Int → Int → Option (Int × Int)
  | 0, _, _, _, _, _ => none
  | k + 1, x0, x2, x8, x39, x40 => if x40 < x39 then ((calendar_length.f x0 x40).bind fun t106 => (calendar_Day.l0 k x0 x2 (wrap64 (x8 + t106)) x39 (wrap64 (x40 + 1)))) else (some (wrap64 ((wrap64 (x8 + x2)) - 1), 0))
end
def calendar_Day.f (k : Nat) (a0 : Int) (a1 : Int) (a2 : Int) : Option (Int × Int) := if a0 < 2000 then (calendar_Day.j0 k a0 a1 a2 true) else (if a0 > 2099 then (calendar_Day.j0 k a0 a1 a2 true) else (if a1 < 1 then (calendar_Day.j0 k a0 a1 a2 true) else (if a1 > 12 then (calendar_Day.j0 k a0 a1 a2 true) else (if a2 < 1 then (calendar_Day.j0 k a0 a1 a2 true) else ((calendar_length.f a0 (wrap64 (a1 - 1))).bind fun t104 => (calendar_Day.j0 k a0 a1 a2 (decide (a2 > t104))))))))
theorem calendar_Day.mono_l : ∀ k, (∀ y0 y1 y2 y3, LeO (calendar_Day.j0 k y0 y1 y2 y3) (calendar_Day.j0 (k + 1) y0 y1 y2 y3)) ∧ (∀ y0 y1 y2 y3 y4, LeO (calendar_Day.l0 k y0 y1 y2 y3 y4) (calendar_Day.l0 (k + 1) y0 y1 y2 y3 y4))
  | 0 => ⟨fun _ _ _ _ r h => by simp [calendar_Day.j0] at h, fun _ _ _ _ _ r h => by simp [calendar_Day.l0] at h⟩
  | k + 1 => by
    obtain ⟨ih0, ih1⟩ := calendar_Day.mono_l k
    refine ⟨?_, ?_⟩
    · intro y0 y1 y2 y3
      unfold calendar_Day.j0
      repeat' first
      | (with_reducible exact ih0 _ _ _ _)
      | (with_reducible exact ih1 _ _ _ _ _)
      | (with_reducible exact LeO.refl _)
      | (with_reducible exact LeO.none _)
      | (with_reducible refine LeO.ite ?_ ?_)
      | (with_reducible refine LeO.bind ?_ (fun _ => ?_))
      | exact ih0 _ _ _ _
      | exact ih1 _ _ _ _ _
      | exact LeO.none _
      | refine LeO.ite ?_ ?_
      | refine LeO.bind ?_ (fun _ => ?_)
    · intro y0 y1 y2 y3 y4
      unfold calendar_Day.l0
      repeat' first
      | (with_reducible exact ih0 _ _ _ _)
      | (with_reducible exact ih1 _ _ _ _ _)
      | (with_reducible exact LeO.refl _)
      | (with_reducible exact LeO.none _)
      | (with_reducible refine LeO.ite ?_ ?_)
      | (with_reducible refine LeO.bind ?_ (fun _ => ?_))
      | exact ih0 _ _ _ _
      | exact ih1 _ _ _ _ _
      | exact LeO.none _
      | refine LeO.ite ?_ ?_
      | refine LeO.bind ?_ (fun _ => ?_)
theorem calendar_Day.mono : ∀ a0 a1 a2 k, LeO (calendar_Day.f k a0 a1 a2) (calendar_Day.f (k + 1) a0 a1 a2) := by
  intro a0 a1 a2 k
  obtain ⟨ih0, ih1⟩ := calendar_Day.mono_l k
  unfold calendar_Day.f
  repeat' first
      | (with_reducible exact ih0 _ _ _ _)
      | (with_reducible exact ih1 _ _ _ _ _)
      | (with_reducible exact LeO.refl _)
      | (with_reducible exact LeO.none _)
      | (with_reducible refine LeO.ite ?_ ?_)
      | (with_reducible refine LeO.bind ?_ (fun _ => ?_))
      | exact ih0 _ _ _ _
      | exact ih1 _ _ _ _ _
      | exact LeO.none _
      | refine LeO.ite ?_ ?_
      | refine LeO.bind ?_ (fun _ => ?_)
set_option maxHeartbeats 8000000 in
set_option maxRecDepth 100000 in
theorem calendar_Day.calls (k : Nat) (a0 : Int) (a1 : Int) (a2 : Int) (r1 : Int) (r2 : Int) (w : World) (HT : TabOK w) (h : calendar_Day.f k a0 a1 a2 = some (r1, r2)) :
    Calls Tryd.prog 15 #[.int .i64 a0, .int .i64 a1, .int .i64 a2] w fun e w' => e = .returned (.tuple #[.int .i64 r1, .int .i64 r2]) ∧ Drawn0 w w' := by
  have HTA := Aside0.mk HT
  clear HT
  have H : (if a0 < 2000 then (calendar_Day.j0 k a0 a1 a2 true) else (if a0 > 2099 then (calendar_Day.j0 k a0 a1 a2 true) else (if a1 < 1 then (calendar_Day.j0 k a0 a1 a2 true) else (if a1 > 12 then (calendar_Day.j0 k a0 a1 a2 true) else (if a2 < 1 then (calendar_Day.j0 k a0 a1 a2 true) else ((calendar_length.f a0 (wrap64 (a1 - 1))).bind fun t104 => (calendar_Day.j0 k a0 a1 a2 (decide (a2 > t104))))))))) = some (r1, r2) := h
  clear h
  have HC4 := Aside0.mk H
  clear H
  go_enter Tryd.func15, Tryd.ntmps15
  go_upto_region 1 with (fail)
  go_cut [35] (fun v35 wc => ∃ (kq : Nat) (x35_3 : Bool), v35 = .bool x35_3 ∧ Aside0 (calendar_Day.j0 kq a0 a1 a2 x35_3 = some (r1, r2)) ∧ Aside0 (kq ≤ k) ∧ Drawn0 w wc)
  case first =>
    have H := HC4.out
    clear HC4
    by_cases c5 : a0 < 2000
    · rw [if_pos c5] at H
      have c5b0 : decide (a0 < 2000) = true := decide_eq_true c5
      clear c5
      (first | rw [c5b0] | (simp only [i64_w, i32_w]; rw [c5b0]) | skip)
      have H' := Aside0.mk H
      clear H
      go_wp2
      go_meet
      case rel => exact ⟨_, (true), (by first | rfl | (simp; done) | (simp [*]; done)), H', ⟨by first | omega | exact Nat.le_refl _⟩, by repeat (first | exact Drawn0.refl _ | apply Drawn0.step)⟩
    · rw [if_neg c5] at H
      have c5b0 : decide (a0 < 2000) = false := decide_eq_false c5
      clear c5
      (first | rw [c5b0] | (simp only [i64_w, i32_w]; rw [c5b0]) | skip)
      by_cases c6 : a0 > 2099
      · rw [if_pos c6] at H
        have c6b0 : decide (2099 < a0) = true := decide_eq_true c6
        clear c6
        have H' := Aside0.mk H
        clear H
        go_wp2
        go_meet
        case rel => exact ⟨_, (true), (by first | rfl | (simp; done) | (simp [*]; done)), H', ⟨by first | omega | exact Nat.le_refl _⟩, by repeat (first | exact Drawn0.refl _ | apply Drawn0.step)⟩
      · rw [if_neg c6] at H
        have c6b0 : decide (2099 < a0) = false := decide_eq_false c6
        clear c6
        by_cases c7 : a1 < 1
        · rw [if_pos c7] at H
          have c7b0 : decide (a1 < 1) = true := decide_eq_true c7
          clear c7
          have H' := Aside0.mk H
          clear H
          go_wp2
          go_meet
          case rel => exact ⟨_, (true), (by first | rfl | (simp; done) | (simp [*]; done)), H', ⟨by first | omega | exact Nat.le_refl _⟩, by repeat (first | exact Drawn0.refl _ | apply Drawn0.step)⟩
        · rw [if_neg c7] at H
          have c7b0 : decide (a1 < 1) = false := decide_eq_false c7
          clear c7
          by_cases c8 : a1 > 12
          · rw [if_pos c8] at H
            have c8b0 : decide (12 < a1) = true := decide_eq_true c8
            clear c8
            have H' := Aside0.mk H
            clear H
            go_wp2
            go_meet
            case rel => exact ⟨_, (true), (by first | rfl | (simp; done) | (simp [*]; done)), H', ⟨by first | omega | exact Nat.le_refl _⟩, by repeat (first | exact Drawn0.refl _ | apply Drawn0.step)⟩
          · rw [if_neg c8] at H
            have c8b0 : decide (12 < a1) = false := decide_eq_false c8
            clear c8
            by_cases c9 : a2 < 1
            · rw [if_pos c9] at H
              have c9b0 : decide (a2 < 1) = true := decide_eq_true c9
              clear c9
              have H' := Aside0.mk H
              clear H
              go_wp2
              go_meet
              case rel => exact ⟨_, (true), (by first | rfl | (simp; done) | (simp [*]; done)), H', ⟨by first | omega | exact Nat.le_refl _⟩, by repeat (first | exact Drawn0.refl _ | apply Drawn0.step)⟩
            · rw [if_neg c9] at H
              have c9b0 : decide (a2 < 1) = false := decide_eq_false c9
              clear c9
              replace H := Option.bind_eq_some_iff.mp H
              obtain ⟨t104, A100, H⟩ := H
              replace H : (calendar_Day.j0 k a0 a1 a2 (decide (a2 > t104))) = some (r1, r2) := H
              have A10 := Aside0.mk A100
              clear A100
              have H' := Aside0.mk H
              clear H
              go_wp2_with (first | (go_at_call 29; (with_reducible refine (calendar_length.calls a0 (wrap64 (a1 - 1)) t104 _ ?side1 A10.out).mono ?_); (case side1 => exact TabOK.drawn HTA.out (by repeat (first | exact Drawn0.refl _ | apply Drawn0.step))); rintro e w' ⟨rfl, ⟨nd, rfl⟩⟩))
              go_meet
              case rel => exact ⟨_, (decide (a2 > t104)), (by first | rfl | (simp; done) | (simp [*]; done)), H', ⟨by first | omega | exact Nat.le_refl _⟩, by repeat (first | exact Drawn0.refl _ | apply Drawn0.step)⟩
  case rest =>
    clear HC4
    try clear c1
    try clear p2
    try clear c5
    try clear c5b0
    try clear c6
    try clear c6b0
    try clear p6
    try clear c7
    try clear c7b0
    try clear c8
    try clear c8b0
    try clear c9
    try clear c9b0
    obtain ⟨kq, x35_3, rfl, HA, HJ3, ⟨mc3, rfl⟩⟩ := hcut
    cases kq with
    | zero => exact absurd HA.out (by simp [calendar_Day.j0])
    | succ kj3 =>
      have H := HA.out
      clear HA
      simp only [calendar_Day.j0] at H
      by_cases c11 : x35_3 = true
      · subst c11
        have H1 : (some (0, 3)) = some (r1, r2) := by rw [if_pos rfl] at H; exact H
        clear H
        have H := H1
        clear H1
        simp only [Option.some.injEq, Prod.mk.injEq] at H
        obtain ⟨rfl, rfl⟩ := H
        go_wp2
        go_ret2
        exact ⟨by first | rfl | (simp; done) | (simp [*]; done), by repeat (first | exact Drawn0.refl _ | apply Drawn0.step)⟩
      · replace c11 := Bool.eq_false_iff.mpr c11
        subst c11
        have H1 : ((calendar_firstOf.f a0).bind fun t105 => (calendar_Day.l0 kj3 a0 a2 t105 (wrap64 (a1 - 1)) 0)) = some (r1, r2) := by rw [if_neg (show ¬ (false = true) by decide)] at H; exact H
        clear H
        have H := H1
        clear H1
        replace H := Option.bind_eq_some_iff.mp H
        obtain ⟨t105, A120, H⟩ := H
        replace H : (calendar_Day.l0 kj3 a0 a2 t105 (wrap64 (a1 - 1)) 0) = some (r1, r2) := H
        have A12 := Aside0.mk A120
        clear A120
        have H' := Aside0.mk H
        clear H
        go_wp2_with (first | ((with_reducible refine gate_callee (f := 33) rfl ?_); refine goesL_ (some 37) rfl rfl Tryd.func33 (by kernel_rfl) rfl #[.int .i64 a0] rfl (by (try simp only [List.map_toArray, List.map_cons, List.map_nil]); first | done | rfl | (simp only [List.length_drop, List.length_take]; rfl)) ?_; (with_reducible refine (calendar_firstOf.calls a0 t105 _ A12.out).mono ?_); rintro e w' ⟨rfl, ⟨nd, rfl⟩⟩; refine ⟨_, rfl, ?_⟩))
        go_loopg [8, 40] kj3 (fun kq v8 v40 w' => ∃ (x8_2 : Int) (x40_2 : Int), v8 = .int .i64 x8_2 ∧ v40 = .int .i64 x40_2 ∧ Aside0 (calendar_Day.l0 kq a0 a2 x8_2 (wrap64 (a1 - 1)) x40_2 = some (r1, r2)) ∧ Aside0 (kq ≤ kj3) ∧ Drawn0 w w')
        case atStart => exact ⟨(t105), (0), (by first | rfl | (simp; done) | (simp [*]; done)), (by first | rfl | (simp; done) | (simp [*]; done)), H', ⟨Nat.le_refl _⟩, by repeat (first | exact Drawn0.refl _ | apply Drawn0.step)⟩
        case round =>
          clear H'
          try clear c1
          try clear p2
          try clear c3
          try clear c5
          try clear c5b0
          try clear c6
          try clear c6b0
          try clear p6
          try clear c7
          try clear c7b0
          try clear c8
          try clear c8b0
          try clear c9
          try clear c9b0
          try clear c11
          try clear p2
          try clear p6
          obtain ⟨x8_2, x40_2, rfl, rfl, HA, HK2, ⟨m2, rfl⟩⟩ := hrel
          cases gk with
          | zero => exact absurd HA.out (by simp [calendar_Day.l0])
          | succ k2 =>
            have H := HA.out
            clear HA
            simp only [calendar_Day.l0] at H
            by_cases c13 : x40_2 < (wrap64 (a1 - 1))
            · rw [if_pos c13] at H
              have c13b0 : decide (x40_2 < (wrap64 (a1 - 1))) = true := decide_eq_true c13
              clear c13
              replace H := Option.bind_eq_some_iff.mp H
              obtain ⟨t106, A140, H⟩ := H
              replace H : (calendar_Day.l0 k2 a0 a2 (wrap64 (x8_2 + t106)) (wrap64 (a1 - 1)) (wrap64 (x40_2 + 1))) = some (r1, r2) := H
              have A14 := Aside0.mk A140
              clear A140
              have H' := Aside0.mk H
              clear H
              go_wp2_with (first | ((with_reducible refine gate_callee (f := 29) rfl ?_); refine goesL_ (some 46) rfl rfl Tryd.func29 (by kernel_rfl) rfl #[.int .i64 a0, .int .i64 x40_2] rfl (by (try simp only [List.map_toArray, List.map_cons, List.map_nil]); first | done | rfl | (simp only [List.length_drop, List.length_take]; rfl)) ?_; (with_reducible refine (calendar_length.calls a0 x40_2 t106 _ ?side1 A14.out).mono ?_); (case side1 => exact TabOK.drawn HTA.out (by repeat (first | exact Drawn0.refl _ | apply Drawn0.step))); rintro e w' ⟨rfl, ⟨nd, rfl⟩⟩; refine ⟨_, rfl, ?_⟩))
              go_roundg k2
              case measure => have := HJ3.out; have := HK2.out; omega
              case rel => exact ⟨(wrap64 (x8_2 + t106)), (wrap64 (x40_2 + 1)), (by first | rfl | (simp; done) | (simp [*]; done)), (by first | rfl | (simp; done) | (simp [*]; done)), H', ⟨by have := HJ3.out; have := HK2.out; omega⟩, by repeat (first | exact Drawn0.refl _ | apply Drawn0.step)⟩
            · rw [if_neg c13] at H
              have c13b0 : decide (x40_2 < (wrap64 (a1 - 1))) = false := decide_eq_false c13
              clear c13
              simp only [Option.some.injEq, Prod.mk.injEq] at H
              obtain ⟨rfl, rfl⟩ := H
              go_wp2
              go_ret2
              exact ⟨by first | rfl | (simp; done) | (simp [*]; done), by repeat (first | exact Drawn0.refl _ | apply Drawn0.step)⟩

/-! ### calendar_weekday: function 34 -/
def calendar_weekday.f (a0 : Int) : Option (Int) := some (Int.tmod (wrap64 (a0 + 5)) 7)
set_option maxHeartbeats 8000000 in
set_option maxRecDepth 100000 in
theorem calendar_weekday.calls (a0 : Int) (r : Int) (w : World) (h : calendar_weekday.f a0 = some r) :
    Calls Tryd.prog 34 #[.int .i64 a0] w fun e w' => e = .returned (.int .i64 r) ∧ Drawn0 w w' := by
  have H : (some (Int.tmod (wrap64 (a0 + 5)) 7)) = some r := h
  clear h
  obtain rfl := Option.some.inj H
  go_enter Tryd.func34, Tryd.ntmps34
  go_wp2
  go_ret
  exact ⟨by first | rfl | (simp; done) | (simp [*]; done), by repeat (first | exact Drawn0.refl _ | apply Drawn0.step)⟩

/-! ### calendar_Weekday: function 17 -/
def calendar_Weekday.f (a0 : Int) : Option (Int × Int) := (calendar_valid.f a0).bind fun t107 => (if t107 = true then ((calendar_weekday.f a0).bind fun t108 => (some (t108, 0))) else (some (0, 3)))
set_option maxHeartbeats 8000000 in
set_option maxRecDepth 100000 in
theorem calendar_Weekday.calls (a0 : Int) (r1 : Int) (r2 : Int) (w : World) (h : calendar_Weekday.f a0 = some (r1, r2)) :
    Calls Tryd.prog 17 #[.int .i64 a0] w fun e w' => e = .returned (.tuple #[.int .i64 r1, .int .i64 r2]) ∧ Drawn0 w w' := by
  have H : ((calendar_valid.f a0).bind fun t107 => (if t107 = true then ((calendar_weekday.f a0).bind fun t108 => (some (t108, 0))) else (some (0, 3)))) = some (r1, r2) := h
  clear h
  replace H := Option.bind_eq_some_iff.mp H
  obtain ⟨t107, A20, H⟩ := H
  replace H : (if t107 = true then ((calendar_weekday.f a0).bind fun t108 => (some (t108, 0))) else (some (0, 3))) = some (r1, r2) := H
  have A2 := Aside0.mk A20
  clear A20
  by_cases c3 : t107 = true
  · subst c3
    have H1 : ((calendar_weekday.f a0).bind fun t108 => (some (t108, 0))) = some (r1, r2) := by rw [if_pos rfl] at H; exact H
    clear H
    have H := H1
    clear H1
    replace H := Option.bind_eq_some_iff.mp H
    obtain ⟨t108, A40, H⟩ := H
    replace H : (some (t108, 0)) = some (r1, r2) := H
    have A4 := Aside0.mk A40
    clear A40
    simp only [Option.some.injEq, Prod.mk.injEq] at H
    obtain ⟨rfl, rfl⟩ := H
    go_enter Tryd.func17, Tryd.ntmps17
    go_wp2_with (first | ((with_reducible refine gate_callee (f := 28) rfl ?_); refine goesL_ (some 5) rfl rfl Tryd.func28 (by kernel_rfl) rfl #[.int .i64 a0] rfl (by (try simp only [List.map_toArray, List.map_cons, List.map_nil]); first | done | rfl | (simp only [List.length_drop, List.length_take]; rfl)) ?_; (with_reducible refine (calendar_valid.calls a0 true _ A2.out).mono ?_); rintro e w' ⟨rfl, ⟨nd, rfl⟩⟩; refine ⟨_, rfl, ?_⟩) | ((with_reducible refine gate_callee (f := 34) rfl ?_); refine goesL_ (some 8) rfl rfl Tryd.func34 (by kernel_rfl) rfl #[.int .i64 a0] rfl (by (try simp only [List.map_toArray, List.map_cons, List.map_nil]); first | done | rfl | (simp only [List.length_drop, List.length_take]; rfl)) ?_; (with_reducible refine (calendar_weekday.calls a0 t108 _ A4.out).mono ?_); rintro e w' ⟨rfl, ⟨nd, rfl⟩⟩; refine ⟨_, rfl, ?_⟩))
    go_ret2
    exact ⟨by first | rfl | (simp; done) | (simp [*]; done), by repeat (first | exact Drawn0.refl _ | apply Drawn0.step)⟩
  · replace c3 := Bool.eq_false_iff.mpr c3
    subst c3
    have H1 : (some (0, 3)) = some (r1, r2) := by rw [if_neg (show ¬ (false = true) by decide)] at H; exact H
    clear H
    have H := H1
    clear H1
    simp only [Option.some.injEq, Prod.mk.injEq] at H
    obtain ⟨rfl, rfl⟩ := H
    go_enter Tryd.func17, Tryd.ntmps17
    go_wp2_with (first | ((with_reducible refine gate_callee (f := 28) rfl ?_); refine goesL_ (some 5) rfl rfl Tryd.func28 (by kernel_rfl) rfl #[.int .i64 a0] rfl (by (try simp only [List.map_toArray, List.map_cons, List.map_nil]); first | done | rfl | (simp only [List.length_drop, List.length_take]; rfl)) ?_; (with_reducible refine (calendar_valid.calls a0 false _ A2.out).mono ?_); rintro e w' ⟨rfl, ⟨nd, rfl⟩⟩; refine ⟨_, rfl, ?_⟩))
    go_ret2
    exact ⟨by first | rfl | (simp; done) | (simp [*]; done), by repeat (first | exact Drawn0.refl _ | apply Drawn0.step)⟩

/-! ### calendar_Month: function 19 -/
def calendar_Month.f (k : Nat) (a0 : Int) : Option (Int × Int) := (calendar_Date.f k a0).bind fun bt109 => (if bt109.2.2.2 = 0 then (some (wrap64 ((wrap64 ((wrap64 (12 * (wrap64 (bt109.1 - 2000)))) + bt109.2.1)) - 1), 0)) else (some (0, bt109.2.2.2)))
theorem calendar_Month.mono : ∀ a0 k, LeO (calendar_Month.f k a0) (calendar_Month.f (k + 1) a0) := by
  intro a0 k
  unfold calendar_Month.f
  repeat' first
      | (with_reducible exact calendar_Date.mono _ _)
      | (with_reducible exact LeO.refl _)
      | (with_reducible exact LeO.none _)
      | (with_reducible refine LeO.ite ?_ ?_)
      | (with_reducible refine LeO.bind ?_ (fun _ => ?_))
      | exact calendar_Date.mono _ _
      | exact LeO.none _
      | refine LeO.ite ?_ ?_
      | refine LeO.bind ?_ (fun _ => ?_)
set_option maxHeartbeats 8000000 in
set_option maxRecDepth 100000 in
theorem calendar_Month.calls (k : Nat) (a0 : Int) (r1 : Int) (r2 : Int) (w : World) (HT : TabOK w) (h : calendar_Month.f k a0 = some (r1, r2)) :
    Calls Tryd.prog 19 #[.int .i64 a0] w fun e w' => e = .returned (.tuple #[.int .i64 r1, .int .i64 r2]) ∧ Drawn0 w w' := by
  have HTA := Aside0.mk HT
  clear HT
  have H : ((calendar_Date.f k a0).bind fun bt109 => (if bt109.2.2.2 = 0 then (some (wrap64 ((wrap64 ((wrap64 (12 * (wrap64 (bt109.1 - 2000)))) + bt109.2.1)) - 1), 0)) else (some (0, bt109.2.2.2)))) = some (r1, r2) := h
  clear h
  replace H := Option.bind_eq_some_iff.mp H
  obtain ⟨⟨t109, t110, t111, t112⟩, A20, H⟩ := H
  replace H : (if t112 = 0 then (some (wrap64 ((wrap64 ((wrap64 (12 * (wrap64 (t109 - 2000)))) + t110)) - 1), 0)) else (some (0, t112))) = some (r1, r2) := H
  have A2 := Aside0.mk A20
  clear A20
  by_cases c3 : t112 = 0
  · rw [if_pos c3] at H
    have c3b0 : (t112 == 0) = true := beq_iff_eq.mpr c3
    have c3b1 : (t112 != 0) = false := bne_eq_false_iff_eq.mpr c3
    clear c3
    simp only [Option.some.injEq, Prod.mk.injEq] at H
    obtain ⟨rfl, rfl⟩ := H
    go_enter Tryd.func19, Tryd.ntmps19
    go_wp2_with (first | ((with_reducible refine gate_callee (f := 13) rfl ?_); refine goesL_ (some 10) rfl rfl Tryd.func13 (by kernel_rfl) rfl #[.int .i64 a0] rfl (by (try simp only [List.map_toArray, List.map_cons, List.map_nil]); first | done | rfl | (simp only [List.length_drop, List.length_take]; rfl)) ?_; (with_reducible refine (calendar_Date.calls k a0 t109 t110 t111 t112 _ ?side1 A2.out).mono ?_); (case side1 => exact TabOK.drawn HTA.out (by repeat (first | exact Drawn0.refl _ | apply Drawn0.step))); rintro e w' ⟨rfl, ⟨nd, rfl⟩⟩; refine ⟨_, rfl, ?_⟩))
    go_ret2
    exact ⟨by first | rfl | (simp; done) | (simp [*]; done), by repeat (first | exact Drawn0.refl _ | apply Drawn0.step)⟩
  · rw [if_neg c3] at H
    have c3b0 : (t112 == 0) = false := beq_eq_false_iff_ne.mpr c3
    have c3b1 : (t112 != 0) = true := bne_iff_ne.mpr c3
    simp only [Option.some.injEq, Prod.mk.injEq] at H
    obtain ⟨rfl, rfl⟩ := H
    go_enter Tryd.func19, Tryd.ntmps19
    go_wp2_with (first | ((with_reducible refine gate_callee (f := 13) rfl ?_); refine goesL_ (some 10) rfl rfl Tryd.func13 (by kernel_rfl) rfl #[.int .i64 a0] rfl (by (try simp only [List.map_toArray, List.map_cons, List.map_nil]); first | done | rfl | (simp only [List.length_drop, List.length_take]; rfl)) ?_; (with_reducible refine (calendar_Date.calls k a0 t109 t110 t111 t112 _ ?side1 A2.out).mono ?_); (case side1 => exact TabOK.drawn HTA.out (by repeat (first | exact Drawn0.refl _ | apply Drawn0.step))); rintro e w' ⟨rfl, ⟨nd, rfl⟩⟩; refine ⟨_, rfl, ?_⟩))
    go_ret2
    exact ⟨by first | rfl | (simp; done) | (simp [*]; done), by repeat (first | exact Drawn0.refl _ | apply Drawn0.step)⟩

end Go.Proofs.YtjkpojedegmciaaDoor.Px
