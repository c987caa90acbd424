/- Contracts of Go functions, written by a program of this session's own (wip/tools/myprint.py) out of the translation: each Go function does what the Lean function of its name says. Conditions: as each theorem states. -/
import Derived.Test.YtjkpojedegmciaaDoorPx0
import Derived.Test.YtjkpojedegmciaaDoorPx3
import Derived.Test.YtjkpojedegmciaaDoorPx7
namespace Go.Proofs.YtjkpojedegmciaaDoor.Px
open Go.Proofs.YtjkpojedegmciaaDoor.Given
open Go.RowKit Go.Proofs.YtjkpojedegmciaaDoorW.PrintWords Go.Proofs.YtjkpojedegmciaaDoorW.PrintLast Go.Proofs.YtjkpojedegmciaaDoorW.PrintMore
attribute [local go_sem] max2_int min2_int max_two min_two max_three min_three max_four min_four   -- for this text's walks alone
set_option linter.unusedVariables false
set_option linter.unusedSimpArgs false

/-! ### cohousinglaw03_CalendarRoundTrip: function 4 -/
def cohousinglaw03_CalendarRoundTrip.j0 : Nat → Int → Int → Int → Bool → Option (Bool)
  | 0, _, _, _, _ => none
  | k + 1, x1, x2, x3, x9 => (calendar_Day.f k x1 x2 x3).bind fun bt241 => (if bt241.2 = 0 then ((calendar_Date.f k bt241.1).bind fun bt243 => (if x9 = true then (if bt243.2.2.2 = 0 then (if bt243.1 = x1 then (if bt243.2.1 = x2 then (some (bt243.2.2.1 == x3)) else (some false)) else (some false)) else (some false)) else (some false))) else (some x9))
def cohousinglaw03_CalendarRoundTrip.f (k : Nat) (a0 : Int) (a1 : Int) (a2 : Int) (a3 : Int) : Option (Bool) := (cohousinglaw03_head.f k).bind fun t234 => ((calendar_Date.f k a0).bind fun bt235 => (if bt235.2.2.2 = 0 then ((calendar_Day.f k bt235.1 bt235.2.1 bt235.2.2.1).bind fun bt239 => (if t234 = true then (if bt239.2 = 0 then (cohousinglaw03_CalendarRoundTrip.j0 k a1 a2 a3 (bt239.1 == a0)) else (cohousinglaw03_CalendarRoundTrip.j0 k a1 a2 a3 false)) else (cohousinglaw03_CalendarRoundTrip.j0 k a1 a2 a3 false))) else (if t234 = true then (if a0 < 0 then (cohousinglaw03_CalendarRoundTrip.j0 k a1 a2 a3 true) else (cohousinglaw03_CalendarRoundTrip.j0 k a1 a2 a3 (decide (a0 > 36524)))) else (cohousinglaw03_CalendarRoundTrip.j0 k a1 a2 a3 false))))
theorem cohousinglaw03_CalendarRoundTrip.mono_l : ∀ k, (∀ y0 y1 y2 y3, LeO (cohousinglaw03_CalendarRoundTrip.j0 k y0 y1 y2 y3) (cohousinglaw03_CalendarRoundTrip.j0 (k + 1) y0 y1 y2 y3))
  | 0 => fun _ _ _ _ r h => by simp [cohousinglaw03_CalendarRoundTrip.j0] at h
  | k + 1 => by
    have ih0 := cohousinglaw03_CalendarRoundTrip.mono_l k
    · intro y0 y1 y2 y3
      unfold cohousinglaw03_CalendarRoundTrip.j0
      repeat' first
      | (with_reducible exact ih0 _ _ _ _)
      | (with_reducible exact calendar_Date.mono _ _)
      | (with_reducible exact calendar_Day.mono _ _ _ _)
      | (with_reducible exact cohousinglaw03_head.mono _)
      | (with_reducible exact LeO.refl _)
      | (with_reducible exact LeO.none _)
      | (with_reducible refine LeO.ite ?_ ?_)
      | (with_reducible refine LeO.bind ?_ (fun _ => ?_))
      | exact ih0 _ _ _ _
      | exact calendar_Date.mono _ _
      | exact calendar_Day.mono _ _ _ _
      | exact cohousinglaw03_head.mono _
      | exact LeO.none _
      | refine LeO.ite ?_ ?_
      | refine LeO.bind ?_ (fun _ => ?_)
theorem cohousinglaw03_CalendarRoundTrip.mono : ∀ a0 a1 a2 a3 k, LeO (cohousinglaw03_CalendarRoundTrip.f k a0 a1 a2 a3) (cohousinglaw03_CalendarRoundTrip.f (k + 1) a0 a1 a2 a3) := by
  intro a0 a1 a2 a3 k
  have ih0 := cohousinglaw03_CalendarRoundTrip.mono_l k
  unfold cohousinglaw03_CalendarRoundTrip.f
  repeat' first
      | (with_reducible exact ih0 _ _ _ _)
      | (with_reducible exact calendar_Date.mono _ _)
      | (with_reducible exact calendar_Day.mono _ _ _ _)
      | (with_reducible exact cohousinglaw03_head.mono _)
      | (with_reducible exact LeO.refl _)
      | (with_reducible exact LeO.none _)
      | (with_reducible refine LeO.ite ?_ ?_)
      | (with_reducible refine LeO.bind ?_ (fun _ => ?_))
      | exact ih0 _ _ _ _
      | exact calendar_Date.mono _ _
      | exact calendar_Day.mono _ _ _ _
      | exact cohousinglaw03_head.mono _
      | exact LeO.none _
      | refine LeO.ite ?_ ?_
      | refine LeO.bind ?_ (fun _ => ?_)
set_option maxHeartbeats 8000000 in
set_option maxRecDepth 100000 in
theorem cohousinglaw03_CalendarRoundTrip.calls (k : Nat) (a0 : Int) (a1 : Int) (a2 : Int) (a3 : Int) (r : Bool) (w : World) (HT : TabOK w) (h : cohousinglaw03_CalendarRoundTrip.f k a0 a1 a2 a3 = some r) :
    Calls Tryd.prog 4 #[.int .i64 a0, .int .i64 a1, .int .i64 a2, .int .i64 a3] w fun e w' => e = .returned (.bool r) ∧ Below w.heap.size w w' := by
  have HTA := Aside0.mk HT
  clear HT
  have HB := Aside0.mk (Below.refl w.heap.size w)
  have H : ((cohousinglaw03_head.f k).bind fun t234 => ((calendar_Date.f k a0).bind fun bt235 => (if bt235.2.2.2 = 0 then ((calendar_Day.f k bt235.1 bt235.2.1 bt235.2.2.1).bind fun bt239 => (if t234 = true then (if bt239.2 = 0 then (cohousinglaw03_CalendarRoundTrip.j0 k a1 a2 a3 (bt239.1 == a0)) else (cohousinglaw03_CalendarRoundTrip.j0 k a1 a2 a3 false)) else (cohousinglaw03_CalendarRoundTrip.j0 k a1 a2 a3 false))) else (if t234 = true then (if a0 < 0 then (cohousinglaw03_CalendarRoundTrip.j0 k a1 a2 a3 true) else (cohousinglaw03_CalendarRoundTrip.j0 k a1 a2 a3 (decide (a0 > 36524)))) else (cohousinglaw03_CalendarRoundTrip.j0 k a1 a2 a3 false))))) = some r := h
  clear h
  replace H := Option.bind_eq_some_iff.mp H
  obtain ⟨t234, A50, H⟩ := H
  replace H : ((calendar_Date.f k a0).bind fun bt235 => (if bt235.2.2.2 = 0 then ((calendar_Day.f k bt235.1 bt235.2.1 bt235.2.2.1).bind fun bt239 => (if t234 = true then (if bt239.2 = 0 then (cohousinglaw03_CalendarRoundTrip.j0 k a1 a2 a3 (bt239.1 == a0)) else (cohousinglaw03_CalendarRoundTrip.j0 k a1 a2 a3 false)) else (cohousinglaw03_CalendarRoundTrip.j0 k a1 a2 a3 false))) else (if t234 = true then (if a0 < 0 then (cohousinglaw03_CalendarRoundTrip.j0 k a1 a2 a3 true) else (cohousinglaw03_CalendarRoundTrip.j0 k a1 a2 a3 (decide (a0 > 36524)))) else (cohousinglaw03_CalendarRoundTrip.j0 k a1 a2 a3 false)))) = some r := H
  have A5 := Aside0.mk A50
  clear A50
  replace H := Option.bind_eq_some_iff.mp H
  obtain ⟨⟨t235, t236, t237, t238⟩, A60, H⟩ := H
  replace H : (if t238 = 0 then ((calendar_Day.f k t235 t236 t237).bind fun bt239 => (if t234 = true then (if bt239.2 = 0 then (cohousinglaw03_CalendarRoundTrip.j0 k a1 a2 a3 (bt239.1 == a0)) else (cohousinglaw03_CalendarRoundTrip.j0 k a1 a2 a3 false)) else (cohousinglaw03_CalendarRoundTrip.j0 k a1 a2 a3 false))) else (if t234 = true then (if a0 < 0 then (cohousinglaw03_CalendarRoundTrip.j0 k a1 a2 a3 true) else (cohousinglaw03_CalendarRoundTrip.j0 k a1 a2 a3 (decide (a0 > 36524)))) else (cohousinglaw03_CalendarRoundTrip.j0 k a1 a2 a3 false))) = some r := H
  have A6 := Aside0.mk A60
  clear A60
  have HC7 := Aside0.mk H
  clear H
  go_enter Tryd.func4, Tryd.ntmps4
  go_upto_if 31 with (first | ((with_reducible refine gate_callee (f := 11) rfl ?_); refine goesL_ (some 22) rfl rfl Tryd.func11 (by kernel_rfl) rfl #[] rfl (by (try simp only [List.map_toArray, List.map_cons, List.map_nil]); first | done | rfl | (simp only [List.length_drop, List.length_take]; rfl)) ?_; (with_reducible refine (cohousinglaw03_head.calls k  t234 _ ?side1 A5.out).mono ?_); (case side1 => exact TabOK.below HTA.out (by repeat (first | (with_reducible first | exact HB.out | apply below_alloc | apply pw_below_drewN | apply below_drew1) | exact HB.out))); rintro e w8 ⟨rfl, hb⟩; refine ⟨_, rfl, ?_⟩; have n0_ := Aside0.mk (below_step (by repeat (first | (with_reducible first | exact HB.out | apply below_alloc | apply pw_below_drewN | apply below_drew1) | exact HB.out)) hb); clear HB; have HB := n0_; clear n0_; (try clear hb); (try clear hb2); (try clear hk); (try clear hi)) | ((with_reducible refine gate_callee (f := 13) rfl ?_); refine goesL_ (some 25) rfl rfl Tryd.func13 (by kernel_rfl) rfl #[.int .i64 a0] rfl (by (try simp only [List.map_toArray, List.map_cons, List.map_nil]); first | done | rfl | (simp only [List.length_drop, List.length_take]; rfl)) ?_; (with_reducible refine (calendar_Date.calls k a0 t235 t236 t237 t238 _ ?side1 A6.out).mono ?_); (case side1 => exact TabOK.below HTA.out (by repeat (first | (with_reducible first | exact HB.out | apply below_alloc | apply pw_below_drewN | apply below_drew1) | exact HB.out))); rintro e w' ⟨rfl, ⟨nd, rfl⟩⟩; refine ⟨_, rfl, ?_⟩))
  (try simp only [Act.put, List.setIfInBounds_toArray, List.set_cons_zero, List.set_cons_succ])
  go_cut [9] (fun v9 wc => ∃ (kq : Nat) (x9_6 : Bool), v9 = .bool x9_6 ∧ Aside0 (cohousinglaw03_CalendarRoundTrip.j0 kq a1 a2 a3 x9_6 = some r) ∧ Aside0 (kq ≤ k) ∧ Aside0 (Below w.heap.size w wc))
  case first =>
    have H := HC7.out
    clear HC7
    by_cases c9 : t238 = 0
    · rw [if_pos c9] at H
      have c9b0 : (t238 == 0) = true := beq_iff_eq.mpr c9
      have c9b1 : (t238 != 0) = false := bne_eq_false_iff_eq.mpr c9
      clear c9
      (first | rw [c9b0] | (simp only [i64_w, i32_w]; rw [c9b0]) | skip)
      replace H := Option.bind_eq_some_iff.mp H
      obtain ⟨⟨t239, t240⟩, A100, H⟩ := H
      replace H : (if t234 = true then (if t240 = 0 then (cohousinglaw03_CalendarRoundTrip.j0 k a1 a2 a3 (t239 == a0)) else (cohousinglaw03_CalendarRoundTrip.j0 k a1 a2 a3 false)) else (cohousinglaw03_CalendarRoundTrip.j0 k a1 a2 a3 false)) = some r := H
      have A10 := Aside0.mk A100
      clear A100
      by_cases c11 : t234 = true
      · subst c11
        have H1 : (if t240 = 0 then (cohousinglaw03_CalendarRoundTrip.j0 k a1 a2 a3 (t239 == a0)) else (cohousinglaw03_CalendarRoundTrip.j0 k a1 a2 a3 false)) = some r := by rw [if_pos rfl] at H; exact H
        clear H
        have H := H1
        clear H1
        by_cases c12 : t240 = 0
        · rw [if_pos c12] at H
          have c12b0 : (t240 == 0) = true := beq_iff_eq.mpr c12
          have c12b1 : (t240 != 0) = false := bne_eq_false_iff_eq.mpr c12
          clear c12
          have H' := Aside0.mk H
          clear H
          go_wp2_with (first | ((with_reducible refine gate_callee (f := 15) rfl ?_); refine goesL_ (some 36) rfl rfl Tryd.func15 (by kernel_rfl) rfl #[.int .i64 t235, .int .i64 t236, .int .i64 t237] rfl (by (try simp only [List.map_toArray, List.map_cons, List.map_nil]); first | done | rfl | (simp only [List.length_drop, List.length_take]; rfl)) ?_; (with_reducible refine (calendar_Day.calls k t235 t236 t237 t239 t240 _ ?side1 A10.out).mono ?_); (case side1 => exact TabOK.below HTA.out (by repeat (first | (with_reducible first | exact HB.out | apply below_alloc | apply pw_below_drewN | apply below_drew1) | exact HB.out))); rintro e w' ⟨rfl, ⟨nd, rfl⟩⟩; refine ⟨_, rfl, ?_⟩))
          go_meet
          case rel => exact ⟨_, ((t239 == a0)), (by first | rfl | (simp; done) | (simp [*]; done)), H', ⟨by first | omega | exact Nat.le_refl _⟩, ⟨by repeat (first | (with_reducible first | exact HB.out | apply below_alloc | apply pw_below_drewN | apply below_drew1) | exact HB.out)⟩⟩
        · rw [if_neg c12] at H
          have c12b0 : (t240 == 0) = false := beq_eq_false_iff_ne.mpr c12
          have c12b1 : (t240 != 0) = true := bne_iff_ne.mpr c12
          have H' := Aside0.mk H
          clear H
          go_wp2_with (first | ((with_reducible refine gate_callee (f := 15) rfl ?_); refine goesL_ (some 36) rfl rfl Tryd.func15 (by kernel_rfl) rfl #[.int .i64 t235, .int .i64 t236, .int .i64 t237] rfl (by (try simp only [List.map_toArray, List.map_cons, List.map_nil]); first | done | rfl | (simp only [List.length_drop, List.length_take]; rfl)) ?_; (with_reducible refine (calendar_Day.calls k t235 t236 t237 t239 t240 _ ?side1 A10.out).mono ?_); (case side1 => exact TabOK.below HTA.out (by repeat (first | (with_reducible first | exact HB.out | apply below_alloc | apply pw_below_drewN | apply below_drew1) | exact HB.out))); rintro e w' ⟨rfl, ⟨nd, rfl⟩⟩; refine ⟨_, rfl, ?_⟩))
          go_meet
          case rel => exact ⟨_, (false), (by first | rfl | (simp; done) | (simp [*]; done)), H', ⟨by first | omega | exact Nat.le_refl _⟩, ⟨by repeat (first | (with_reducible first | exact HB.out | apply below_alloc | apply pw_below_drewN | apply below_drew1) | exact HB.out)⟩⟩
      · replace c11 := Bool.eq_false_iff.mpr c11
        subst c11
        have H1 : (cohousinglaw03_CalendarRoundTrip.j0 k a1 a2 a3 false) = some r := by rw [if_neg (show ¬ (false = true) by decide)] at H; exact H
        clear H
        have H := H1
        clear H1
        have H' := Aside0.mk H
        clear H
        go_wp2_with (first | ((with_reducible refine gate_callee (f := 15) rfl ?_); refine goesL_ (some 36) rfl rfl Tryd.func15 (by kernel_rfl) rfl #[.int .i64 t235, .int .i64 t236, .int .i64 t237] rfl (by (try simp only [List.map_toArray, List.map_cons, List.map_nil]); first | done | rfl | (simp only [List.length_drop, List.length_take]; rfl)) ?_; (with_reducible refine (calendar_Day.calls k t235 t236 t237 t239 t240 _ ?side1 A10.out).mono ?_); (case side1 => exact TabOK.below HTA.out (by repeat (first | (with_reducible first | exact HB.out | apply below_alloc | apply pw_below_drewN | apply below_drew1) | exact HB.out))); rintro e w' ⟨rfl, ⟨nd, rfl⟩⟩; refine ⟨_, rfl, ?_⟩))
        go_meet
        case rel => exact ⟨_, (false), (by first | rfl | (simp; done) | (simp [*]; done)), H', ⟨by first | omega | exact Nat.le_refl _⟩, ⟨by repeat (first | (with_reducible first | exact HB.out | apply below_alloc | apply pw_below_drewN | apply below_drew1) | exact HB.out)⟩⟩
    · rw [if_neg c9] at H
      have c9b0 : (t238 == 0) = false := beq_eq_false_iff_ne.mpr c9
      have c9b1 : (t238 != 0) = true := bne_iff_ne.mpr c9
      (first | rw [c9b0] | (simp only [i64_w, i32_w]; rw [c9b0]) | skip)
      by_cases c13 : t234 = true
      · subst c13
        have H1 : (if a0 < 0 then (cohousinglaw03_CalendarRoundTrip.j0 k a1 a2 a3 true) else (cohousinglaw03_CalendarRoundTrip.j0 k a1 a2 a3 (decide (a0 > 36524)))) = some r := by rw [if_pos rfl] at H; exact H
        clear H
        have H := H1
        clear H1
        by_cases c14 : a0 < 0
        · rw [if_pos c14] at H
          have c14b0 : decide (a0 < 0) = true := decide_eq_true c14
          clear c14
          have H' := Aside0.mk H
          clear H
          go_wp2
          go_meet
          case rel => exact ⟨_, (true), (by first | rfl | (simp; done) | (simp [*]; done)), H', ⟨by first | omega | exact Nat.le_refl _⟩, ⟨by repeat (first | (with_reducible first | exact HB.out | apply below_alloc | apply pw_below_drewN | apply below_drew1) | exact HB.out)⟩⟩
        · rw [if_neg c14] at H
          have c14b0 : decide (a0 < 0) = false := decide_eq_false c14
          clear c14
          have H' := Aside0.mk H
          clear H
          go_wp2
          go_meet
          case rel => exact ⟨_, (decide (a0 > 36524)), (by first | rfl | (simp; done) | (simp [*]; done)), H', ⟨by first | omega | exact Nat.le_refl _⟩, ⟨by repeat (first | (with_reducible first | exact HB.out | apply below_alloc | apply pw_below_drewN | apply below_drew1) | exact HB.out)⟩⟩
      · replace c13 := Bool.eq_false_iff.mpr c13
        subst c13
        have H1 : (cohousinglaw03_CalendarRoundTrip.j0 k a1 a2 a3 false) = some r := by rw [if_neg (show ¬ (false = true) by decide)] at H; exact H
        clear H
        have H := H1
        clear H1
        have H' := Aside0.mk H
        clear H
        go_wp2
        go_meet
        case rel => exact ⟨_, (false), (by first | rfl | (simp; done) | (simp [*]; done)), H', ⟨by first | omega | exact Nat.le_refl _⟩, ⟨by repeat (first | (with_reducible first | exact HB.out | apply below_alloc | apply pw_below_drewN | apply below_drew1) | exact HB.out)⟩⟩
  case rest =>
    clear HC7
    try clear c1
    try clear p2
    try clear c4
    try clear c9
    try clear c9b0
    try clear c9b1
    try clear c11
    try clear c12
    try clear c12b0
    try clear c12b1
    try clear c13
    try clear c14
    try clear c14b0
    obtain ⟨kq, x9_6, rfl, HA, HJ6, HB⟩ := hcut
    cases kq with
    | zero => exact absurd HA.out (by simp [cohousinglaw03_CalendarRoundTrip.j0])
    | succ kj6 =>
      have H := HA.out
      clear HA
      simp only [cohousinglaw03_CalendarRoundTrip.j0] at H
      replace H := Option.bind_eq_some_iff.mp H
      obtain ⟨⟨t241, t242⟩, A150, H⟩ := H
      replace H : (if t242 = 0 then ((calendar_Date.f kj6 t241).bind fun bt243 => (if x9_6 = true then (if bt243.2.2.2 = 0 then (if bt243.1 = a1 then (if bt243.2.1 = a2 then (some (bt243.2.2.1 == a3)) else (some false)) else (some false)) else (some false)) else (some false))) else (some x9_6)) = some r := H
      have A15 := Aside0.mk A150
      clear A150
      by_cases c16 : t242 = 0
      · rw [if_pos c16] at H
        have c16b0 : (t242 == 0) = true := beq_iff_eq.mpr c16
        have c16b1 : (t242 != 0) = false := bne_eq_false_iff_eq.mpr c16
        clear c16
        replace H := Option.bind_eq_some_iff.mp H
        obtain ⟨⟨t243, t244, t245, t246⟩, A170, H⟩ := H
        replace H : (if x9_6 = true then (if t246 = 0 then (if t243 = a1 then (if t244 = a2 then (some (t245 == a3)) else (some false)) else (some false)) else (some false)) else (some false)) = some r := H
        have A17 := Aside0.mk A170
        clear A170
        by_cases c18 : x9_6 = true
        · subst c18
          have H1 : (if t246 = 0 then (if t243 = a1 then (if t244 = a2 then (some (t245 == a3)) else (some false)) else (some false)) else (some false)) = some r := by rw [if_pos rfl] at H; exact H
          clear H
          have H := H1
          clear H1
          by_cases c19 : t246 = 0
          · rw [if_pos c19] at H
            have c19b0 : (t246 == 0) = true := beq_iff_eq.mpr c19
            have c19b1 : (t246 != 0) = false := bne_eq_false_iff_eq.mpr c19
            clear c19
            by_cases c20 : t243 = a1
            · rw [if_pos c20] at H
              have c20b0 : (t243 == a1) = true := beq_iff_eq.mpr c20
              have c20b1 : (t243 != a1) = false := bne_eq_false_iff_eq.mpr c20
              clear c20
              by_cases c21 : t244 = a2
              · rw [if_pos c21] at H
                have c21b0 : (t244 == a2) = true := beq_iff_eq.mpr c21
                have c21b1 : (t244 != a2) = false := bne_eq_false_iff_eq.mpr c21
                clear c21
                obtain rfl := Option.some.inj H
                go_wp2_with (first | ((with_reducible refine gate_callee (f := 15) rfl ?_); refine goesL_ (some 62) rfl rfl Tryd.func15 (by kernel_rfl) rfl #[.int .i64 a1, .int .i64 a2, .int .i64 a3] rfl (by (try simp only [List.map_toArray, List.map_cons, List.map_nil]); first | done | rfl | (simp only [List.length_drop, List.length_take]; rfl)) ?_; (with_reducible refine (calendar_Day.calls kj6 a1 a2 a3 t241 t242 _ ?side1 A15.out).mono ?_); (case side1 => exact TabOK.below HTA.out (by repeat (first | (with_reducible first | exact HB.out | apply below_alloc | apply pw_below_drewN | apply below_drew1) | exact HB.out))); rintro e w' ⟨rfl, ⟨nd, rfl⟩⟩; refine ⟨_, rfl, ?_⟩) | ((with_reducible refine gate_callee (f := 13) rfl ?_); refine goesL_ (some 69) rfl rfl Tryd.func13 (by kernel_rfl) rfl #[.int .i64 t241] rfl (by (try simp only [List.map_toArray, List.map_cons, List.map_nil]); first | done | rfl | (simp only [List.length_drop, List.length_take]; rfl)) ?_; (with_reducible refine (calendar_Date.calls kj6 t241 t243 t244 t245 t246 _ ?side1 A17.out).mono ?_); (case side1 => exact TabOK.below HTA.out (by repeat (first | (with_reducible first | exact HB.out | apply below_alloc | apply pw_below_drewN | apply below_drew1) | exact HB.out))); rintro e w' ⟨rfl, ⟨nd, rfl⟩⟩; refine ⟨_, rfl, ?_⟩))
                go_ret
                exact ⟨by first | rfl | (simp [errW_none, errW_some] <;> rfl) | (simp [*, errW_none, errW_some] <;> rfl), by repeat (first | (with_reducible first | exact HB.out | apply below_alloc | apply pw_below_drewN | apply below_drew1) | exact HB.out)⟩
              · rw [if_neg c21] at H
                have c21b0 : (t244 == a2) = false := beq_eq_false_iff_ne.mpr c21
                have c21b1 : (t244 != a2) = true := bne_iff_ne.mpr c21
                obtain rfl := Option.some.inj H
                go_wp2_with (first | ((with_reducible refine gate_callee (f := 15) rfl ?_); refine goesL_ (some 62) rfl rfl Tryd.func15 (by kernel_rfl) rfl #[.int .i64 a1, .int .i64 a2, .int .i64 a3] rfl (by (try simp only [List.map_toArray, List.map_cons, List.map_nil]); first | done | rfl | (simp only [List.length_drop, List.length_take]; rfl)) ?_; (with_reducible refine (calendar_Day.calls kj6 a1 a2 a3 t241 t242 _ ?side1 A15.out).mono ?_); (case side1 => exact TabOK.below HTA.out (by repeat (first | (with_reducible first | exact HB.out | apply below_alloc | apply pw_below_drewN | apply below_drew1) | exact HB.out))); rintro e w' ⟨rfl, ⟨nd, rfl⟩⟩; refine ⟨_, rfl, ?_⟩) | ((with_reducible refine gate_callee (f := 13) rfl ?_); refine goesL_ (some 69) rfl rfl Tryd.func13 (by kernel_rfl) rfl #[.int .i64 t241] rfl (by (try simp only [List.map_toArray, List.map_cons, List.map_nil]); first | done | rfl | (simp only [List.length_drop, List.length_take]; rfl)) ?_; (with_reducible refine (calendar_Date.calls kj6 t241 t243 t244 t245 t246 _ ?side1 A17.out).mono ?_); (case side1 => exact TabOK.below HTA.out (by repeat (first | (with_reducible first | exact HB.out | apply below_alloc | apply pw_below_drewN | apply below_drew1) | exact HB.out))); rintro e w' ⟨rfl, ⟨nd, rfl⟩⟩; refine ⟨_, rfl, ?_⟩))
                go_ret
                exact ⟨by first | rfl | (simp [errW_none, errW_some] <;> rfl) | (simp [*, errW_none, errW_some] <;> rfl), by repeat (first | (with_reducible first | exact HB.out | apply below_alloc | apply pw_below_drewN | apply below_drew1) | exact HB.out)⟩
            · rw [if_neg c20] at H
              have c20b0 : (t243 == a1) = false := beq_eq_false_iff_ne.mpr c20
              have c20b1 : (t243 != a1) = true := bne_iff_ne.mpr c20
              obtain rfl := Option.some.inj H
              go_wp2_with (first | ((with_reducible refine gate_callee (f := 15) rfl ?_); refine goesL_ (some 62) rfl rfl Tryd.func15 (by kernel_rfl) rfl #[.int .i64 a1, .int .i64 a2, .int .i64 a3] rfl (by (try simp only [List.map_toArray, List.map_cons, List.map_nil]); first | done | rfl | (simp only [List.length_drop, List.length_take]; rfl)) ?_; (with_reducible refine (calendar_Day.calls kj6 a1 a2 a3 t241 t242 _ ?side1 A15.out).mono ?_); (case side1 => exact TabOK.below HTA.out (by repeat (first | (with_reducible first | exact HB.out | apply below_alloc | apply pw_below_drewN | apply below_drew1) | exact HB.out))); rintro e w' ⟨rfl, ⟨nd, rfl⟩⟩; refine ⟨_, rfl, ?_⟩) | ((with_reducible refine gate_callee (f := 13) rfl ?_); refine goesL_ (some 69) rfl rfl Tryd.func13 (by kernel_rfl) rfl #[.int .i64 t241] rfl (by (try simp only [List.map_toArray, List.map_cons, List.map_nil]); first | done | rfl | (simp only [List.length_drop, List.length_take]; rfl)) ?_; (with_reducible refine (calendar_Date.calls kj6 t241 t243 t244 t245 t246 _ ?side1 A17.out).mono ?_); (case side1 => exact TabOK.below HTA.out (by repeat (first | (with_reducible first | exact HB.out | apply below_alloc | apply pw_below_drewN | apply below_drew1) | exact HB.out))); rintro e w' ⟨rfl, ⟨nd, rfl⟩⟩; refine ⟨_, rfl, ?_⟩))
              go_ret
              exact ⟨by first | rfl | (simp [errW_none, errW_some] <;> rfl) | (simp [*, errW_none, errW_some] <;> rfl), by repeat (first | (with_reducible first | exact HB.out | apply below_alloc | apply pw_below_drewN | apply below_drew1) | exact HB.out)⟩
          · rw [if_neg c19] at H
            have c19b0 : (t246 == 0) = false := beq_eq_false_iff_ne.mpr c19
            have c19b1 : (t246 != 0) = true := bne_iff_ne.mpr c19
            obtain rfl := Option.some.inj H
            go_wp2_with (first | ((with_reducible refine gate_callee (f := 15) rfl ?_); refine goesL_ (some 62) rfl rfl Tryd.func15 (by kernel_rfl) rfl #[.int .i64 a1, .int .i64 a2, .int .i64 a3] rfl (by (try simp only [List.map_toArray, List.map_cons, List.map_nil]); first | done | rfl | (simp only [List.length_drop, List.length_take]; rfl)) ?_; (with_reducible refine (calendar_Day.calls kj6 a1 a2 a3 t241 t242 _ ?side1 A15.out).mono ?_); (case side1 => exact TabOK.below HTA.out (by repeat (first | (with_reducible first | exact HB.out | apply below_alloc | apply pw_below_drewN | apply below_drew1) | exact HB.out))); rintro e w' ⟨rfl, ⟨nd, rfl⟩⟩; refine ⟨_, rfl, ?_⟩) | ((with_reducible refine gate_callee (f := 13) rfl ?_); refine goesL_ (some 69) rfl rfl Tryd.func13 (by kernel_rfl) rfl #[.int .i64 t241] rfl (by (try simp only [List.map_toArray, List.map_cons, List.map_nil]); first | done | rfl | (simp only [List.length_drop, List.length_take]; rfl)) ?_; (with_reducible refine (calendar_Date.calls kj6 t241 t243 t244 t245 t246 _ ?side1 A17.out).mono ?_); (case side1 => exact TabOK.below HTA.out (by repeat (first | (with_reducible first | exact HB.out | apply below_alloc | apply pw_below_drewN | apply below_drew1) | exact HB.out))); rintro e w' ⟨rfl, ⟨nd, rfl⟩⟩; refine ⟨_, rfl, ?_⟩))
            go_ret
            exact ⟨by first | rfl | (simp [errW_none, errW_some] <;> rfl) | (simp [*, errW_none, errW_some] <;> rfl), by repeat (first | (with_reducible first | exact HB.out | apply below_alloc | apply pw_below_drewN | apply below_drew1) | exact HB.out)⟩
        · replace c18 := Bool.eq_false_iff.mpr c18
          subst c18
          have H1 : (some false) = some r := by rw [if_neg (show ¬ (false = true) by decide)] at H; exact H
          clear H
          have H := H1
          clear H1
          obtain rfl := Option.some.inj H
          go_wp2_with (first | ((with_reducible refine gate_callee (f := 15) rfl ?_); refine goesL_ (some 62) rfl rfl Tryd.func15 (by kernel_rfl) rfl #[.int .i64 a1, .int .i64 a2, .int .i64 a3] rfl (by (try simp only [List.map_toArray, List.map_cons, List.map_nil]); first | done | rfl | (simp only [List.length_drop, List.length_take]; rfl)) ?_; (with_reducible refine (calendar_Day.calls kj6 a1 a2 a3 t241 t242 _ ?side1 A15.out).mono ?_); (case side1 => exact TabOK.below HTA.out (by repeat (first | (with_reducible first | exact HB.out | apply below_alloc | apply pw_below_drewN | apply below_drew1) | exact HB.out))); rintro e w' ⟨rfl, ⟨nd, rfl⟩⟩; refine ⟨_, rfl, ?_⟩) | ((with_reducible refine gate_callee (f := 13) rfl ?_); refine goesL_ (some 69) rfl rfl Tryd.func13 (by kernel_rfl) rfl #[.int .i64 t241] rfl (by (try simp only [List.map_toArray, List.map_cons, List.map_nil]); first | done | rfl | (simp only [List.length_drop, List.length_take]; rfl)) ?_; (with_reducible refine (calendar_Date.calls kj6 t241 t243 t244 t245 t246 _ ?side1 A17.out).mono ?_); (case side1 => exact TabOK.below HTA.out (by repeat (first | (with_reducible first | exact HB.out | apply below_alloc | apply pw_below_drewN | apply below_drew1) | exact HB.out))); rintro e w' ⟨rfl, ⟨nd, rfl⟩⟩; refine ⟨_, rfl, ?_⟩))
          go_ret
          exact ⟨by first | rfl | (simp [errW_none, errW_some] <;> rfl) | (simp [*, errW_none, errW_some] <;> rfl), by repeat (first | (with_reducible first | exact HB.out | apply below_alloc | apply pw_below_drewN | apply below_drew1) | exact HB.out)⟩
      · rw [if_neg c16] at H
        have c16b0 : (t242 == 0) = false := beq_eq_false_iff_ne.mpr c16
        have c16b1 : (t242 != 0) = true := bne_iff_ne.mpr c16
        obtain rfl := Option.some.inj H
        go_wp2_with (first | ((with_reducible refine gate_callee (f := 15) rfl ?_); refine goesL_ (some 62) rfl rfl Tryd.func15 (by kernel_rfl) rfl #[.int .i64 a1, .int .i64 a2, .int .i64 a3] rfl (by (try simp only [List.map_toArray, List.map_cons, List.map_nil]); first | done | rfl | (simp only [List.length_drop, List.length_take]; rfl)) ?_; (with_reducible refine (calendar_Day.calls kj6 a1 a2 a3 t241 t242 _ ?side1 A15.out).mono ?_); (case side1 => exact TabOK.below HTA.out (by repeat (first | (with_reducible first | exact HB.out | apply below_alloc | apply pw_below_drewN | apply below_drew1) | exact HB.out))); rintro e w' ⟨rfl, ⟨nd, rfl⟩⟩; refine ⟨_, rfl, ?_⟩))
        go_ret
        exact ⟨by first | rfl | (simp [errW_none, errW_some] <;> rfl) | (simp [*, errW_none, errW_some] <;> rfl), by repeat (first | (with_reducible first | exact HB.out | apply below_alloc | apply pw_below_drewN | apply below_drew1) | exact HB.out)⟩

/-- THE ONE PURE STATEMENT of cohousinglaw03_CalendarRoundTrip: yours. -/
def cohousinglaw03_CalendarRoundTrip.Pure : Prop := ∀ (a0 : Int) (a1 : Int) (a2 : Int) (a3 : Int), (Lit.int .i64 a0).wf = true → (Lit.int .i64 a1).wf = true → (Lit.int .i64 a2).wf = true → (Lit.int .i64 a3).wf = true → ∃ k, cohousinglaw03_CalendarRoundTrip.f k a0 a1 a2 a3 = some true
theorem cohousinglaw03_CalendarRoundTrip.walk (P : cohousinglaw03_CalendarRoundTrip.Pure) (a0 : Int) (a1 : Int) (a2 : Int) (a3 : Int) (w : World) (w0 : (Lit.int .i64 a0).wf = true) (w1 : (Lit.int .i64 a1).wf = true) (w2 : (Lit.int .i64 a2).wf = true) (w3 : (Lit.int .i64 a3).wf = true) (HT : TabOK w) :
    Calls Tryd.prog 4 #[.int .i64 a0, .int .i64 a1, .int .i64 a2, .int .i64 a3] w fun e w' => e = .returned (.bool true) ∧ Below w.heap.size w w' := by
  obtain ⟨k, h⟩ := P a0 a1 a2 a3 w0 w1 w2 w3
  refine (cohousinglaw03_CalendarRoundTrip.calls k a0 a1 a2 a3 true w HT h).mono ?_
  rintro e w' ⟨rfl, hd⟩
  exact ⟨rfl, hd⟩

/-! ### cohousinglaw03_CalendarSuccession: function 5 -/
mutual
def cohousinglaw03_CalendarSuccession.j0 : Nat → Int → Bool → Bool → Option (Bool)
  | 0, _, _, _ => none
  | k + 1, x0, x3, x20 => if x20 = true then (some x3) else ((calendar_Date.f k x0).bind fun bt248 => ((calendar_Date.f k (wrap64 (x0 + 1))).bind fun bt252 => (if bt248.2.2.2 = 0 then (cohousinglaw03_CalendarSuccession.j1 k x3 bt248.1 bt248.2.1 bt248.2.2.1 bt252.1 bt252.2.1 bt252.2.2.1 (bt252.2.2.2 != 0)) else (cohousinglaw03_CalendarSuccession.j1 k x3 bt248.1 bt248.2.1 bt248.2.2.1 bt252.1 bt252.2.1 bt252.2.2.1 true))))
def cohousinglaw03_CalendarSuccession.j1 : Nat → Bool → Int → Int → Int → Int → Int → Int → Bool → Option (Bool)
  | 0, _, _, _, _, _, _, _, _ => none
  | k + 1, x3, x4, x5, x6, x8, x9, x10, x42 => if x42 = true then (some false) else ((calendar_Day.f k x4 x5 (wrap64 (x6 + 1))).bind fun bt256 => (if bt256.2 = 0 then (if x3 = true then (if x8 = x4 then (if x9 = x5 then (some (x10 == (wrap64 (x6 + 1)))) else (some false)) else (some false)) else (some false)) else (if x3 = true then (if x10 = 1 then (if x8 = x4 then (if x9 = (wrap64 (x5 + 1)) then (some true) else (if x8 = (wrap64 (x4 + 1)) then (if x5 = 12 then (some (x9 == 1)) else (some false)) else (some false))) else (if x8 = (wrap64 (x4 + 1)) then (if x5 = 12 then (some (x9 == 1)) else (some false)) else (some false))) else (some false)) else (some false))))
end
def cohousinglaw03_CalendarSuccession.f (k : Nat) (a0 : Int) : Option (Bool) := (cohousinglaw03_head.f k).bind fun t247 => (if a0 < 0 then (cohousinglaw03_CalendarSuccession.j0 k a0 t247 true) else (cohousinglaw03_CalendarSuccession.j0 k a0 t247 (decide (a0 ≥ 36524))))
theorem cohousinglaw03_CalendarSuccession.mono_l : ∀ k, (∀ y0 y1 y2, LeO (cohousinglaw03_CalendarSuccession.j0 k y0 y1 y2) (cohousinglaw03_CalendarSuccession.j0 (k + 1) y0 y1 y2)) ∧ (∀ y0 y1 y2 y3 y4 y5 y6 y7, LeO (cohousinglaw03_CalendarSuccession.j1 k y0 y1 y2 y3 y4 y5 y6 y7) (cohousinglaw03_CalendarSuccession.j1 (k + 1) y0 y1 y2 y3 y4 y5 y6 y7))
  | 0 => ⟨fun _ _ _ r h => by simp [cohousinglaw03_CalendarSuccession.j0] at h, fun _ _ _ _ _ _ _ _ r h => by simp [cohousinglaw03_CalendarSuccession.j1] at h⟩
  | k + 1 => by
    obtain ⟨ih0, ih1⟩ := cohousinglaw03_CalendarSuccession.mono_l k
    refine ⟨?_, ?_⟩
    · intro y0 y1 y2
      unfold cohousinglaw03_CalendarSuccession.j0
      repeat' first
      | (with_reducible exact ih0 _ _ _)
      | (with_reducible exact ih1 _ _ _ _ _ _ _ _)
      | (with_reducible exact calendar_Date.mono _ _)
      | (with_reducible exact calendar_Day.mono _ _ _ _)
      | (with_reducible exact cohousinglaw03_head.mono _)
      | (with_reducible exact LeO.refl _)
      | (with_reducible exact LeO.none _)
      | (with_reducible refine LeO.ite ?_ ?_)
      | (with_reducible refine LeO.bind ?_ (fun _ => ?_))
      | exact ih0 _ _ _
      | exact ih1 _ _ _ _ _ _ _ _
      | exact calendar_Date.mono _ _
      | exact calendar_Day.mono _ _ _ _
      | exact cohousinglaw03_head.mono _
      | exact LeO.none _
      | refine LeO.ite ?_ ?_
      | refine LeO.bind ?_ (fun _ => ?_)
    · intro y0 y1 y2 y3 y4 y5 y6 y7
      unfold cohousinglaw03_CalendarSuccession.j1
      repeat' first
      | (with_reducible exact ih0 _ _ _)
      | (with_reducible exact ih1 _ _ _ _ _ _ _ _)
      | (with_reducible exact calendar_Date.mono _ _)
      | (with_reducible exact calendar_Day.mono _ _ _ _)
      | (with_reducible exact cohousinglaw03_head.mono _)
      | (with_reducible exact LeO.refl _)
      | (with_reducible exact LeO.none _)
      | (with_reducible refine LeO.ite ?_ ?_)
      | (with_reducible refine LeO.bind ?_ (fun _ => ?_))
      | exact ih0 _ _ _
      | exact ih1 _ _ _ _ _ _ _ _
      | exact calendar_Date.mono _ _
      | exact calendar_Day.mono _ _ _ _
      | exact cohousinglaw03_head.mono _
      | exact LeO.none _
      | refine LeO.ite ?_ ?_
      | refine LeO.bind ?_ (fun _ => ?_)
theorem cohousinglaw03_CalendarSuccession.mono : ∀ a0 k, LeO (cohousinglaw03_CalendarSuccession.f k a0) (cohousinglaw03_CalendarSuccession.f (k + 1) a0) := by
  intro a0 k
  obtain ⟨ih0, ih1⟩ := cohousinglaw03_CalendarSuccession.mono_l k
  unfold cohousinglaw03_CalendarSuccession.f
  repeat' first
      | (with_reducible exact ih0 _ _ _)
      | (with_reducible exact ih1 _ _ _ _ _ _ _ _)
      | (with_reducible exact calendar_Date.mono _ _)
      | (with_reducible exact calendar_Day.mono _ _ _ _)
      | (with_reducible exact cohousinglaw03_head.mono _)
      | (with_reducible exact LeO.refl _)
      | (with_reducible exact LeO.none _)
      | (with_reducible refine LeO.ite ?_ ?_)
      | (with_reducible refine LeO.bind ?_ (fun _ => ?_))
      | exact ih0 _ _ _
      | exact ih1 _ _ _ _ _ _ _ _
      | exact calendar_Date.mono _ _
      | exact calendar_Day.mono _ _ _ _
      | exact cohousinglaw03_head.mono _
      | exact LeO.none _
      | refine LeO.ite ?_ ?_
      | refine LeO.bind ?_ (fun _ => ?_)
set_option maxHeartbeats 8000000 in
set_option maxRecDepth 100000 in
theorem cohousinglaw03_CalendarSuccession.calls (k : Nat) (a0 : Int) (r : Bool) (w : World) (HT : TabOK w) (h : cohousinglaw03_CalendarSuccession.f k a0 = some r) :
    Calls Tryd.prog 5 #[.int .i64 a0] w fun e w' => e = .returned (.bool r) ∧ Below w.heap.size w w' := by
  have HTA := Aside0.mk HT
  clear HT
  have HB := Aside0.mk (Below.refl w.heap.size w)
  have H : ((cohousinglaw03_head.f k).bind fun t247 => (if a0 < 0 then (cohousinglaw03_CalendarSuccession.j0 k a0 t247 true) else (cohousinglaw03_CalendarSuccession.j0 k a0 t247 (decide (a0 ≥ 36524))))) = some r := h
  clear h
  replace H := Option.bind_eq_some_iff.mp H
  obtain ⟨t247, A20, H⟩ := H
  replace H : (if a0 < 0 then (cohousinglaw03_CalendarSuccession.j0 k a0 t247 true) else (cohousinglaw03_CalendarSuccession.j0 k a0 t247 (decide (a0 ≥ 36524)))) = some r := H
  have A2 := Aside0.mk A20
  clear A20
  have HC3 := Aside0.mk H
  clear H
  go_enter Tryd.func5, Tryd.ntmps5
  go_upto_region 2 with (first | ((with_reducible refine gate_callee (f := 11) rfl ?_); refine goesL_ (some 14) rfl rfl Tryd.func11 (by kernel_rfl) rfl #[] rfl (by (try simp only [List.map_toArray, List.map_cons, List.map_nil]); first | done | rfl | (simp only [List.length_drop, List.length_take]; rfl)) ?_; (with_reducible refine (cohousinglaw03_head.calls k  t247 _ ?side1 A2.out).mono ?_); (case side1 => exact TabOK.below HTA.out (by repeat (first | (with_reducible first | exact HB.out | apply below_alloc | apply pw_below_drewN | apply below_drew1) | exact HB.out))); rintro e w4 ⟨rfl, hb⟩; refine ⟨_, rfl, ?_⟩; have n0_ := Aside0.mk (below_step (by repeat (first | (with_reducible first | exact HB.out | apply below_alloc | apply pw_below_drewN | apply below_drew1) | exact HB.out)) hb); clear HB; have HB := n0_; clear n0_; (try clear hb); (try clear hb2); (try clear hk); (try clear hi)))
  (try simp only [Act.put, List.setIfInBounds_toArray, List.set_cons_zero, List.set_cons_succ])
  go_cut [20] (fun v20 wc => ∃ (kq : Nat) (x20_2 : Bool), v20 = .bool x20_2 ∧ Aside0 (cohousinglaw03_CalendarSuccession.j0 kq a0 t247 x20_2 = some r) ∧ Aside0 (kq ≤ k) ∧ Aside0 (Below w.heap.size w wc))
  case first =>
    have H := HC3.out
    clear HC3
    by_cases c5 : a0 < 0
    · rw [if_pos c5] at H
      have c5b0 : decide (a0 < 0) = true := decide_eq_true c5
      clear c5
      (first | rw [c5b0] | (simp only [i64_w, i32_w]; rw [c5b0]) | skip)
      have H' := Aside0.mk H
      clear H
      go_wp2
      go_meet
      case rel => exact ⟨_, (true), (by first | rfl | (simp; done) | (simp [*]; done)), H', ⟨by first | omega | exact Nat.le_refl _⟩, ⟨by repeat (first | (with_reducible first | exact HB.out | apply below_alloc | apply pw_below_drewN | apply below_drew1) | exact HB.out)⟩⟩
    · rw [if_neg c5] at H
      have c5b0 : decide (a0 < 0) = false := decide_eq_false c5
      clear c5
      (first | rw [c5b0] | (simp only [i64_w, i32_w]; rw [c5b0]) | skip)
      have H' := Aside0.mk H
      clear H
      go_wp2
      go_meet
      case rel => exact ⟨_, (decide (a0 ≥ 36524)), (by first | rfl | (simp; done) | (simp [*]; done)), H', ⟨by first | omega | exact Nat.le_refl _⟩, ⟨by repeat (first | (with_reducible first | exact HB.out | apply below_alloc | apply pw_below_drewN | apply below_drew1) | exact HB.out)⟩⟩
  case rest =>
    clear HC3
    try clear c1
    try clear p2
    try clear c5
    try clear c5b0
    obtain ⟨kq, x20_2, rfl, HA, HJ2, HB⟩ := hcut
    cases kq with
    | zero => exact absurd HA.out (by simp [cohousinglaw03_CalendarSuccession.j0])
    | succ kj2 =>
      have H := HA.out
      clear HA
      simp only [cohousinglaw03_CalendarSuccession.j0] at H
      by_cases c6 : x20_2 = true
      · subst c6
        have H1 : (some t247) = some r := by rw [if_pos rfl] at H; exact H
        clear H
        have H := H1
        clear H1
        obtain rfl := Option.some.inj H
        go_wp2
        go_ret
        exact ⟨by first | rfl | (simp [errW_none, errW_some] <;> rfl) | (simp [*, errW_none, errW_some] <;> rfl), by repeat (first | (with_reducible first | exact HB.out | apply below_alloc | apply pw_below_drewN | apply below_drew1) | exact HB.out)⟩
      · replace c6 := Bool.eq_false_iff.mpr c6
        subst c6
        have H1 : ((calendar_Date.f kj2 a0).bind fun bt248 => ((calendar_Date.f kj2 (wrap64 (a0 + 1))).bind fun bt252 => (if bt248.2.2.2 = 0 then (cohousinglaw03_CalendarSuccession.j1 kj2 t247 bt248.1 bt248.2.1 bt248.2.2.1 bt252.1 bt252.2.1 bt252.2.2.1 (bt252.2.2.2 != 0)) else (cohousinglaw03_CalendarSuccession.j1 kj2 t247 bt248.1 bt248.2.1 bt248.2.2.1 bt252.1 bt252.2.1 bt252.2.2.1 true)))) = some r := by rw [if_neg (show ¬ (false = true) by decide)] at H; exact H
        clear H
        have H := H1
        clear H1
        replace H := Option.bind_eq_some_iff.mp H
        obtain ⟨⟨t248, t249, t250, t251⟩, A70, H⟩ := H
        replace H : ((calendar_Date.f kj2 (wrap64 (a0 + 1))).bind fun bt252 => (if t251 = 0 then (cohousinglaw03_CalendarSuccession.j1 kj2 t247 t248 t249 t250 bt252.1 bt252.2.1 bt252.2.2.1 (bt252.2.2.2 != 0)) else (cohousinglaw03_CalendarSuccession.j1 kj2 t247 t248 t249 t250 bt252.1 bt252.2.1 bt252.2.2.1 true))) = some r := H
        have A7 := Aside0.mk A70
        clear A70
        replace H := Option.bind_eq_some_iff.mp H
        obtain ⟨⟨t252, t253, t254, t255⟩, A80, H⟩ := H
        replace H : (if t251 = 0 then (cohousinglaw03_CalendarSuccession.j1 kj2 t247 t248 t249 t250 t252 t253 t254 (t255 != 0)) else (cohousinglaw03_CalendarSuccession.j1 kj2 t247 t248 t249 t250 t252 t253 t254 true)) = some r := H
        have A8 := Aside0.mk A80
        clear A80
        have HC9 := Aside0.mk H
        clear H
        go_upto_region 6 with (first | ((with_reducible refine gate_callee (f := 13) rfl ?_); refine goesL_ (some 24) rfl rfl Tryd.func13 (by kernel_rfl) rfl #[.int .i64 a0] rfl (by (try simp only [List.map_toArray, List.map_cons, List.map_nil]); first | done | rfl | (simp only [List.length_drop, List.length_take]; rfl)) ?_; (with_reducible refine (calendar_Date.calls kj2 a0 t248 t249 t250 t251 _ ?side1 A7.out).mono ?_); (case side1 => exact TabOK.below HTA.out (by repeat (first | (with_reducible first | exact HB.out | apply below_alloc | apply pw_below_drewN | apply below_drew1) | exact HB.out))); rintro e w' ⟨rfl, ⟨nd, rfl⟩⟩; refine ⟨_, rfl, ?_⟩) | ((with_reducible refine gate_callee (f := 13) rfl ?_); refine goesL_ (some 32) rfl rfl Tryd.func13 (by kernel_rfl) rfl #[.int .i64 (wrap64 (a0 + 1))] rfl (by (try simp only [List.map_toArray, List.map_cons, List.map_nil]); first | done | rfl | (simp only [List.length_drop, List.length_take]; rfl)) ?_; (with_reducible refine (calendar_Date.calls kj2 (wrap64 (a0 + 1)) t252 t253 t254 t255 _ ?side1 A8.out).mono ?_); (case side1 => exact TabOK.below HTA.out (by repeat (first | (with_reducible first | exact HB.out | apply below_alloc | apply pw_below_drewN | apply below_drew1) | exact HB.out))); rintro e w' ⟨rfl, ⟨nd, rfl⟩⟩; refine ⟨_, rfl, ?_⟩))
        (try simp only [Act.put, List.setIfInBounds_toArray, List.set_cons_zero, List.set_cons_succ])
        go_cut [42] (fun v42 wc => ∃ (kq : Nat) (x42_8 : Bool), v42 = .bool x42_8 ∧ Aside0 (cohousinglaw03_CalendarSuccession.j1 kq t247 t248 t249 t250 t252 t253 t254 x42_8 = some r) ∧ Aside0 (kq ≤ kj2) ∧ Aside0 (Below w.heap.size w wc))
        case first =>
          have H := HC9.out
          clear HC9
          by_cases c10 : t251 = 0
          · rw [if_pos c10] at H
            have c10b0 : (t251 == 0) = true := beq_iff_eq.mpr c10
            have c10b1 : (t251 != 0) = false := bne_eq_false_iff_eq.mpr c10
            clear c10
            (first | rw [c10b0] | (simp only [i64_w, i32_w]; rw [c10b0]) | skip)
            have H' := Aside0.mk H
            clear H
            go_wp2
            go_meet
            case rel => exact ⟨_, ((t255 != 0)), (by first | rfl | (simp; done) | (simp [*]; done)), H', ⟨by have := HJ2.out; first | omega | exact Nat.le_refl _⟩, ⟨by repeat (first | (with_reducible first | exact HB.out | apply below_alloc | apply pw_below_drewN | apply below_drew1) | exact HB.out)⟩⟩
          · rw [if_neg c10] at H
            have c10b0 : (t251 == 0) = false := beq_eq_false_iff_ne.mpr c10
            have c10b1 : (t251 != 0) = true := bne_iff_ne.mpr c10
            (first | rw [c10b0] | (simp only [i64_w, i32_w]; rw [c10b0]) | skip)
            have H' := Aside0.mk H
            clear H
            go_wp2
            go_meet
            case rel => exact ⟨_, (true), (by first | rfl | (simp; done) | (simp [*]; done)), H', ⟨by have := HJ2.out; first | omega | exact Nat.le_refl _⟩, ⟨by repeat (first | (with_reducible first | exact HB.out | apply below_alloc | apply pw_below_drewN | apply below_drew1) | exact HB.out)⟩⟩
        case rest =>
          clear HC9
          try clear c1
          try clear p2
          try clear c5
          try clear c5b0
          try clear c6
          try clear p6
          try clear c10
          try clear c10b0
          try clear c10b1
          try clear p2
          obtain ⟨kq, x42_8, rfl, HA, HJ8, HB⟩ := hcut
          cases kq with
          | zero => exact absurd HA.out (by simp [cohousinglaw03_CalendarSuccession.j1])
          | succ kj8 =>
            have H := HA.out
            clear HA
            simp only [cohousinglaw03_CalendarSuccession.j1] at H
            by_cases c11 : x42_8 = true
            · subst c11
              have H1 : (some false) = some r := by rw [if_pos rfl] at H; exact H
              clear H
              have H := H1
              clear H1
              obtain rfl := Option.some.inj H
              go_wp2
              go_ret
              exact ⟨by first | rfl | (simp [errW_none, errW_some] <;> rfl) | (simp [*, errW_none, errW_some] <;> rfl), by repeat (first | (with_reducible first | exact HB.out | apply below_alloc | apply pw_below_drewN | apply below_drew1) | exact HB.out)⟩
            · replace c11 := Bool.eq_false_iff.mpr c11
              subst c11
              have H1 : ((calendar_Day.f kj8 t248 t249 (wrap64 (t250 + 1))).bind fun bt256 => (if bt256.2 = 0 then (if t247 = true then (if t252 = t248 then (if t253 = t249 then (some (t254 == (wrap64 (t250 + 1)))) else (some false)) else (some false)) else (some false)) else (if t247 = true then (if t254 = 1 then (if t252 = t248 then (if t253 = (wrap64 (t249 + 1)) then (some true) else (if t252 = (wrap64 (t248 + 1)) then (if t249 = 12 then (some (t253 == 1)) else (some false)) else (some false))) else (if t252 = (wrap64 (t248 + 1)) then (if t249 = 12 then (some (t253 == 1)) else (some false)) else (some false))) else (some false)) else (some false)))) = some r := by rw [if_neg (show ¬ (false = true) by decide)] at H; exact H
              clear H
              have H := H1
              clear H1
              replace H := Option.bind_eq_some_iff.mp H
              obtain ⟨⟨t256, t257⟩, A120, H⟩ := H
              replace H : (if t257 = 0 then (if t247 = true then (if t252 = t248 then (if t253 = t249 then (some (t254 == (wrap64 (t250 + 1)))) else (some false)) else (some false)) else (some false)) else (if t247 = true then (if t254 = 1 then (if t252 = t248 then (if t253 = (wrap64 (t249 + 1)) then (some true) else (if t252 = (wrap64 (t248 + 1)) then (if t249 = 12 then (some (t253 == 1)) else (some false)) else (some false))) else (if t252 = (wrap64 (t248 + 1)) then (if t249 = 12 then (some (t253 == 1)) else (some false)) else (some false))) else (some false)) else (some false))) = some r := H
              have A12 := Aside0.mk A120
              clear A120
              by_cases c13 : t257 = 0
              · rw [if_pos c13] at H
                have c13b0 : (t257 == 0) = true := beq_iff_eq.mpr c13
                have c13b1 : (t257 != 0) = false := bne_eq_false_iff_eq.mpr c13
                clear c13
                by_cases c14 : t247 = true
                · subst c14
                  have H1 : (if t252 = t248 then (if t253 = t249 then (some (t254 == (wrap64 (t250 + 1)))) else (some false)) else (some false)) = some r := by rw [if_pos rfl] at H; exact H
                  clear H
                  have H := H1
                  clear H1
                  by_cases c15 : t252 = t248
                  · rw [if_pos c15] at H
                    have c15b0 : (t252 == t248) = true := beq_iff_eq.mpr c15
                    have c15b1 : (t252 != t248) = false := bne_eq_false_iff_eq.mpr c15
                    clear c15
                    by_cases c16 : t253 = t249
                    · rw [if_pos c16] at H
                      have c16b0 : (t253 == t249) = true := beq_iff_eq.mpr c16
                      have c16b1 : (t253 != t249) = false := bne_eq_false_iff_eq.mpr c16
                      clear c16
                      obtain rfl := Option.some.inj H
                      go_wp2_with (first | ((with_reducible refine gate_callee (f := 15) rfl ?_); refine goesL_ (some 48) rfl rfl Tryd.func15 (by kernel_rfl) rfl #[.int .i64 t248, .int .i64 t249, .int .i64 (wrap64 (t250 + 1))] rfl (by (try simp only [List.map_toArray, List.map_cons, List.map_nil]); first | done | rfl | (simp only [List.length_drop, List.length_take]; rfl)) ?_; (with_reducible refine (calendar_Day.calls kj8 t248 t249 (wrap64 (t250 + 1)) t256 t257 _ ?side1 A12.out).mono ?_); (case side1 => exact TabOK.below HTA.out (by repeat (first | (with_reducible first | exact HB.out | apply below_alloc | apply pw_below_drewN | apply below_drew1) | exact HB.out))); rintro e w' ⟨rfl, ⟨nd, rfl⟩⟩; refine ⟨_, rfl, ?_⟩))
                      go_ret
                      exact ⟨by first | rfl | (simp [errW_none, errW_some] <;> rfl) | (simp [*, errW_none, errW_some] <;> rfl), by repeat (first | (with_reducible first | exact HB.out | apply below_alloc | apply pw_below_drewN | apply below_drew1) | exact HB.out)⟩
                    · rw [if_neg c16] at H
                      have c16b0 : (t253 == t249) = false := beq_eq_false_iff_ne.mpr c16
                      have c16b1 : (t253 != t249) = true := bne_iff_ne.mpr c16
                      obtain rfl := Option.some.inj H
                      go_wp2_with (first | ((with_reducible refine gate_callee (f := 15) rfl ?_); refine goesL_ (some 48) rfl rfl Tryd.func15 (by kernel_rfl) rfl #[.int .i64 t248, .int .i64 t249, .int .i64 (wrap64 (t250 + 1))] rfl (by (try simp only [List.map_toArray, List.map_cons, List.map_nil]); first | done | rfl | (simp only [List.length_drop, List.length_take]; rfl)) ?_; (with_reducible refine (calendar_Day.calls kj8 t248 t249 (wrap64 (t250 + 1)) t256 t257 _ ?side1 A12.out).mono ?_); (case side1 => exact TabOK.below HTA.out (by repeat (first | (with_reducible first | exact HB.out | apply below_alloc | apply pw_below_drewN | apply below_drew1) | exact HB.out))); rintro e w' ⟨rfl, ⟨nd, rfl⟩⟩; refine ⟨_, rfl, ?_⟩))
                      go_ret
                      exact ⟨by first | rfl | (simp [errW_none, errW_some] <;> rfl) | (simp [*, errW_none, errW_some] <;> rfl), by repeat (first | (with_reducible first | exact HB.out | apply below_alloc | apply pw_below_drewN | apply below_drew1) | exact HB.out)⟩
                  · rw [if_neg c15] at H
                    have c15b0 : (t252 == t248) = false := beq_eq_false_iff_ne.mpr c15
                    have c15b1 : (t252 != t248) = true := bne_iff_ne.mpr c15
                    obtain rfl := Option.some.inj H
                    go_wp2_with (first | ((with_reducible refine gate_callee (f := 15) rfl ?_); refine goesL_ (some 48) rfl rfl Tryd.func15 (by kernel_rfl) rfl #[.int .i64 t248, .int .i64 t249, .int .i64 (wrap64 (t250 + 1))] rfl (by (try simp only [List.map_toArray, List.map_cons, List.map_nil]); first | done | rfl | (simp only [List.length_drop, List.length_take]; rfl)) ?_; (with_reducible refine (calendar_Day.calls kj8 t248 t249 (wrap64 (t250 + 1)) t256 t257 _ ?side1 A12.out).mono ?_); (case side1 => exact TabOK.below HTA.out (by repeat (first | (with_reducible first | exact HB.out | apply below_alloc | apply pw_below_drewN | apply below_drew1) | exact HB.out))); rintro e w' ⟨rfl, ⟨nd, rfl⟩⟩; refine ⟨_, rfl, ?_⟩))
                    go_ret
                    exact ⟨by first | rfl | (simp [errW_none, errW_some] <;> rfl) | (simp [*, errW_none, errW_some] <;> rfl), by repeat (first | (with_reducible first | exact HB.out | apply below_alloc | apply pw_below_drewN | apply below_drew1) | exact HB.out)⟩
                · replace c14 := Bool.eq_false_iff.mpr c14
                  subst c14
                  have H1 : (some false) = some r := by rw [if_neg (show ¬ (false = true) by decide)] at H; exact H
                  clear H
                  have H := H1
                  clear H1
                  obtain rfl := Option.some.inj H
                  go_wp2_with (first | ((with_reducible refine gate_callee (f := 15) rfl ?_); refine goesL_ (some 48) rfl rfl Tryd.func15 (by kernel_rfl) rfl #[.int .i64 t248, .int .i64 t249, .int .i64 (wrap64 (t250 + 1))] rfl (by (try simp only [List.map_toArray, List.map_cons, List.map_nil]); first | done | rfl | (simp only [List.length_drop, List.length_take]; rfl)) ?_; (with_reducible refine (calendar_Day.calls kj8 t248 t249 (wrap64 (t250 + 1)) t256 t257 _ ?side1 A12.out).mono ?_); (case side1 => exact TabOK.below HTA.out (by repeat (first | (with_reducible first | exact HB.out | apply below_alloc | apply pw_below_drewN | apply below_drew1) | exact HB.out))); rintro e w' ⟨rfl, ⟨nd, rfl⟩⟩; refine ⟨_, rfl, ?_⟩))
                  go_ret
                  exact ⟨by first | rfl | (simp [errW_none, errW_some] <;> rfl) | (simp [*, errW_none, errW_some] <;> rfl), by repeat (first | (with_reducible first | exact HB.out | apply below_alloc | apply pw_below_drewN | apply below_drew1) | exact HB.out)⟩
              · rw [if_neg c13] at H
                have c13b0 : (t257 == 0) = false := beq_eq_false_iff_ne.mpr c13
                have c13b1 : (t257 != 0) = true := bne_iff_ne.mpr c13
                by_cases c17 : t247 = true
                · subst c17
                  have H1 : (if t254 = 1 then (if t252 = t248 then (if t253 = (wrap64 (t249 + 1)) then (some true) else (if t252 = (wrap64 (t248 + 1)) then (if t249 = 12 then (some (t253 == 1)) else (some false)) else (some false))) else (if t252 = (wrap64 (t248 + 1)) then (if t249 = 12 then (some (t253 == 1)) else (some false)) else (some false))) else (some false)) = some r := by rw [if_pos rfl] at H; exact H
                  clear H
                  have H := H1
                  clear H1
                  by_cases c18 : t254 = 1
                  · rw [if_pos c18] at H
                    have c18b0 : (t254 == 1) = true := beq_iff_eq.mpr c18
                    have c18b1 : (t254 != 1) = false := bne_eq_false_iff_eq.mpr c18
                    clear c18
                    by_cases c19 : t252 = t248
                    · rw [if_pos c19] at H
                      have c19b0 : (t252 == t248) = true := beq_iff_eq.mpr c19
                      have c19b1 : (t252 != t248) = false := bne_eq_false_iff_eq.mpr c19
                      clear c19
                      by_cases c20 : t253 = (wrap64 (t249 + 1))
                      · rw [if_pos c20] at H
                        have c20b0 : (t253 == (wrap64 (t249 + 1))) = true := beq_iff_eq.mpr c20
                        have c20b1 : (t253 != (wrap64 (t249 + 1))) = false := bne_eq_false_iff_eq.mpr c20
                        clear c20
                        obtain rfl := Option.some.inj H
                        go_wp2_with (first | ((with_reducible refine gate_callee (f := 15) rfl ?_); refine goesL_ (some 48) rfl rfl Tryd.func15 (by kernel_rfl) rfl #[.int .i64 t248, .int .i64 t249, .int .i64 (wrap64 (t250 + 1))] rfl (by (try simp only [List.map_toArray, List.map_cons, List.map_nil]); first | done | rfl | (simp only [List.length_drop, List.length_take]; rfl)) ?_; (with_reducible refine (calendar_Day.calls kj8 t248 t249 (wrap64 (t250 + 1)) t256 t257 _ ?side1 A12.out).mono ?_); (case side1 => exact TabOK.below HTA.out (by repeat (first | (with_reducible first | exact HB.out | apply below_alloc | apply pw_below_drewN | apply below_drew1) | exact HB.out))); rintro e w' ⟨rfl, ⟨nd, rfl⟩⟩; refine ⟨_, rfl, ?_⟩))
                        go_ret
                        exact ⟨by first | rfl | (simp [errW_none, errW_some] <;> rfl) | (simp [*, errW_none, errW_some] <;> rfl), by repeat (first | (with_reducible first | exact HB.out | apply below_alloc | apply pw_below_drewN | apply below_drew1) | exact HB.out)⟩
                      · rw [if_neg c20] at H
                        have c20b0 : (t253 == (wrap64 (t249 + 1))) = false := beq_eq_false_iff_ne.mpr c20
                        have c20b1 : (t253 != (wrap64 (t249 + 1))) = true := bne_iff_ne.mpr c20
                        by_cases c21 : t252 = (wrap64 (t248 + 1))
                        · rw [if_pos c21] at H
                          have c21b0 : (t252 == (wrap64 (t248 + 1))) = true := beq_iff_eq.mpr c21
                          have c21b1 : (t252 != (wrap64 (t248 + 1))) = false := bne_eq_false_iff_eq.mpr c21
                          clear c21
                          by_cases c22 : t249 = 12
                          · rw [if_pos c22] at H
                            have c22b0 : (t249 == 12) = true := beq_iff_eq.mpr c22
                            have c22b1 : (t249 != 12) = false := bne_eq_false_iff_eq.mpr c22
                            clear c22
                            obtain rfl := Option.some.inj H
                            go_wp2_with (first | ((with_reducible refine gate_callee (f := 15) rfl ?_); refine goesL_ (some 48) rfl rfl Tryd.func15 (by kernel_rfl) rfl #[.int .i64 t248, .int .i64 t249, .int .i64 (wrap64 (t250 + 1))] rfl (by (try simp only [List.map_toArray, List.map_cons, List.map_nil]); first | done | rfl | (simp only [List.length_drop, List.length_take]; rfl)) ?_; (with_reducible refine (calendar_Day.calls kj8 t248 t249 (wrap64 (t250 + 1)) t256 t257 _ ?side1 A12.out).mono ?_); (case side1 => exact TabOK.below HTA.out (by repeat (first | (with_reducible first | exact HB.out | apply below_alloc | apply pw_below_drewN | apply below_drew1) | exact HB.out))); rintro e w' ⟨rfl, ⟨nd, rfl⟩⟩; refine ⟨_, rfl, ?_⟩))
                            go_ret
                            exact ⟨by first | rfl | (simp [errW_none, errW_some] <;> rfl) | (simp [*, errW_none, errW_some] <;> rfl), by repeat (first | (with_reducible first | exact HB.out | apply below_alloc | apply pw_below_drewN | apply below_drew1) | exact HB.out)⟩
                          · rw [if_neg c22] at H
                            have c22b0 : (t249 == 12) = false := beq_eq_false_iff_ne.mpr c22
                            have c22b1 : (t249 != 12) = true := bne_iff_ne.mpr c22
                            obtain rfl := Option.some.inj H
                            go_wp2_with (first | ((with_reducible refine gate_callee (f := 15) rfl ?_); refine goesL_ (some 48) rfl rfl Tryd.func15 (by kernel_rfl) rfl #[.int .i64 t248, .int .i64 t249, .int .i64 (wrap64 (t250 + 1))] rfl (by (try simp only [List.map_toArray, List.map_cons, List.map_nil]); first | done | rfl | (simp only [List.length_drop, List.length_take]; rfl)) ?_; (with_reducible refine (calendar_Day.calls kj8 t248 t249 (wrap64 (t250 + 1)) t256 t257 _ ?side1 A12.out).mono ?_); (case side1 => exact TabOK.below HTA.out (by repeat (first | (with_reducible first | exact HB.out | apply below_alloc | apply pw_below_drewN | apply below_drew1) | exact HB.out))); rintro e w' ⟨rfl, ⟨nd, rfl⟩⟩; refine ⟨_, rfl, ?_⟩))
                            go_ret
                            exact ⟨by first | rfl | (simp [errW_none, errW_some] <;> rfl) | (simp [*, errW_none, errW_some] <;> rfl), by repeat (first | (with_reducible first | exact HB.out | apply below_alloc | apply pw_below_drewN | apply below_drew1) | exact HB.out)⟩
                        · rw [if_neg c21] at H
                          have c21b0 : (t252 == (wrap64 (t248 + 1))) = false := beq_eq_false_iff_ne.mpr c21
                          have c21b1 : (t252 != (wrap64 (t248 + 1))) = true := bne_iff_ne.mpr c21
                          obtain rfl := Option.some.inj H
                          go_wp2_with (first | ((with_reducible refine gate_callee (f := 15) rfl ?_); refine goesL_ (some 48) rfl rfl Tryd.func15 (by kernel_rfl) rfl #[.int .i64 t248, .int .i64 t249, .int .i64 (wrap64 (t250 + 1))] rfl (by (try simp only [List.map_toArray, List.map_cons, List.map_nil]); first | done | rfl | (simp only [List.length_drop, List.length_take]; rfl)) ?_; (with_reducible refine (calendar_Day.calls kj8 t248 t249 (wrap64 (t250 + 1)) t256 t257 _ ?side1 A12.out).mono ?_); (case side1 => exact TabOK.below HTA.out (by repeat (first | (with_reducible first | exact HB.out | apply below_alloc | apply pw_below_drewN | apply below_drew1) | exact HB.out))); rintro e w' ⟨rfl, ⟨nd, rfl⟩⟩; refine ⟨_, rfl, ?_⟩))
                          go_ret
                          exact ⟨by first | rfl | (simp [errW_none, errW_some] <;> rfl) | (simp [*, errW_none, errW_some] <;> rfl), by repeat (first | (with_reducible first | exact HB.out | apply below_alloc | apply pw_below_drewN | apply below_drew1) | exact HB.out)⟩
                    · rw [if_neg c19] at H
                      have c19b0 : (t252 == t248) = false := beq_eq_false_iff_ne.mpr c19
                      have c19b1 : (t252 != t248) = true := bne_iff_ne.mpr c19
                      by_cases c23 : t252 = (wrap64 (t248 + 1))
                      · rw [if_pos c23] at H
                        have c23b0 : (t252 == (wrap64 (t248 + 1))) = true := beq_iff_eq.mpr c23
                        have c23b1 : (t252 != (wrap64 (t248 + 1))) = false := bne_eq_false_iff_eq.mpr c23
                        clear c23
                        by_cases c24 : t249 = 12
                        · rw [if_pos c24] at H
                          have c24b0 : (t249 == 12) = true := beq_iff_eq.mpr c24
                          have c24b1 : (t249 != 12) = false := bne_eq_false_iff_eq.mpr c24
                          clear c24
                          obtain rfl := Option.some.inj H
                          go_wp2_with (first | ((with_reducible refine gate_callee (f := 15) rfl ?_); refine goesL_ (some 48) rfl rfl Tryd.func15 (by kernel_rfl) rfl #[.int .i64 t248, .int .i64 t249, .int .i64 (wrap64 (t250 + 1))] rfl (by (try simp only [List.map_toArray, List.map_cons, List.map_nil]); first | done | rfl | (simp only [List.length_drop, List.length_take]; rfl)) ?_; (with_reducible refine (calendar_Day.calls kj8 t248 t249 (wrap64 (t250 + 1)) t256 t257 _ ?side1 A12.out).mono ?_); (case side1 => exact TabOK.below HTA.out (by repeat (first | (with_reducible first | exact HB.out | apply below_alloc | apply pw_below_drewN | apply below_drew1) | exact HB.out))); rintro e w' ⟨rfl, ⟨nd, rfl⟩⟩; refine ⟨_, rfl, ?_⟩))
                          go_ret
                          exact ⟨by first | rfl | (simp [errW_none, errW_some] <;> rfl) | (simp [*, errW_none, errW_some] <;> rfl), by repeat (first | (with_reducible first | exact HB.out | apply below_alloc | apply pw_below_drewN | apply below_drew1) | exact HB.out)⟩
                        · rw [if_neg c24] at H
                          have c24b0 : (t249 == 12) = false := beq_eq_false_iff_ne.mpr c24
                          have c24b1 : (t249 != 12) = true := bne_iff_ne.mpr c24
                          obtain rfl := Option.some.inj H
                          go_wp2_with (first | ((with_reducible refine gate_callee (f := 15) rfl ?_); refine goesL_ (some 48) rfl rfl Tryd.func15 (by kernel_rfl) rfl #[.int .i64 t248, .int .i64 t249, .int .i64 (wrap64 (t250 + 1))] rfl (by (try simp only [List.map_toArray, List.map_cons, List.map_nil]); first | done | rfl | (simp only [List.length_drop, List.length_take]; rfl)) ?_; (with_reducible refine (calendar_Day.calls kj8 t248 t249 (wrap64 (t250 + 1)) t256 t257 _ ?side1 A12.out).mono ?_); (case side1 => exact TabOK.below HTA.out (by repeat (first | (with_reducible first | exact HB.out | apply below_alloc | apply pw_below_drewN | apply below_drew1) | exact HB.out))); rintro e w' ⟨rfl, ⟨nd, rfl⟩⟩; refine ⟨_, rfl, ?_⟩))
                          go_ret
                          exact ⟨by first | rfl | (simp [errW_none, errW_some] <;> rfl) | (simp [*, errW_none, errW_some] <;> rfl), by repeat (first | (with_reducible first | exact HB.out | apply below_alloc | apply pw_below_drewN | apply below_drew1) | exact HB.out)⟩
                      · rw [if_neg c23] at H
                        have c23b0 : (t252 == (wrap64 (t248 + 1))) = false := beq_eq_false_iff_ne.mpr c23
                        have c23b1 : (t252 != (wrap64 (t248 + 1))) = true := bne_iff_ne.mpr c23
                        obtain rfl := Option.some.inj H
                        go_wp2_with (first | ((with_reducible refine gate_callee (f := 15) rfl ?_); refine goesL_ (some 48) rfl rfl Tryd.func15 (by kernel_rfl) rfl #[.int .i64 t248, .int .i64 t249, .int .i64 (wrap64 (t250 + 1))] rfl (by (try simp only [List.map_toArray, List.map_cons, List.map_nil]); first | done | rfl | (simp only [List.length_drop, List.length_take]; rfl)) ?_; (with_reducible refine (calendar_Day.calls kj8 t248 t249 (wrap64 (t250 + 1)) t256 t257 _ ?side1 A12.out).mono ?_); (case side1 => exact TabOK.below HTA.out (by repeat (first | (with_reducible first | exact HB.out | apply below_alloc | apply pw_below_drewN | apply below_drew1) | exact HB.out))); rintro e w' ⟨rfl, ⟨nd, rfl⟩⟩; refine ⟨_, rfl, ?_⟩))
                        go_ret
                        exact ⟨by first | rfl | (simp [errW_none, errW_some] <;> rfl) | (simp [*, errW_none, errW_some] <;> rfl), by repeat (first | (with_reducible first | exact HB.out | apply below_alloc | apply pw_below_drewN | apply below_drew1) | exact HB.out)⟩
                  · rw [if_neg c18] at H
                    have c18b0 : (t254 == 1) = false := beq_eq_false_iff_ne.mpr c18
                    have c18b1 : (t254 != 1) = true := bne_iff_ne.mpr c18
                    obtain rfl := Option.some.inj H
                    go_wp2_with (first | ((with_reducible refine gate_callee (f := 15) rfl ?_); refine goesL_ (some 48) rfl rfl Tryd.func15 (by kernel_rfl) rfl #[.int .i64 t248, .int .i64 t249, .int .i64 (wrap64 (t250 + 1))] rfl (by (try simp only [List.map_toArray, List.map_cons, List.map_nil]); first | done | rfl | (simp only [List.length_drop, List.length_take]; rfl)) ?_; (with_reducible refine (calendar_Day.calls kj8 t248 t249 (wrap64 (t250 + 1)) t256 t257 _ ?side1 A12.out).mono ?_); (case side1 => exact TabOK.below HTA.out (by repeat (first | (with_reducible first | exact HB.out | apply below_alloc | apply pw_below_drewN | apply below_drew1) | exact HB.out))); rintro e w' ⟨rfl, ⟨nd, rfl⟩⟩; refine ⟨_, rfl, ?_⟩))
                    go_ret
                    exact ⟨by first | rfl | (simp [errW_none, errW_some] <;> rfl) | (simp [*, errW_none, errW_some] <;> rfl), by repeat (first | (with_reducible first | exact HB.out | apply below_alloc | apply pw_below_drewN | apply below_drew1) | exact HB.out)⟩
                · replace c17 := Bool.eq_false_iff.mpr c17
                  subst c17
                  have H1 : (some false) = some r := by rw [if_neg (show ¬ (false = true) by decide)] at H; exact H
                  clear H
                  have H := H1
                  clear H1
                  obtain rfl := Option.some.inj H
                  go_wp2_with (first | ((with_reducible refine gate_callee (f := 15) rfl ?_); refine goesL_ (some 48) rfl rfl Tryd.func15 (by kernel_rfl) rfl #[.int .i64 t248, .int .i64 t249, .int .i64 (wrap64 (t250 + 1))] rfl (by (try simp only [List.map_toArray, List.map_cons, List.map_nil]); first | done | rfl | (simp only [List.length_drop, List.length_take]; rfl)) ?_; (with_reducible refine (calendar_Day.calls kj8 t248 t249 (wrap64 (t250 + 1)) t256 t257 _ ?side1 A12.out).mono ?_); (case side1 => exact TabOK.below HTA.out (by repeat (first | (with_reducible first | exact HB.out | apply below_alloc | apply pw_below_drewN | apply below_drew1) | exact HB.out))); rintro e w' ⟨rfl, ⟨nd, rfl⟩⟩; refine ⟨_, rfl, ?_⟩))
                  go_ret
                  exact ⟨by first | rfl | (simp [errW_none, errW_some] <;> rfl) | (simp [*, errW_none, errW_some] <;> rfl), by repeat (first | (with_reducible first | exact HB.out | apply below_alloc | apply pw_below_drewN | apply below_drew1) | exact HB.out)⟩

/-- THE ONE PURE STATEMENT of cohousinglaw03_CalendarSuccession: yours. -/
def cohousinglaw03_CalendarSuccession.Pure : Prop := ∀ (a0 : Int), (Lit.int .i64 a0).wf = true → ∃ k, cohousinglaw03_CalendarSuccession.f k a0 = some true
theorem cohousinglaw03_CalendarSuccession.walk (P : cohousinglaw03_CalendarSuccession.Pure) (a0 : Int) (w : World) (w0 : (Lit.int .i64 a0).wf = true) (HT : TabOK w) :
    Calls Tryd.prog 5 #[.int .i64 a0] w fun e w' => e = .returned (.bool true) ∧ Below w.heap.size w w' := by
  obtain ⟨k, h⟩ := P a0 w0
  refine (cohousinglaw03_CalendarSuccession.calls k a0 true w HT h).mono ?_
  rintro e w' ⟨rfl, hd⟩
  exact ⟨rfl, hd⟩

end Go.Proofs.YtjkpojedegmciaaDoor.Px
