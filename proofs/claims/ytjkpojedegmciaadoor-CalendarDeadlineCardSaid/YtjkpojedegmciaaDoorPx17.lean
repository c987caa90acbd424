/- Contracts of Go functions, written by a program of this session's own (wip/tools/myprint.py) out of the translation: each Go function does what the Lean function of its name says. Conditions: as each theorem states. -/
import Derived.Test.YtjkpojedegmciaaDoorPx0
import Derived.Test.YtjkpojedegmciaaDoorPx5
import Derived.Test.YtjkpojedegmciaaDoorPx6
import Derived.Test.YtjkpojedegmciaaDoorPx7
import Derived.Test.YtjkpojedegmciaaDoorPx10
namespace Go.Proofs.YtjkpojedegmciaaDoor.Px
open Go.Proofs.YtjkpojedegmciaaDoor.Given
open Go.RowKit Go.Proofs.YtjkpojedegmciaaDoorW.PrintWords Go.Proofs.YtjkpojedegmciaaDoorW.PrintLast Go.Proofs.YtjkpojedegmciaaDoorW.PrintMore
attribute [local go_sem] max2_int min2_int max_two min_two max_three min_three max_four min_four   -- for this text's walks alone
set_option linter.unusedVariables false
set_option linter.unusedSimpArgs false

/-! ### cohousinglaw03_CalendarDeadline: function 9 -/
mutual
def cohousinglaw03_CalendarDeadline.j0 : Nat → Int → Int → Int → List Int → Bool → Bool → Option (Bool)
  | 0, _, _, _, _, _, _ => none
  | k + 1, x0, x1, x2, x3, x9, x51 => if x51 = true then (some x9) else (if x2 = 2 then (cohousinglaw03_CalendarDeadline.j1 k x0 x1 x2 x3 x9 (wrap64 ((wrap64 (x0 + x1)) + 3))) else (cohousinglaw03_CalendarDeadline.j1 k x0 x1 x2 x3 x9 (wrap64 (x0 + x1))))
def cohousinglaw03_CalendarDeadline.j1 : Nat → Int → Int → Int → List Int → Bool → Int → Option (Bool)
  | 0, _, _, _, _, _, _ => none
  | k + 1, x0, x1, x2, x3, x9, x10 => (calendar_Deadline.f k x0 x1 x2 x3).bind fun bt305 => (if bt305.2 = 0 then (if bt305.1 < x10 then (cohousinglaw03_CalendarDeadline.j2 k x3 x9 x10 bt305.1 bt305.2 true) else (cohousinglaw03_CalendarDeadline.j2 k x3 x9 x10 bt305.1 bt305.2 (decide (bt305.1 > (wrap64 (x10 + 200)))))) else (if bt305.2 = 3 then (cohousinglaw03_CalendarDeadline.j2 k x3 x9 x10 bt305.1 bt305.2 false) else (cohousinglaw03_CalendarDeadline.j2 k x3 x9 x10 bt305.1 bt305.2 true)))
def cohousinglaw03_CalendarDeadline.j2 : Nat → List Int → Bool → Int → Int → Int → Bool → Option (Bool)
  | 0, _, _, _, _, _, _ => none
  | k + 1, x3, x9, x10, x11, x12, x88 => if x88 = true then (some false) else (if x12 = 3 then (cohousinglaw03_CalendarDeadline.j3 k x3 x9 x10 36525) else ((calendar_Working.f k x11 x3).bind fun bt307 => (if x9 = true then (if bt307.2 = 0 then (cohousinglaw03_CalendarDeadline.j3 k x3 bt307.1 x10 x11) else (cohousinglaw03_CalendarDeadline.j3 k x3 false x10 x11)) else (cohousinglaw03_CalendarDeadline.j3 k x3 false x10 x11))))
def cohousinglaw03_CalendarDeadline.j3 : Nat → List Int → Bool → Int → Int → Option (Bool)
  | 0, _, _, _, _ => none
  | k + 1, x3, x9, x10, x13 => cohousinglaw03_CalendarDeadline.l0 k x3 x9 x13 x10
def cohousinglaw03_CalendarDeadline.l0 : Nat → List Int → Bool → Int → Int → Option (Bool)
  | 0, _, _, _, _ => none
  | k + 1, x3, x9, x13, x16 => if x16 < x13 then ((calendar_Working.f k x16 x3).bind fun bt309 => (if bt309.2 = 0 then (if bt309.1 = true then (some false) else (cohousinglaw03_CalendarDeadline.l0 k x3 x9 x13 (wrap64 (x16 + 1)))) else (some false))) else (some x9)
end
def cohousinglaw03_CalendarDeadline.f (k : Nat) (a0 : Int) (a1 : Int) (a2 : Int) (l3 : List Int) : Option (Bool) := (cohousinglaw03_head.f k).bind fun t302 => ((cohousinglaw03_few.f l3).bind fun t303 => (if t303 = true then ((cohousingref03_Holidays.f k l3).bind fun t304 => (if t304 = true then (if a0 < 0 then (cohousinglaw03_CalendarDeadline.j0 k a0 a1 a2 l3 t302 true) else (if a0 > 36524 then (cohousinglaw03_CalendarDeadline.j0 k a0 a1 a2 l3 t302 true) else (if a1 < 0 then (cohousinglaw03_CalendarDeadline.j0 k a0 a1 a2 l3 t302 true) else (if a1 > 1000 then (cohousinglaw03_CalendarDeadline.j0 k a0 a1 a2 l3 t302 true) else (if a2 = 1 then (cohousinglaw03_CalendarDeadline.j0 k a0 a1 a2 l3 t302 false) else (cohousinglaw03_CalendarDeadline.j0 k a0 a1 a2 l3 t302 (a2 != 2))))))) else (cohousinglaw03_CalendarDeadline.j0 k a0 a1 a2 l3 t302 true))) else (cohousinglaw03_CalendarDeadline.j0 k a0 a1 a2 l3 t302 true)))
theorem cohousinglaw03_CalendarDeadline.mono_l : ∀ k, (∀ y0 y1 y2 y3 y4 y5, LeO (cohousinglaw03_CalendarDeadline.j0 k y0 y1 y2 y3 y4 y5) (cohousinglaw03_CalendarDeadline.j0 (k + 1) y0 y1 y2 y3 y4 y5)) ∧ (∀ y0 y1 y2 y3 y4 y5, LeO (cohousinglaw03_CalendarDeadline.j1 k y0 y1 y2 y3 y4 y5) (cohousinglaw03_CalendarDeadline.j1 (k + 1) y0 y1 y2 y3 y4 y5)) ∧ (∀ y0 y1 y2 y3 y4 y5, LeO (cohousinglaw03_CalendarDeadline.j2 k y0 y1 y2 y3 y4 y5) (cohousinglaw03_CalendarDeadline.j2 (k + 1) y0 y1 y2 y3 y4 y5)) ∧ (∀ y0 y1 y2 y3, LeO (cohousinglaw03_CalendarDeadline.j3 k y0 y1 y2 y3) (cohousinglaw03_CalendarDeadline.j3 (k + 1) y0 y1 y2 y3)) ∧ (∀ y0 y1 y2 y3, LeO (cohousinglaw03_CalendarDeadline.l0 k y0 y1 y2 y3) (cohousinglaw03_CalendarDeadline.l0 (k + 1) y0 y1 y2 y3))
  | 0 => ⟨fun _ _ _ _ _ _ r h => by simp [cohousinglaw03_CalendarDeadline.j0] at h, fun _ _ _ _ _ _ r h => by simp [cohousinglaw03_CalendarDeadline.j1] at h, fun _ _ _ _ _ _ r h => by simp [cohousinglaw03_CalendarDeadline.j2] at h, fun _ _ _ _ r h => by simp [cohousinglaw03_CalendarDeadline.j3] at h, fun _ _ _ _ r h => by simp [cohousinglaw03_CalendarDeadline.l0] at h⟩
  | k + 1 => by
    obtain ⟨ih0, ih1, ih2, ih3, ih4⟩ := cohousinglaw03_CalendarDeadline.mono_l k
    refine ⟨?_, ?_, ?_, ?_, ?_⟩
    · intro y0 y1 y2 y3 y4 y5
      unfold cohousinglaw03_CalendarDeadline.j0
      repeat' first
      | (with_reducible exact ih0 _ _ _ _ _ _)
      | (with_reducible exact ih1 _ _ _ _ _ _)
      | (with_reducible exact ih2 _ _ _ _ _ _)
      | (with_reducible exact ih3 _ _ _ _)
      | (with_reducible exact ih4 _ _ _ _)
      | (with_reducible exact calendar_Deadline.mono _ _ _ _ _)
      | (with_reducible exact calendar_Working.mono _ _ _)
      | (with_reducible exact cohousinglaw03_head.mono _)
      | (with_reducible exact cohousingref03_Holidays.mono _ _)
      | (with_reducible exact LeO.refl _)
      | (with_reducible exact LeO.none _)
      | (with_reducible refine LeO.ite ?_ ?_)
      | (with_reducible refine LeO.bind ?_ (fun _ => ?_))
      | exact ih0 _ _ _ _ _ _
      | exact ih1 _ _ _ _ _ _
      | exact ih2 _ _ _ _ _ _
      | exact ih3 _ _ _ _
      | exact ih4 _ _ _ _
      | exact calendar_Deadline.mono _ _ _ _ _
      | exact calendar_Working.mono _ _ _
      | exact cohousinglaw03_head.mono _
      | exact cohousingref03_Holidays.mono _ _
      | exact LeO.none _
      | refine LeO.ite ?_ ?_
      | refine LeO.bind ?_ (fun _ => ?_)
    · intro y0 y1 y2 y3 y4 y5
      unfold cohousinglaw03_CalendarDeadline.j1
      repeat' first
      | (with_reducible exact ih0 _ _ _ _ _ _)
      | (with_reducible exact ih1 _ _ _ _ _ _)
      | (with_reducible exact ih2 _ _ _ _ _ _)
      | (with_reducible exact ih3 _ _ _ _)
      | (with_reducible exact ih4 _ _ _ _)
      | (with_reducible exact calendar_Deadline.mono _ _ _ _ _)
      | (with_reducible exact calendar_Working.mono _ _ _)
      | (with_reducible exact cohousinglaw03_head.mono _)
      | (with_reducible exact cohousingref03_Holidays.mono _ _)
      | (with_reducible exact LeO.refl _)
      | (with_reducible exact LeO.none _)
      | (with_reducible refine LeO.ite ?_ ?_)
      | (with_reducible refine LeO.bind ?_ (fun _ => ?_))
      | exact ih0 _ _ _ _ _ _
      | exact ih1 _ _ _ _ _ _
      | exact ih2 _ _ _ _ _ _
      | exact ih3 _ _ _ _
      | exact ih4 _ _ _ _
      | exact calendar_Deadline.mono _ _ _ _ _
      | exact calendar_Working.mono _ _ _
      | exact cohousinglaw03_head.mono _
      | exact cohousingref03_Holidays.mono _ _
      | exact LeO.none _
      | refine LeO.ite ?_ ?_
      | refine LeO.bind ?_ (fun _ => ?_)
    · intro y0 y1 y2 y3 y4 y5
      unfold cohousinglaw03_CalendarDeadline.j2
      repeat' first
      | (with_reducible exact ih0 _ _ _ _ _ _)
      | (with_reducible exact ih1 _ _ _ _ _ _)
      | (with_reducible exact ih2 _ _ _ _ _ _)
      | (with_reducible exact ih3 _ _ _ _)
      | (with_reducible exact ih4 _ _ _ _)
      | (with_reducible exact calendar_Deadline.mono _ _ _ _ _)
      | (with_reducible exact calendar_Working.mono _ _ _)
      | (with_reducible exact cohousinglaw03_head.mono _)
      | (with_reducible exact cohousingref03_Holidays.mono _ _)
      | (with_reducible exact LeO.refl _)
      | (with_reducible exact LeO.none _)
      | (with_reducible refine LeO.ite ?_ ?_)
      | (with_reducible refine LeO.bind ?_ (fun _ => ?_))
      | exact ih0 _ _ _ _ _ _
      | exact ih1 _ _ _ _ _ _
      | exact ih2 _ _ _ _ _ _
      | exact ih3 _ _ _ _
      | exact ih4 _ _ _ _
      | exact calendar_Deadline.mono _ _ _ _ _
      | exact calendar_Working.mono _ _ _
      | exact cohousinglaw03_head.mono _
      | exact cohousingref03_Holidays.mono _ _
      | exact LeO.none _
      | refine LeO.ite ?_ ?_
      | refine LeO.bind ?_ (fun _ => ?_)
    · intro y0 y1 y2 y3
      unfold cohousinglaw03_CalendarDeadline.j3
      repeat' first
      | (with_reducible exact ih0 _ _ _ _ _ _)
      | (with_reducible exact ih1 _ _ _ _ _ _)
      | (with_reducible exact ih2 _ _ _ _ _ _)
      | (with_reducible exact ih3 _ _ _ _)
      | (with_reducible exact ih4 _ _ _ _)
      | (with_reducible exact calendar_Deadline.mono _ _ _ _ _)
      | (with_reducible exact calendar_Working.mono _ _ _)
      | (with_reducible exact cohousinglaw03_head.mono _)
      | (with_reducible exact cohousingref03_Holidays.mono _ _)
      | (with_reducible exact LeO.refl _)
      | (with_reducible exact LeO.none _)
      | (with_reducible refine LeO.ite ?_ ?_)
      | (with_reducible refine LeO.bind ?_ (fun _ => ?_))
      | exact ih0 _ _ _ _ _ _
      | exact ih1 _ _ _ _ _ _
      | exact ih2 _ _ _ _ _ _
      | exact ih3 _ _ _ _
      | exact ih4 _ _ _ _
      | exact calendar_Deadline.mono _ _ _ _ _
      | exact calendar_Working.mono _ _ _
      | exact cohousinglaw03_head.mono _
      | exact cohousingref03_Holidays.mono _ _
      | exact LeO.none _
      | refine LeO.ite ?_ ?_
      | refine LeO.bind ?_ (fun _ => ?_)
    · intro y0 y1 y2 y3
      unfold cohousinglaw03_CalendarDeadline.l0
      repeat' first
      | (with_reducible exact ih0 _ _ _ _ _ _)
      | (with_reducible exact ih1 _ _ _ _ _ _)
      | (with_reducible exact ih2 _ _ _ _ _ _)
      | (with_reducible exact ih3 _ _ _ _)
      | (with_reducible exact ih4 _ _ _ _)
      | (with_reducible exact calendar_Deadline.mono _ _ _ _ _)
      | (with_reducible exact calendar_Working.mono _ _ _)
      | (with_reducible exact cohousinglaw03_head.mono _)
      | (with_reducible exact cohousingref03_Holidays.mono _ _)
      | (with_reducible exact LeO.refl _)
      | (with_reducible exact LeO.none _)
      | (with_reducible refine LeO.ite ?_ ?_)
      | (with_reducible refine LeO.bind ?_ (fun _ => ?_))
      | exact ih0 _ _ _ _ _ _
      | exact ih1 _ _ _ _ _ _
      | exact ih2 _ _ _ _ _ _
      | exact ih3 _ _ _ _
      | exact ih4 _ _ _ _
      | exact calendar_Deadline.mono _ _ _ _ _
      | exact calendar_Working.mono _ _ _
      | exact cohousinglaw03_head.mono _
      | exact cohousingref03_Holidays.mono _ _
      | exact LeO.none _
      | refine LeO.ite ?_ ?_
      | refine LeO.bind ?_ (fun _ => ?_)
theorem cohousinglaw03_CalendarDeadline.mono : ∀ a0 a1 a2 a3 k, LeO (cohousinglaw03_CalendarDeadline.f k a0 a1 a2 a3) (cohousinglaw03_CalendarDeadline.f (k + 1) a0 a1 a2 a3) := by
  intro a0 a1 a2 a3 k
  obtain ⟨ih0, ih1, ih2, ih3, ih4⟩ := cohousinglaw03_CalendarDeadline.mono_l k
  unfold cohousinglaw03_CalendarDeadline.f
  repeat' first
      | (with_reducible exact ih0 _ _ _ _ _ _)
      | (with_reducible exact ih1 _ _ _ _ _ _)
      | (with_reducible exact ih2 _ _ _ _ _ _)
      | (with_reducible exact ih3 _ _ _ _)
      | (with_reducible exact ih4 _ _ _ _)
      | (with_reducible exact calendar_Deadline.mono _ _ _ _ _)
      | (with_reducible exact calendar_Working.mono _ _ _)
      | (with_reducible exact cohousinglaw03_head.mono _)
      | (with_reducible exact cohousingref03_Holidays.mono _ _)
      | (with_reducible exact LeO.refl _)
      | (with_reducible exact LeO.none _)
      | (with_reducible refine LeO.ite ?_ ?_)
      | (with_reducible refine LeO.bind ?_ (fun _ => ?_))
      | exact ih0 _ _ _ _ _ _
      | exact ih1 _ _ _ _ _ _
      | exact ih2 _ _ _ _ _ _
      | exact ih3 _ _ _ _
      | exact ih4 _ _ _ _
      | exact calendar_Deadline.mono _ _ _ _ _
      | exact calendar_Working.mono _ _ _
      | exact cohousinglaw03_head.mono _
      | exact cohousingref03_Holidays.mono _ _
      | exact LeO.none _
      | refine LeO.ite ?_ ?_
      | refine LeO.bind ?_ (fun _ => ?_)
set_option maxHeartbeats 8000000 in
set_option maxRecDepth 100000 in
theorem cohousinglaw03_CalendarDeadline.calls (k : Nat) (a0 : Int) (a1 : Int) (a2 : Int) (A3 : Option Addr) (c3 : Nat) (l3 : List Int) (r : Bool) (w : World) (hr3 : Kd.C (Kd.int .i64) w A3 l3.length l3) (hc3 : l3.length ≤ c3) (HT : TabOK w) (h : cohousinglaw03_CalendarDeadline.f k a0 a1 a2 l3 = some r) :
    Calls Tryd.prog 9 #[.int .i64 a0, .int .i64 a1, .int .i64 a2, .slice A3 l3.length c3] w fun e w' => e = .returned (.bool r) ∧ Below w.heap.size w w' := by
  have HTA := Aside0.mk HT
  clear HT
  have HR3 := Aside0.mk hr3
  have HC3 := Aside0.mk hc3
  clear hr3 hc3
  have HB := Aside0.mk (Below.refl w.heap.size w)
  have H : ((cohousinglaw03_head.f k).bind fun t302 => ((cohousinglaw03_few.f l3).bind fun t303 => (if t303 = true then ((cohousingref03_Holidays.f k l3).bind fun t304 => (if t304 = true then (if a0 < 0 then (cohousinglaw03_CalendarDeadline.j0 k a0 a1 a2 l3 t302 true) else (if a0 > 36524 then (cohousinglaw03_CalendarDeadline.j0 k a0 a1 a2 l3 t302 true) else (if a1 < 0 then (cohousinglaw03_CalendarDeadline.j0 k a0 a1 a2 l3 t302 true) else (if a1 > 1000 then (cohousinglaw03_CalendarDeadline.j0 k a0 a1 a2 l3 t302 true) else (if a2 = 1 then (cohousinglaw03_CalendarDeadline.j0 k a0 a1 a2 l3 t302 false) else (cohousinglaw03_CalendarDeadline.j0 k a0 a1 a2 l3 t302 (a2 != 2))))))) else (cohousinglaw03_CalendarDeadline.j0 k a0 a1 a2 l3 t302 true))) else (cohousinglaw03_CalendarDeadline.j0 k a0 a1 a2 l3 t302 true)))) = some r := h
  clear h
  replace H := Option.bind_eq_some_iff.mp H
  obtain ⟨t302, A50, H⟩ := H
  replace H : ((cohousinglaw03_few.f l3).bind fun t303 => (if t303 = true then ((cohousingref03_Holidays.f k l3).bind fun t304 => (if t304 = true then (if a0 < 0 then (cohousinglaw03_CalendarDeadline.j0 k a0 a1 a2 l3 t302 true) else (if a0 > 36524 then (cohousinglaw03_CalendarDeadline.j0 k a0 a1 a2 l3 t302 true) else (if a1 < 0 then (cohousinglaw03_CalendarDeadline.j0 k a0 a1 a2 l3 t302 true) else (if a1 > 1000 then (cohousinglaw03_CalendarDeadline.j0 k a0 a1 a2 l3 t302 true) else (if a2 = 1 then (cohousinglaw03_CalendarDeadline.j0 k a0 a1 a2 l3 t302 false) else (cohousinglaw03_CalendarDeadline.j0 k a0 a1 a2 l3 t302 (a2 != 2))))))) else (cohousinglaw03_CalendarDeadline.j0 k a0 a1 a2 l3 t302 true))) else (cohousinglaw03_CalendarDeadline.j0 k a0 a1 a2 l3 t302 true))) = some r := H
  have A5 := Aside0.mk A50
  clear A50
  have HC6 := Aside0.mk H
  clear H
  go_enter Tryd.func9, Tryd.ntmps9
  go_upto_region 2 with (first | ((with_reducible refine gate_callee (f := 11) rfl ?_); refine goesL_ (some 19) rfl rfl Tryd.func11 (by kernel_rfl) rfl #[] rfl (by (try simp only [List.map_toArray, List.map_cons, List.map_nil]); first | done | rfl | (simp only [List.length_drop, List.length_take]; rfl)) ?_; (with_reducible refine (cohousinglaw03_head.calls k  t302 _ ?side1 A5.out).mono ?_); (case side1 => exact TabOK.below HTA.out (by repeat (first | (with_reducible first | exact HB.out | apply below_alloc | apply pw_below_drewN | apply below_drew1) | exact HB.out))); rintro e w7 ⟨rfl, hb⟩; refine ⟨_, rfl, ?_⟩; have n0_ := Aside0.mk (below_step (by repeat (first | (with_reducible first | exact HB.out | apply below_alloc | apply pw_below_drewN | apply below_drew1) | exact HB.out)) hb); clear HB; have HB := n0_; clear n0_; (try clear hb); (try clear hb2); (try clear hk); (try clear hi)))
  (try simp only [Act.put, List.setIfInBounds_toArray, List.set_cons_zero, List.set_cons_succ])
  go_cut [51] (fun v51 wc => ∃ (kq : Nat) (x51_5 : Bool), v51 = .bool x51_5 ∧ Aside0 (cohousinglaw03_CalendarDeadline.j0 kq a0 a1 a2 l3 t302 x51_5 = some r) ∧ Aside0 (kq ≤ k) ∧ Aside0 (Below w.heap.size w wc))
  case first =>
    have H := HC6.out
    clear HC6
    replace H := Option.bind_eq_some_iff.mp H
    obtain ⟨t303, A80, H⟩ := H
    replace H : (if t303 = true then ((cohousingref03_Holidays.f k l3).bind fun t304 => (if t304 = true then (if a0 < 0 then (cohousinglaw03_CalendarDeadline.j0 k a0 a1 a2 l3 t302 true) else (if a0 > 36524 then (cohousinglaw03_CalendarDeadline.j0 k a0 a1 a2 l3 t302 true) else (if a1 < 0 then (cohousinglaw03_CalendarDeadline.j0 k a0 a1 a2 l3 t302 true) else (if a1 > 1000 then (cohousinglaw03_CalendarDeadline.j0 k a0 a1 a2 l3 t302 true) else (if a2 = 1 then (cohousinglaw03_CalendarDeadline.j0 k a0 a1 a2 l3 t302 false) else (cohousinglaw03_CalendarDeadline.j0 k a0 a1 a2 l3 t302 (a2 != 2))))))) else (cohousinglaw03_CalendarDeadline.j0 k a0 a1 a2 l3 t302 true))) else (cohousinglaw03_CalendarDeadline.j0 k a0 a1 a2 l3 t302 true)) = some r := H
    have A8 := Aside0.mk A80
    clear A80
    by_cases c9 : t303 = true
    · subst c9
      have H1 : ((cohousingref03_Holidays.f k l3).bind fun t304 => (if t304 = true then (if a0 < 0 then (cohousinglaw03_CalendarDeadline.j0 k a0 a1 a2 l3 t302 true) else (if a0 > 36524 then (cohousinglaw03_CalendarDeadline.j0 k a0 a1 a2 l3 t302 true) else (if a1 < 0 then (cohousinglaw03_CalendarDeadline.j0 k a0 a1 a2 l3 t302 true) else (if a1 > 1000 then (cohousinglaw03_CalendarDeadline.j0 k a0 a1 a2 l3 t302 true) else (if a2 = 1 then (cohousinglaw03_CalendarDeadline.j0 k a0 a1 a2 l3 t302 false) else (cohousinglaw03_CalendarDeadline.j0 k a0 a1 a2 l3 t302 (a2 != 2))))))) else (cohousinglaw03_CalendarDeadline.j0 k a0 a1 a2 l3 t302 true))) = some r := by rw [if_pos rfl] at H; exact H
      clear H
      have H := H1
      clear H1
      replace H := Option.bind_eq_some_iff.mp H
      obtain ⟨t304, A100, H⟩ := H
      replace H : (if t304 = true then (if a0 < 0 then (cohousinglaw03_CalendarDeadline.j0 k a0 a1 a2 l3 t302 true) else (if a0 > 36524 then (cohousinglaw03_CalendarDeadline.j0 k a0 a1 a2 l3 t302 true) else (if a1 < 0 then (cohousinglaw03_CalendarDeadline.j0 k a0 a1 a2 l3 t302 true) else (if a1 > 1000 then (cohousinglaw03_CalendarDeadline.j0 k a0 a1 a2 l3 t302 true) else (if a2 = 1 then (cohousinglaw03_CalendarDeadline.j0 k a0 a1 a2 l3 t302 false) else (cohousinglaw03_CalendarDeadline.j0 k a0 a1 a2 l3 t302 (a2 != 2))))))) else (cohousinglaw03_CalendarDeadline.j0 k a0 a1 a2 l3 t302 true)) = some r := H
      have A10 := Aside0.mk A100
      clear A100
      by_cases c11 : t304 = true
      · subst c11
        have H1 : (if a0 < 0 then (cohousinglaw03_CalendarDeadline.j0 k a0 a1 a2 l3 t302 true) else (if a0 > 36524 then (cohousinglaw03_CalendarDeadline.j0 k a0 a1 a2 l3 t302 true) else (if a1 < 0 then (cohousinglaw03_CalendarDeadline.j0 k a0 a1 a2 l3 t302 true) else (if a1 > 1000 then (cohousinglaw03_CalendarDeadline.j0 k a0 a1 a2 l3 t302 true) else (if a2 = 1 then (cohousinglaw03_CalendarDeadline.j0 k a0 a1 a2 l3 t302 false) else (cohousinglaw03_CalendarDeadline.j0 k a0 a1 a2 l3 t302 (a2 != 2))))))) = some r := by rw [if_pos rfl] at H; exact H
        clear H
        have H := H1
        clear H1
        by_cases c12 : a0 < 0
        · rw [if_pos c12] at H
          have c12b0 : decide (a0 < 0) = true := decide_eq_true c12
          clear c12
          (first | rw [c12b0] | (simp only [i64_w, i32_w]; rw [c12b0]) | skip)
          have H' := Aside0.mk H
          clear H
          go_wp2_with (first | ((with_reducible refine gate_callee (f := 12) rfl ?_); refine goesL_ (some 21) rfl rfl Tryd.func12 (by kernel_rfl) rfl #[.slice A3 l3.length c3] rfl (by (try simp only [List.map_toArray, List.map_cons, List.map_nil]); first | done | rfl | (simp only [List.length_drop, List.length_take]; rfl)) ?_; (with_reducible refine (cohousinglaw03_few.calls _ _ l3 true _ ?side1 ?side2 A8.out).mono ?_); (case side1 => repeat (first | exact (Kd.C_below HR3.out HB.out) | (with_reducible refine Kd.C_alloc ?_ _) | (with_reducible refine Kd.C_drewN ?_ _) | (with_reducible refine Kd.C_drew ?_))); (case side2 => exact HC3.out); rintro e w' ⟨rfl, ⟨nd, rfl⟩⟩; refine ⟨_, rfl, ?_⟩) | (go_at_call 27; (with_reducible refine (cohousingref03_Holidays.calls k _ _ l3 true _ ?side1 ?side2 A10.out).mono ?_); (case side1 => repeat (first | exact (Kd.C_below HR3.out (by repeat (first | (with_reducible first | exact HB.out | apply below_alloc | apply pw_below_drewN | apply below_drew1) | exact HB.out))) | (with_reducible refine Kd.C_alloc ?_ _) | (with_reducible refine Kd.C_drewN ?_ _) | (with_reducible refine Kd.C_drew ?_))); (case side2 => exact HC3.out); rintro e w' ⟨rfl, ⟨nd, rfl⟩⟩))
          go_meet
          case rel => exact ⟨_, (true), (by first | rfl | (simp; done) | (simp [*]; done)), H', ⟨by first | omega | exact Nat.le_refl _⟩, ⟨by repeat (first | (with_reducible first | exact HB.out | apply below_alloc | apply pw_below_drewN | apply below_drew1) | exact HB.out)⟩⟩
        · rw [if_neg c12] at H
          have c12b0 : decide (a0 < 0) = false := decide_eq_false c12
          clear c12
          (first | rw [c12b0] | (simp only [i64_w, i32_w]; rw [c12b0]) | skip)
          by_cases c13 : a0 > 36524
          · rw [if_pos c13] at H
            have c13b0 : decide (36524 < a0) = true := decide_eq_true c13
            clear c13
            have H' := Aside0.mk H
            clear H
            go_wp2_with (first | ((with_reducible refine gate_callee (f := 12) rfl ?_); refine goesL_ (some 21) rfl rfl Tryd.func12 (by kernel_rfl) rfl #[.slice A3 l3.length c3] rfl (by (try simp only [List.map_toArray, List.map_cons, List.map_nil]); first | done | rfl | (simp only [List.length_drop, List.length_take]; rfl)) ?_; (with_reducible refine (cohousinglaw03_few.calls _ _ l3 true _ ?side1 ?side2 A8.out).mono ?_); (case side1 => repeat (first | exact (Kd.C_below HR3.out HB.out) | (with_reducible refine Kd.C_alloc ?_ _) | (with_reducible refine Kd.C_drewN ?_ _) | (with_reducible refine Kd.C_drew ?_))); (case side2 => exact HC3.out); rintro e w' ⟨rfl, ⟨nd, rfl⟩⟩; refine ⟨_, rfl, ?_⟩) | (go_at_call 27; (with_reducible refine (cohousingref03_Holidays.calls k _ _ l3 true _ ?side1 ?side2 A10.out).mono ?_); (case side1 => repeat (first | exact (Kd.C_below HR3.out (by repeat (first | (with_reducible first | exact HB.out | apply below_alloc | apply pw_below_drewN | apply below_drew1) | exact HB.out))) | (with_reducible refine Kd.C_alloc ?_ _) | (with_reducible refine Kd.C_drewN ?_ _) | (with_reducible refine Kd.C_drew ?_))); (case side2 => exact HC3.out); rintro e w' ⟨rfl, ⟨nd, rfl⟩⟩))
            go_meet
            case rel => exact ⟨_, (true), (by first | rfl | (simp; done) | (simp [*]; done)), H', ⟨by first | omega | exact Nat.le_refl _⟩, ⟨by repeat (first | (with_reducible first | exact HB.out | apply below_alloc | apply pw_below_drewN | apply below_drew1) | exact HB.out)⟩⟩
          · rw [if_neg c13] at H
            have c13b0 : decide (36524 < a0) = false := decide_eq_false c13
            clear c13
            by_cases c14 : a1 < 0
            · rw [if_pos c14] at H
              have c14b0 : decide (a1 < 0) = true := decide_eq_true c14
              clear c14
              have H' := Aside0.mk H
              clear H
              go_wp2_with (first | ((with_reducible refine gate_callee (f := 12) rfl ?_); refine goesL_ (some 21) rfl rfl Tryd.func12 (by kernel_rfl) rfl #[.slice A3 l3.length c3] rfl (by (try simp only [List.map_toArray, List.map_cons, List.map_nil]); first | done | rfl | (simp only [List.length_drop, List.length_take]; rfl)) ?_; (with_reducible refine (cohousinglaw03_few.calls _ _ l3 true _ ?side1 ?side2 A8.out).mono ?_); (case side1 => repeat (first | exact (Kd.C_below HR3.out HB.out) | (with_reducible refine Kd.C_alloc ?_ _) | (with_reducible refine Kd.C_drewN ?_ _) | (with_reducible refine Kd.C_drew ?_))); (case side2 => exact HC3.out); rintro e w' ⟨rfl, ⟨nd, rfl⟩⟩; refine ⟨_, rfl, ?_⟩) | (go_at_call 27; (with_reducible refine (cohousingref03_Holidays.calls k _ _ l3 true _ ?side1 ?side2 A10.out).mono ?_); (case side1 => repeat (first | exact (Kd.C_below HR3.out (by repeat (first | (with_reducible first | exact HB.out | apply below_alloc | apply pw_below_drewN | apply below_drew1) | exact HB.out))) | (with_reducible refine Kd.C_alloc ?_ _) | (with_reducible refine Kd.C_drewN ?_ _) | (with_reducible refine Kd.C_drew ?_))); (case side2 => exact HC3.out); rintro e w' ⟨rfl, ⟨nd, rfl⟩⟩))
              go_meet
              case rel => exact ⟨_, (true), (by first | rfl | (simp; done) | (simp [*]; done)), H', ⟨by first | omega | exact Nat.le_refl _⟩, ⟨by repeat (first | (with_reducible first | exact HB.out | apply below_alloc | apply pw_below_drewN | apply below_drew1) | exact HB.out)⟩⟩
            · rw [if_neg c14] at H
              have c14b0 : decide (a1 < 0) = false := decide_eq_false c14
              clear c14
              by_cases c15 : a1 > 1000
              · rw [if_pos c15] at H
                have c15b0 : decide (1000 < a1) = true := decide_eq_true c15
                clear c15
                have H' := Aside0.mk H
                clear H
                go_wp2_with (first | ((with_reducible refine gate_callee (f := 12) rfl ?_); refine goesL_ (some 21) rfl rfl Tryd.func12 (by kernel_rfl) rfl #[.slice A3 l3.length c3] rfl (by (try simp only [List.map_toArray, List.map_cons, List.map_nil]); first | done | rfl | (simp only [List.length_drop, List.length_take]; rfl)) ?_; (with_reducible refine (cohousinglaw03_few.calls _ _ l3 true _ ?side1 ?side2 A8.out).mono ?_); (case side1 => repeat (first | exact (Kd.C_below HR3.out HB.out) | (with_reducible refine Kd.C_alloc ?_ _) | (with_reducible refine Kd.C_drewN ?_ _) | (with_reducible refine Kd.C_drew ?_))); (case side2 => exact HC3.out); rintro e w' ⟨rfl, ⟨nd, rfl⟩⟩; refine ⟨_, rfl, ?_⟩) | (go_at_call 27; (with_reducible refine (cohousingref03_Holidays.calls k _ _ l3 true _ ?side1 ?side2 A10.out).mono ?_); (case side1 => repeat (first | exact (Kd.C_below HR3.out (by repeat (first | (with_reducible first | exact HB.out | apply below_alloc | apply pw_below_drewN | apply below_drew1) | exact HB.out))) | (with_reducible refine Kd.C_alloc ?_ _) | (with_reducible refine Kd.C_drewN ?_ _) | (with_reducible refine Kd.C_drew ?_))); (case side2 => exact HC3.out); rintro e w' ⟨rfl, ⟨nd, rfl⟩⟩))
                go_meet
                case rel => exact ⟨_, (true), (by first | rfl | (simp; done) | (simp [*]; done)), H', ⟨by first | omega | exact Nat.le_refl _⟩, ⟨by repeat (first | (with_reducible first | exact HB.out | apply below_alloc | apply pw_below_drewN | apply below_drew1) | exact HB.out)⟩⟩
              · rw [if_neg c15] at H
                have c15b0 : decide (1000 < a1) = false := decide_eq_false c15
                clear c15
                by_cases c16 : a2 = 1
                · rw [if_pos c16] at H
                  have c16b0 : (a2 == 1) = true := beq_iff_eq.mpr c16
                  have c16b1 : (a2 != 1) = false := bne_eq_false_iff_eq.mpr c16
                  clear c16
                  have H' := Aside0.mk H
                  clear H
                  go_wp2_with (first | ((with_reducible refine gate_callee (f := 12) rfl ?_); refine goesL_ (some 21) rfl rfl Tryd.func12 (by kernel_rfl) rfl #[.slice A3 l3.length c3] rfl (by (try simp only [List.map_toArray, List.map_cons, List.map_nil]); first | done | rfl | (simp only [List.length_drop, List.length_take]; rfl)) ?_; (with_reducible refine (cohousinglaw03_few.calls _ _ l3 true _ ?side1 ?side2 A8.out).mono ?_); (case side1 => repeat (first | exact (Kd.C_below HR3.out HB.out) | (with_reducible refine Kd.C_alloc ?_ _) | (with_reducible refine Kd.C_drewN ?_ _) | (with_reducible refine Kd.C_drew ?_))); (case side2 => exact HC3.out); rintro e w' ⟨rfl, ⟨nd, rfl⟩⟩; refine ⟨_, rfl, ?_⟩) | (go_at_call 27; (with_reducible refine (cohousingref03_Holidays.calls k _ _ l3 true _ ?side1 ?side2 A10.out).mono ?_); (case side1 => repeat (first | exact (Kd.C_below HR3.out (by repeat (first | (with_reducible first | exact HB.out | apply below_alloc | apply pw_below_drewN | apply below_drew1) | exact HB.out))) | (with_reducible refine Kd.C_alloc ?_ _) | (with_reducible refine Kd.C_drewN ?_ _) | (with_reducible refine Kd.C_drew ?_))); (case side2 => exact HC3.out); rintro e w' ⟨rfl, ⟨nd, rfl⟩⟩))
                  go_meet
                  case rel => exact ⟨_, (false), (by first | rfl | (simp; done) | (simp [*]; done)), H', ⟨by first | omega | exact Nat.le_refl _⟩, ⟨by repeat (first | (with_reducible first | exact HB.out | apply below_alloc | apply pw_below_drewN | apply below_drew1) | exact HB.out)⟩⟩
                · rw [if_neg c16] at H
                  have c16b0 : (a2 == 1) = false := beq_eq_false_iff_ne.mpr c16
                  have c16b1 : (a2 != 1) = true := bne_iff_ne.mpr c16
                  have H' := Aside0.mk H
                  clear H
                  go_wp2_with (first | ((with_reducible refine gate_callee (f := 12) rfl ?_); refine goesL_ (some 21) rfl rfl Tryd.func12 (by kernel_rfl) rfl #[.slice A3 l3.length c3] rfl (by (try simp only [List.map_toArray, List.map_cons, List.map_nil]); first | done | rfl | (simp only [List.length_drop, List.length_take]; rfl)) ?_; (with_reducible refine (cohousinglaw03_few.calls _ _ l3 true _ ?side1 ?side2 A8.out).mono ?_); (case side1 => repeat (first | exact (Kd.C_below HR3.out HB.out) | (with_reducible refine Kd.C_alloc ?_ _) | (with_reducible refine Kd.C_drewN ?_ _) | (with_reducible refine Kd.C_drew ?_))); (case side2 => exact HC3.out); rintro e w' ⟨rfl, ⟨nd, rfl⟩⟩; refine ⟨_, rfl, ?_⟩) | (go_at_call 27; (with_reducible refine (cohousingref03_Holidays.calls k _ _ l3 true _ ?side1 ?side2 A10.out).mono ?_); (case side1 => repeat (first | exact (Kd.C_below HR3.out (by repeat (first | (with_reducible first | exact HB.out | apply below_alloc | apply pw_below_drewN | apply below_drew1) | exact HB.out))) | (with_reducible refine Kd.C_alloc ?_ _) | (with_reducible refine Kd.C_drewN ?_ _) | (with_reducible refine Kd.C_drew ?_))); (case side2 => exact HC3.out); rintro e w' ⟨rfl, ⟨nd, rfl⟩⟩))
                  go_meet
                  case rel => exact ⟨_, ((a2 != 2)), (by first | rfl | (simp; done) | (simp [*]; done)), H', ⟨by first | omega | exact Nat.le_refl _⟩, ⟨by repeat (first | (with_reducible first | exact HB.out | apply below_alloc | apply pw_below_drewN | apply below_drew1) | exact HB.out)⟩⟩
      · replace c11 := Bool.eq_false_iff.mpr c11
        subst c11
        have H1 : (cohousinglaw03_CalendarDeadline.j0 k a0 a1 a2 l3 t302 true) = some r := by rw [if_neg (show ¬ (false = true) by decide)] at H; exact H
        clear H
        have H := H1
        clear H1
        have H' := Aside0.mk H
        clear H
        go_wp2_with (first | ((with_reducible refine gate_callee (f := 12) rfl ?_); refine goesL_ (some 21) rfl rfl Tryd.func12 (by kernel_rfl) rfl #[.slice A3 l3.length c3] rfl (by (try simp only [List.map_toArray, List.map_cons, List.map_nil]); first | done | rfl | (simp only [List.length_drop, List.length_take]; rfl)) ?_; (with_reducible refine (cohousinglaw03_few.calls _ _ l3 true _ ?side1 ?side2 A8.out).mono ?_); (case side1 => repeat (first | exact (Kd.C_below HR3.out HB.out) | (with_reducible refine Kd.C_alloc ?_ _) | (with_reducible refine Kd.C_drewN ?_ _) | (with_reducible refine Kd.C_drew ?_))); (case side2 => exact HC3.out); rintro e w' ⟨rfl, ⟨nd, rfl⟩⟩; refine ⟨_, rfl, ?_⟩) | (go_at_call 27; (with_reducible refine (cohousingref03_Holidays.calls k _ _ l3 false _ ?side1 ?side2 A10.out).mono ?_); (case side1 => repeat (first | exact (Kd.C_below HR3.out (by repeat (first | (with_reducible first | exact HB.out | apply below_alloc | apply pw_below_drewN | apply below_drew1) | exact HB.out))) | (with_reducible refine Kd.C_alloc ?_ _) | (with_reducible refine Kd.C_drewN ?_ _) | (with_reducible refine Kd.C_drew ?_))); (case side2 => exact HC3.out); rintro e w' ⟨rfl, ⟨nd, rfl⟩⟩))
        go_meet
        case rel => exact ⟨_, (true), (by first | rfl | (simp; done) | (simp [*]; done)), H', ⟨by first | omega | exact Nat.le_refl _⟩, ⟨by repeat (first | (with_reducible first | exact HB.out | apply below_alloc | apply pw_below_drewN | apply below_drew1) | exact HB.out)⟩⟩
    · replace c9 := Bool.eq_false_iff.mpr c9
      subst c9
      have H1 : (cohousinglaw03_CalendarDeadline.j0 k a0 a1 a2 l3 t302 true) = some r := by rw [if_neg (show ¬ (false = true) by decide)] at H; exact H
      clear H
      have H := H1
      clear H1
      have H' := Aside0.mk H
      clear H
      go_wp2_with (first | ((with_reducible refine gate_callee (f := 12) rfl ?_); refine goesL_ (some 21) rfl rfl Tryd.func12 (by kernel_rfl) rfl #[.slice A3 l3.length c3] rfl (by (try simp only [List.map_toArray, List.map_cons, List.map_nil]); first | done | rfl | (simp only [List.length_drop, List.length_take]; rfl)) ?_; (with_reducible refine (cohousinglaw03_few.calls _ _ l3 false _ ?side1 ?side2 A8.out).mono ?_); (case side1 => repeat (first | exact (Kd.C_below HR3.out HB.out) | (with_reducible refine Kd.C_alloc ?_ _) | (with_reducible refine Kd.C_drewN ?_ _) | (with_reducible refine Kd.C_drew ?_))); (case side2 => exact HC3.out); rintro e w' ⟨rfl, ⟨nd, rfl⟩⟩; refine ⟨_, rfl, ?_⟩))
      go_meet
      case rel => exact ⟨_, (true), (by first | rfl | (simp; done) | (simp [*]; done)), H', ⟨by first | omega | exact Nat.le_refl _⟩, ⟨by repeat (first | (with_reducible first | exact HB.out | apply below_alloc | apply pw_below_drewN | apply below_drew1) | exact HB.out)⟩⟩
  case rest =>
    clear HC6
    try clear c1
    try clear p2
    try clear c3
    try clear c9
    try clear c11
    try clear c12
    try clear c12b0
    try clear c13
    try clear c13b0
    try clear c14
    try clear c14b0
    try clear c15
    try clear c15b0
    try clear c16
    try clear c16b0
    try clear c16b1
    obtain ⟨kq, x51_5, rfl, HA, HJ5, HB⟩ := hcut
    cases kq with
    | zero => exact absurd HA.out (by simp [cohousinglaw03_CalendarDeadline.j0])
    | succ kj5 =>
      have H := HA.out
      clear HA
      simp only [cohousinglaw03_CalendarDeadline.j0] at H
      by_cases c17 : x51_5 = true
      · subst c17
        have H1 : (some t302) = some r := by rw [if_pos rfl] at H; exact H
        clear H
        have H := H1
        clear H1
        obtain rfl := Option.some.inj H
        go_wp2
        go_ret
        exact ⟨by first | rfl | (simp [errW_none, errW_some] <;> rfl) | (simp [*, errW_none, errW_some] <;> rfl), by repeat (first | (with_reducible first | exact HB.out | apply below_alloc | apply pw_below_drewN | apply below_drew1) | exact HB.out)⟩
      · replace c17 := Bool.eq_false_iff.mpr c17
        subst c17
        have H1 : (if a2 = 2 then (cohousinglaw03_CalendarDeadline.j1 kj5 a0 a1 a2 l3 t302 (wrap64 ((wrap64 (a0 + a1)) + 3))) else (cohousinglaw03_CalendarDeadline.j1 kj5 a0 a1 a2 l3 t302 (wrap64 (a0 + a1)))) = some r := by rw [if_neg (show ¬ (false = true) by decide)] at H; exact H
        clear H
        have H := H1
        clear H1
        have HC18 := Aside0.mk H
        clear H
        go_upto_if 57 with (fail)
        go_cut [10] (fun v10 wc => ∃ (kq : Nat) (x10_17 : Int), v10 = .int .i64 x10_17 ∧ Aside0 (cohousinglaw03_CalendarDeadline.j1 kq a0 a1 a2 l3 t302 x10_17 = some r) ∧ Aside0 (kq ≤ kj5) ∧ Aside0 (Below w.heap.size w wc))
        case first =>
          have H := HC18.out
          clear HC18
          by_cases c19 : a2 = 2
          · rw [if_pos c19] at H
            have c19b0 : (a2 == 2) = true := beq_iff_eq.mpr c19
            have c19b1 : (a2 != 2) = false := bne_eq_false_iff_eq.mpr c19
            clear c19
            (first | rw [c19b0] | (simp only [i64_w, i32_w]; rw [c19b0]) | skip)
            have H' := Aside0.mk H
            clear H
            go_wp2
            go_meet
            case rel => exact ⟨_, (wrap64 ((wrap64 (a0 + a1)) + 3)), (by first | rfl | (simp; done) | (simp [*]; done)), H', ⟨by have := HJ5.out; first | omega | exact Nat.le_refl _⟩, ⟨by repeat (first | (with_reducible first | exact HB.out | apply below_alloc | apply pw_below_drewN | apply below_drew1) | exact HB.out)⟩⟩
          · rw [if_neg c19] at H
            have c19b0 : (a2 == 2) = false := beq_eq_false_iff_ne.mpr c19
            have c19b1 : (a2 != 2) = true := bne_iff_ne.mpr c19
            (first | rw [c19b0] | (simp only [i64_w, i32_w]; rw [c19b0]) | skip)
            have H' := Aside0.mk H
            clear H
            go_wp2
            go_meet
            case rel => exact ⟨_, (wrap64 (a0 + a1)), (by first | rfl | (simp; done) | (simp [*]; done)), H', ⟨by have := HJ5.out; first | omega | exact Nat.le_refl _⟩, ⟨by repeat (first | (with_reducible first | exact HB.out | apply below_alloc | apply pw_below_drewN | apply below_drew1) | exact HB.out)⟩⟩
        case rest =>
          clear HC18
          try clear c1
          try clear p2
          try clear c3
          try clear p6
          try clear c9
          try clear c11
          try clear c12
          try clear c12b0
          try clear c13
          try clear c13b0
          try clear c14
          try clear c14b0
          try clear c15
          try clear c15b0
          try clear c16
          try clear c16b0
          try clear c16b1
          try clear c17
          try clear c19
          try clear c19b0
          try clear c19b1
          try clear p2
          obtain ⟨kq, x10_17, rfl, HA, HJ17, HB⟩ := hcut
          cases kq with
          | zero => exact absurd HA.out (by simp [cohousinglaw03_CalendarDeadline.j1])
          | succ kj17 =>
            have H := HA.out
            clear HA
            simp only [cohousinglaw03_CalendarDeadline.j1] at H
            replace H := Option.bind_eq_some_iff.mp H
            obtain ⟨⟨t305, t306⟩, A200, H⟩ := H
            replace H : (if t306 = 0 then (if t305 < x10_17 then (cohousinglaw03_CalendarDeadline.j2 kj17 l3 t302 x10_17 t305 t306 true) else (cohousinglaw03_CalendarDeadline.j2 kj17 l3 t302 x10_17 t305 t306 (decide (t305 > (wrap64 (x10_17 + 200)))))) else (if t306 = 3 then (cohousinglaw03_CalendarDeadline.j2 kj17 l3 t302 x10_17 t305 t306 false) else (cohousinglaw03_CalendarDeadline.j2 kj17 l3 t302 x10_17 t305 t306 true))) = some r := H
            have A20 := Aside0.mk A200
            clear A200
            have HC21 := Aside0.mk H
            clear H
            go_upto_region 8 with (first | ((with_reducible refine gate_callee (f := 25) rfl ?_); refine goesL_ (some 65) rfl rfl Tryd.func25 (by kernel_rfl) rfl #[.int .i64 a0, .int .i64 a1, .int .i64 a2, .slice A3 l3.length c3] rfl (by (try simp only [List.map_toArray, List.map_cons, List.map_nil]); first | done | rfl | (simp only [List.length_drop, List.length_take]; rfl)) ?_; (with_reducible refine (calendar_Deadline.calls kj17 a0 a1 a2 _ _ l3 t305 t306 _ ?side1 ?side2 A20.out).mono ?_); (case side1 => repeat (first | exact (Kd.C_below HR3.out HB.out) | (with_reducible refine Kd.C_alloc ?_ _) | (with_reducible refine Kd.C_drewN ?_ _) | (with_reducible refine Kd.C_drew ?_))); (case side2 => exact HC3.out); rintro e w' ⟨rfl, ⟨nd, rfl⟩⟩; refine ⟨_, rfl, ?_⟩))
            (try simp only [Act.put, List.setIfInBounds_toArray, List.set_cons_zero, List.set_cons_succ])
            go_cut [88] (fun v88 wc => ∃ (kq : Nat) (x88_20 : Bool), v88 = .bool x88_20 ∧ Aside0 (cohousinglaw03_CalendarDeadline.j2 kq l3 t302 x10_17 t305 t306 x88_20 = some r) ∧ Aside0 (kq ≤ kj17) ∧ Aside0 (Below w.heap.size w wc))
            case first =>
              have H := HC21.out
              clear HC21
              by_cases c22 : t306 = 0
              · rw [if_pos c22] at H
                have c22b0 : (t306 == 0) = true := beq_iff_eq.mpr c22
                have c22b1 : (t306 != 0) = false := bne_eq_false_iff_eq.mpr c22
                clear c22
                (first | rw [c22b0] | (simp only [i64_w, i32_w]; rw [c22b0]) | skip)
                by_cases c23 : t305 < x10_17
                · rw [if_pos c23] at H
                  have c23b0 : decide (t305 < x10_17) = true := decide_eq_true c23
                  clear c23
                  have H' := Aside0.mk H
                  clear H
                  go_wp2
                  go_meet
                  case rel => exact ⟨_, (true), (by first | rfl | (simp; done) | (simp [*]; done)), H', ⟨by have := HJ5.out; have := HJ17.out; first | omega | exact Nat.le_refl _⟩, ⟨by repeat (first | (with_reducible first | exact HB.out | apply below_alloc | apply pw_below_drewN | apply below_drew1) | exact HB.out)⟩⟩
                · rw [if_neg c23] at H
                  have c23b0 : decide (t305 < x10_17) = false := decide_eq_false c23
                  clear c23
                  have H' := Aside0.mk H
                  clear H
                  go_wp2
                  go_meet
                  case rel => exact ⟨_, (decide (t305 > (wrap64 (x10_17 + 200)))), (by first | rfl | (simp; done) | (simp [*]; done)), H', ⟨by have := HJ5.out; have := HJ17.out; first | omega | exact Nat.le_refl _⟩, ⟨by repeat (first | (with_reducible first | exact HB.out | apply below_alloc | apply pw_below_drewN | apply below_drew1) | exact HB.out)⟩⟩
              · rw [if_neg c22] at H
                have c22b0 : (t306 == 0) = false := beq_eq_false_iff_ne.mpr c22
                have c22b1 : (t306 != 0) = true := bne_iff_ne.mpr c22
                (first | rw [c22b0] | (simp only [i64_w, i32_w]; rw [c22b0]) | skip)
                by_cases c24 : t306 = 3
                · rw [if_pos c24] at H
                  have c24b0 : (t306 == 3) = true := beq_iff_eq.mpr c24
                  have c24b1 : (t306 != 3) = false := bne_eq_false_iff_eq.mpr c24
                  clear c24
                  have H' := Aside0.mk H
                  clear H
                  go_wp2
                  go_meet
                  case rel => exact ⟨_, (false), (by first | rfl | (simp; done) | (simp [*]; done)), H', ⟨by have := HJ5.out; have := HJ17.out; first | omega | exact Nat.le_refl _⟩, ⟨by repeat (first | (with_reducible first | exact HB.out | apply below_alloc | apply pw_below_drewN | apply below_drew1) | exact HB.out)⟩⟩
                · rw [if_neg c24] at H
                  have c24b0 : (t306 == 3) = false := beq_eq_false_iff_ne.mpr c24
                  have c24b1 : (t306 != 3) = true := bne_iff_ne.mpr c24
                  have H' := Aside0.mk H
                  clear H
                  go_wp2
                  go_meet
                  case rel => exact ⟨_, (true), (by first | rfl | (simp; done) | (simp [*]; done)), H', ⟨by have := HJ5.out; have := HJ17.out; first | omega | exact Nat.le_refl _⟩, ⟨by repeat (first | (with_reducible first | exact HB.out | apply below_alloc | apply pw_below_drewN | apply below_drew1) | exact HB.out)⟩⟩
            case rest =>
              clear HC21
              try clear c1
              try clear c2
              try clear p2
              try clear c3
              try clear p6
              try clear c9
              try clear c11
              try clear c12
              try clear c12b0
              try clear c13
              try clear c13b0
              try clear c14
              try clear c14b0
              try clear c15
              try clear c15b0
              try clear c16
              try clear c16b0
              try clear c16b1
              try clear c17
              try clear c19
              try clear c19b0
              try clear c19b1
              try clear c22
              try clear c22b0
              try clear c22b1
              try clear c23
              try clear c23b0
              try clear c24
              try clear c24b0
              try clear c24b1
              try clear p2
              try clear p6
              obtain ⟨kq, x88_20, rfl, HA, HJ20, HB⟩ := hcut
              cases kq with
              | zero => exact absurd HA.out (by simp [cohousinglaw03_CalendarDeadline.j2])
              | succ kj20 =>
                have H := HA.out
                clear HA
                simp only [cohousinglaw03_CalendarDeadline.j2] at H
                by_cases c25 : x88_20 = true
                · subst c25
                  have H1 : (some false) = some r := by rw [if_pos rfl] at H; exact H
                  clear H
                  have H := H1
                  clear H1
                  obtain rfl := Option.some.inj H
                  go_wp2
                  go_ret
                  exact ⟨by first | rfl | (simp [errW_none, errW_some] <;> rfl) | (simp [*, errW_none, errW_some] <;> rfl), by repeat (first | (with_reducible first | exact HB.out | apply below_alloc | apply pw_below_drewN | apply below_drew1) | exact HB.out)⟩
                · replace c25 := Bool.eq_false_iff.mpr c25
                  subst c25
                  have H1 : (if t306 = 3 then (cohousinglaw03_CalendarDeadline.j3 kj20 l3 t302 x10_17 36525) else ((calendar_Working.f kj20 t305 l3).bind fun bt307 => (if t302 = true then (if bt307.2 = 0 then (cohousinglaw03_CalendarDeadline.j3 kj20 l3 bt307.1 x10_17 t305) else (cohousinglaw03_CalendarDeadline.j3 kj20 l3 false x10_17 t305)) else (cohousinglaw03_CalendarDeadline.j3 kj20 l3 false x10_17 t305)))) = some r := by rw [if_neg (show ¬ (false = true) by decide)] at H; exact H
                  clear H
                  have H := H1
                  clear H1
                  have HC26 := Aside0.mk H
                  clear H
                  go_upto_if 91 with (fail)
                  go_cut [9, 13] (fun v9 v13 wc => ∃ (kq : Nat) (x9_25 : Bool) (x13_25 : Int), v9 = .bool x9_25 ∧ v13 = .int .i64 x13_25 ∧ Aside0 (cohousinglaw03_CalendarDeadline.j3 kq l3 x9_25 x10_17 x13_25 = some r) ∧ Aside0 (kq ≤ kj20) ∧ Aside0 (Below w.heap.size w wc))
                  case first =>
                    have H := HC26.out
                    clear HC26
                    by_cases c27 : t306 = 3
                    · rw [if_pos c27] at H
                      have c27b0 : (t306 == 3) = true := beq_iff_eq.mpr c27
                      have c27b1 : (t306 != 3) = false := bne_eq_false_iff_eq.mpr c27
                      clear c27
                      (first | rw [c27b0] | (simp only [i64_w, i32_w]; rw [c27b0]) | skip)
                      have H' := Aside0.mk H
                      clear H
                      go_wp2
                      go_meet
                      case rel => exact ⟨_, (t302), (36525), (by first | rfl | (simp; done) | (simp [*]; done)), (by first | rfl | (simp; done) | (simp [*]; done)), H', ⟨by have := HJ5.out; have := HJ17.out; have := HJ20.out; first | omega | exact Nat.le_refl _⟩, ⟨by repeat (first | (with_reducible first | exact HB.out | apply below_alloc | apply pw_below_drewN | apply below_drew1) | exact HB.out)⟩⟩
                    · rw [if_neg c27] at H
                      have c27b0 : (t306 == 3) = false := beq_eq_false_iff_ne.mpr c27
                      have c27b1 : (t306 != 3) = true := bne_iff_ne.mpr c27
                      (first | rw [c27b0] | (simp only [i64_w, i32_w]; rw [c27b0]) | skip)
                      replace H := Option.bind_eq_some_iff.mp H
                      obtain ⟨⟨t307, t308⟩, A280, H⟩ := H
                      replace H : (if t302 = true then (if t308 = 0 then (cohousinglaw03_CalendarDeadline.j3 kj20 l3 t307 x10_17 t305) else (cohousinglaw03_CalendarDeadline.j3 kj20 l3 false x10_17 t305)) else (cohousinglaw03_CalendarDeadline.j3 kj20 l3 false x10_17 t305)) = some r := H
                      have A28 := Aside0.mk A280
                      clear A280
                      by_cases c29 : t302 = true
                      · subst c29
                        have H1 : (if t308 = 0 then (cohousinglaw03_CalendarDeadline.j3 kj20 l3 t307 x10_17 t305) else (cohousinglaw03_CalendarDeadline.j3 kj20 l3 false x10_17 t305)) = some r := by rw [if_pos rfl] at H; exact H
                        clear H
                        have H := H1
                        clear H1
                        by_cases c30 : t308 = 0
                        · rw [if_pos c30] at H
                          have c30b0 : (t308 == 0) = true := beq_iff_eq.mpr c30
                          have c30b1 : (t308 != 0) = false := bne_eq_false_iff_eq.mpr c30
                          clear c30
                          have H' := Aside0.mk H
                          clear H
                          go_wp2_with (first | ((with_reducible refine gate_callee (f := 23) rfl ?_); refine goesL_ (some 95) rfl rfl Tryd.func23 (by kernel_rfl) rfl #[.int .i64 t305, .slice A3 l3.length c3] rfl (by (try simp only [List.map_toArray, List.map_cons, List.map_nil]); first | done | rfl | (simp only [List.length_drop, List.length_take]; rfl)) ?_; (with_reducible refine (calendar_Working.calls kj20 t305 _ _ l3 t307 t308 _ ?side1 ?side2 A28.out).mono ?_); (case side1 => repeat (first | exact (Kd.C_below HR3.out HB.out) | (with_reducible refine Kd.C_alloc ?_ _) | (with_reducible refine Kd.C_drewN ?_ _) | (with_reducible refine Kd.C_drew ?_))); (case side2 => exact HC3.out); rintro e w' ⟨rfl, ⟨nd, rfl⟩⟩; refine ⟨_, rfl, ?_⟩))
                          go_meet
                          case rel => exact ⟨_, (t307), (t305), (by first | rfl | (simp; done) | (simp [*]; done)), (by first | rfl | (simp; done) | (simp [*]; done)), H', ⟨by have := HJ5.out; have := HJ17.out; have := HJ20.out; first | omega | exact Nat.le_refl _⟩, ⟨by repeat (first | (with_reducible first | exact HB.out | apply below_alloc | apply pw_below_drewN | apply below_drew1) | exact HB.out)⟩⟩
                        · rw [if_neg c30] at H
                          have c30b0 : (t308 == 0) = false := beq_eq_false_iff_ne.mpr c30
                          have c30b1 : (t308 != 0) = true := bne_iff_ne.mpr c30
                          have H' := Aside0.mk H
                          clear H
                          go_wp2_with (first | ((with_reducible refine gate_callee (f := 23) rfl ?_); refine goesL_ (some 95) rfl rfl Tryd.func23 (by kernel_rfl) rfl #[.int .i64 t305, .slice A3 l3.length c3] rfl (by (try simp only [List.map_toArray, List.map_cons, List.map_nil]); first | done | rfl | (simp only [List.length_drop, List.length_take]; rfl)) ?_; (with_reducible refine (calendar_Working.calls kj20 t305 _ _ l3 t307 t308 _ ?side1 ?side2 A28.out).mono ?_); (case side1 => repeat (first | exact (Kd.C_below HR3.out HB.out) | (with_reducible refine Kd.C_alloc ?_ _) | (with_reducible refine Kd.C_drewN ?_ _) | (with_reducible refine Kd.C_drew ?_))); (case side2 => exact HC3.out); rintro e w' ⟨rfl, ⟨nd, rfl⟩⟩; refine ⟨_, rfl, ?_⟩))
                          go_meet
                          case rel => exact ⟨_, (false), (t305), (by first | rfl | (simp; done) | (simp [*]; done)), (by first | rfl | (simp; done) | (simp [*]; done)), H', ⟨by have := HJ5.out; have := HJ17.out; have := HJ20.out; first | omega | exact Nat.le_refl _⟩, ⟨by repeat (first | (with_reducible first | exact HB.out | apply below_alloc | apply pw_below_drewN | apply below_drew1) | exact HB.out)⟩⟩
                      · replace c29 := Bool.eq_false_iff.mpr c29
                        subst c29
                        have H1 : (cohousinglaw03_CalendarDeadline.j3 kj20 l3 false x10_17 t305) = some r := by rw [if_neg (show ¬ (false = true) by decide)] at H; exact H
                        clear H
                        have H := H1
                        clear H1
                        have H' := Aside0.mk H
                        clear H
                        go_wp2_with (first | ((with_reducible refine gate_callee (f := 23) rfl ?_); refine goesL_ (some 95) rfl rfl Tryd.func23 (by kernel_rfl) rfl #[.int .i64 t305, .slice A3 l3.length c3] rfl (by (try simp only [List.map_toArray, List.map_cons, List.map_nil]); first | done | rfl | (simp only [List.length_drop, List.length_take]; rfl)) ?_; (with_reducible refine (calendar_Working.calls kj20 t305 _ _ l3 t307 t308 _ ?side1 ?side2 A28.out).mono ?_); (case side1 => repeat (first | exact (Kd.C_below HR3.out HB.out) | (with_reducible refine Kd.C_alloc ?_ _) | (with_reducible refine Kd.C_drewN ?_ _) | (with_reducible refine Kd.C_drew ?_))); (case side2 => exact HC3.out); rintro e w' ⟨rfl, ⟨nd, rfl⟩⟩; refine ⟨_, rfl, ?_⟩))
                        go_meet
                        case rel => exact ⟨_, (false), (t305), (by first | rfl | (simp; done) | (simp [*]; done)), (by first | rfl | (simp; done) | (simp [*]; done)), H', ⟨by have := HJ5.out; have := HJ17.out; have := HJ20.out; first | omega | exact Nat.le_refl _⟩, ⟨by repeat (first | (with_reducible first | exact HB.out | apply below_alloc | apply pw_below_drewN | apply below_drew1) | exact HB.out)⟩⟩
                  case rest =>
                    clear HC26
                    try clear c1
                    try clear c2
                    try clear p2
                    try clear c3
                    try clear p6
                    try clear c9
                    try clear c11
                    try clear c12
                    try clear c12b0
                    try clear c13
                    try clear c13b0
                    try clear c14
                    try clear c14b0
                    try clear c15
                    try clear c15b0
                    try clear c16
                    try clear c16b0
                    try clear c16b1
                    try clear c17
                    try clear c19
                    try clear c19b0
                    try clear c19b1
                    try clear c22
                    try clear c22b0
                    try clear c22b1
                    try clear c23
                    try clear c23b0
                    try clear c24
                    try clear c24b0
                    try clear c24b1
                    try clear c25
                    try clear c27
                    try clear c27b0
                    try clear c27b1
                    try clear c29
                    try clear c30
                    try clear c30b0
                    try clear c30b1
                    try clear p2
                    try clear p6
                    obtain ⟨kq, x9_25, x13_25, rfl, rfl, HA, HJ25, HB⟩ := hcut
                    cases kq with
                    | zero => exact absurd HA.out (by simp [cohousinglaw03_CalendarDeadline.j3])
                    | succ kj25 =>
                      have H := HA.out
                      clear HA
                      simp only [cohousinglaw03_CalendarDeadline.j3] at H
                      have H' := Aside0.mk H
                      clear H
                      go_wp2
                      go_loopg [16] kj25 (fun kq v16 w' => ∃ (x16_5 : Int), v16 = .int .i64 x16_5 ∧ Aside0 (cohousinglaw03_CalendarDeadline.l0 kq l3 x9_25 x13_25 x16_5 = some r) ∧ Aside0 (kq ≤ kj25) ∧ Aside0 (Below w.heap.size w w'))
                      case atStart => exact ⟨(x10_17), (by first | rfl | (simp; done) | (simp [*]; done)), H', ⟨Nat.le_refl _⟩, ⟨by repeat (first | (with_reducible first | exact HB.out | apply below_alloc | apply pw_below_drewN | apply below_drew1) | exact HB.out)⟩⟩
                      case round =>
                        clear H'
                        try clear c1
                        try clear c2
                        try clear p2
                        try clear c3
                        try clear p6
                        try clear c9
                        try clear c11
                        try clear c12
                        try clear c12b0
                        try clear c13
                        try clear c13b0
                        try clear c14
                        try clear c14b0
                        try clear c15
                        try clear c15b0
                        try clear c16
                        try clear c16b0
                        try clear c16b1
                        try clear c17
                        try clear c19
                        try clear c19b0
                        try clear c19b1
                        try clear c22
                        try clear c22b0
                        try clear c22b1
                        try clear c23
                        try clear c23b0
                        try clear c24
                        try clear c24b0
                        try clear c24b1
                        try clear c25
                        try clear c27
                        try clear c27b0
                        try clear c27b1
                        try clear c29
                        try clear c30
                        try clear c30b0
                        try clear c30b1
                        try clear p2
                        try clear p6
                        obtain ⟨x16_5, rfl, HA, HK5, HB⟩ := hrel
                        cases gk with
                        | zero => exact absurd HA.out (by simp [cohousinglaw03_CalendarDeadline.l0])
                        | succ k5 =>
                          have H := HA.out
                          clear HA
                          simp only [cohousinglaw03_CalendarDeadline.l0] at H
                          by_cases c31 : x16_5 < x13_25
                          · rw [if_pos c31] at H
                            have c31b0 : decide (x16_5 < x13_25) = true := decide_eq_true c31
                            clear c31
                            replace H := Option.bind_eq_some_iff.mp H
                            obtain ⟨⟨t309, t310⟩, A320, H⟩ := H
                            replace H : (if t310 = 0 then (if t309 = true then (some false) else (cohousinglaw03_CalendarDeadline.l0 k5 l3 x9_25 x13_25 (wrap64 (x16_5 + 1)))) else (some false)) = some r := H
                            have A32 := Aside0.mk A320
                            clear A320
                            by_cases c33 : t310 = 0
                            · rw [if_pos c33] at H
                              have c33b0 : (t310 == 0) = true := beq_iff_eq.mpr c33
                              have c33b1 : (t310 != 0) = false := bne_eq_false_iff_eq.mpr c33
                              clear c33
                              by_cases c34 : t309 = true
                              · subst c34
                                have H1 : (some false) = some r := by rw [if_pos rfl] at H; exact H
                                clear H
                                have H := H1
                                clear H1
                                obtain rfl := Option.some.inj H
                                go_wp2_with (first | ((with_reducible refine gate_callee (f := 23) rfl ?_); refine goesL_ (some 115) rfl rfl Tryd.func23 (by kernel_rfl) rfl #[.int .i64 x16_5, .slice A3 l3.length c3] rfl (by (try simp only [List.map_toArray, List.map_cons, List.map_nil]); first | done | rfl | (simp only [List.length_drop, List.length_take]; rfl)) ?_; (with_reducible refine (calendar_Working.calls k5 x16_5 _ _ l3 true t310 _ ?side1 ?side2 A32.out).mono ?_); (case side1 => repeat (first | exact (Kd.C_below HR3.out HB.out) | (with_reducible refine Kd.C_alloc ?_ _) | (with_reducible refine Kd.C_drewN ?_ _) | (with_reducible refine Kd.C_drew ?_))); (case side2 => exact HC3.out); rintro e w' ⟨rfl, ⟨nd, rfl⟩⟩; refine ⟨_, rfl, ?_⟩))
                                go_ret
                                exact ⟨by first | rfl | (simp [errW_none, errW_some] <;> rfl) | (simp [*, errW_none, errW_some] <;> rfl), by repeat (first | (with_reducible first | exact HB.out | apply below_alloc | apply pw_below_drewN | apply below_drew1) | exact HB.out)⟩
                              · replace c34 := Bool.eq_false_iff.mpr c34
                                subst c34
                                have H1 : (cohousinglaw03_CalendarDeadline.l0 k5 l3 x9_25 x13_25 (wrap64 (x16_5 + 1))) = some r := by rw [if_neg (show ¬ (false = true) by decide)] at H; exact H
                                clear H
                                have H := H1
                                clear H1
                                have H' := Aside0.mk H
                                clear H
                                go_wp2_with (first | ((with_reducible refine gate_callee (f := 23) rfl ?_); refine goesL_ (some 115) rfl rfl Tryd.func23 (by kernel_rfl) rfl #[.int .i64 x16_5, .slice A3 l3.length c3] rfl (by (try simp only [List.map_toArray, List.map_cons, List.map_nil]); first | done | rfl | (simp only [List.length_drop, List.length_take]; rfl)) ?_; (with_reducible refine (calendar_Working.calls k5 x16_5 _ _ l3 false t310 _ ?side1 ?side2 A32.out).mono ?_); (case side1 => repeat (first | exact (Kd.C_below HR3.out HB.out) | (with_reducible refine Kd.C_alloc ?_ _) | (with_reducible refine Kd.C_drewN ?_ _) | (with_reducible refine Kd.C_drew ?_))); (case side2 => exact HC3.out); rintro e w' ⟨rfl, ⟨nd, rfl⟩⟩; refine ⟨_, rfl, ?_⟩))
                                go_roundg k5
                                case measure => have := HJ5.out; have := HJ17.out; have := HJ20.out; have := HJ25.out; have := HK5.out; omega
                                case rel => exact ⟨(wrap64 (x16_5 + 1)), (by first | rfl | (simp; done) | (simp [*]; done)), H', ⟨by have := HJ5.out; have := HJ17.out; have := HJ20.out; have := HJ25.out; have := HK5.out; omega⟩, ⟨by repeat (first | (with_reducible first | exact HB.out | apply below_alloc | apply pw_below_drewN | apply below_drew1) | exact HB.out)⟩⟩
                            · rw [if_neg c33] at H
                              have c33b0 : (t310 == 0) = false := beq_eq_false_iff_ne.mpr c33
                              have c33b1 : (t310 != 0) = true := bne_iff_ne.mpr c33
                              obtain rfl := Option.some.inj H
                              go_wp2_with (first | ((with_reducible refine gate_callee (f := 23) rfl ?_); refine goesL_ (some 115) rfl rfl Tryd.func23 (by kernel_rfl) rfl #[.int .i64 x16_5, .slice A3 l3.length c3] rfl (by (try simp only [List.map_toArray, List.map_cons, List.map_nil]); first | done | rfl | (simp only [List.length_drop, List.length_take]; rfl)) ?_; (with_reducible refine (calendar_Working.calls k5 x16_5 _ _ l3 t309 t310 _ ?side1 ?side2 A32.out).mono ?_); (case side1 => repeat (first | exact (Kd.C_below HR3.out HB.out) | (with_reducible refine Kd.C_alloc ?_ _) | (with_reducible refine Kd.C_drewN ?_ _) | (with_reducible refine Kd.C_drew ?_))); (case side2 => exact HC3.out); rintro e w' ⟨rfl, ⟨nd, rfl⟩⟩; refine ⟨_, rfl, ?_⟩))
                              go_ret
                              exact ⟨by first | rfl | (simp [errW_none, errW_some] <;> rfl) | (simp [*, errW_none, errW_some] <;> rfl), by repeat (first | (with_reducible first | exact HB.out | apply below_alloc | apply pw_below_drewN | apply below_drew1) | exact HB.out)⟩
                          · rw [if_neg c31] at H
                            have c31b0 : decide (x16_5 < x13_25) = false := decide_eq_false c31
                            clear c31
                            obtain rfl := Option.some.inj H
                            go_wp2
                            go_ret
                            exact ⟨by first | rfl | (simp [errW_none, errW_some] <;> rfl) | (simp [*, errW_none, errW_some] <;> rfl), by repeat (first | (with_reducible first | exact HB.out | apply below_alloc | apply pw_below_drewN | apply below_drew1) | exact HB.out)⟩

/-- THE ONE PURE STATEMENT of cohousinglaw03_CalendarDeadline: yours. -/
def cohousinglaw03_CalendarDeadline.Pure : Prop := ∀ (a0 : Int) (a1 : Int) (a2 : Int) (l3 : List Int), (Lit.int .i64 a0).wf = true → (Lit.int .i64 a1).wf = true → (Lit.int .i64 a2).wf = true → l3.length ≤ maxLen → l3.length * 8 ≤ 140737488351232 → (∀ x ∈ l3, (Lit.int .i64 x).wf = true) → ∃ k, cohousinglaw03_CalendarDeadline.f k a0 a1 a2 l3 = some true
theorem cohousinglaw03_CalendarDeadline.walk (P : cohousinglaw03_CalendarDeadline.Pure) (a0 : Int) (a1 : Int) (a2 : Int) (a3 : Option Addr) (len3 cap3 : Nat) (z3 : List Int) (w : World) (w0 : (Lit.int .i64 a0).wf = true) (w1 : (Lit.int .i64 a1).wf = true) (w2 : (Lit.int .i64 a2).wf = true) (w3 : (a3 = none ∧ len3 = 0 ∧ cap3 = 0 ∧ z3 = []) ∨ ∃ x, a3 = some x ∧ len3 ≤ cap3 ∧ cap3 ≤ maxLen ∧ z3.length = cap3 ∧ (∀ i, i < z3.length → w.cell? (x.add i) = some (.int .i64 (z3.getD i 0))) ∧ ∀ n ∈ z3, (Lit.int .i64 n).wf = true) (y3 : len3 * 8 ≤ 140737488351232) (HT : TabOK w) :
    Calls Tryd.prog 9 #[.int .i64 a0, .int .i64 a1, .int .i64 a2, .slice a3 len3 cap3] w fun e w' => e = .returned (.bool true) ∧ Below w.heap.size w w' := by
  obtain ⟨l3, rfl, hr3, hm3, hw3, hc3⟩ := ReadsInt.ofRowC w3
  obtain ⟨k, h⟩ := P a0 a1 a2 l3 w0 w1 w2 hm3 y3 hw3
  refine (cohousinglaw03_CalendarDeadline.calls k a0 a1 a2 _ _ l3 true w (Kd.C_of_reads (d := (0 : Int)) (h1 := fun _ => rfl) hr3) hc3 HT h).mono ?_
  rintro e w' ⟨rfl, hd⟩
  exact ⟨rfl, hd⟩

end Go.Proofs.YtjkpojedegmciaaDoor.Px
