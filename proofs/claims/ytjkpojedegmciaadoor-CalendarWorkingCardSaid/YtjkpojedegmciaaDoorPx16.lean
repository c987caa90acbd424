/- Contracts of Go functions, written by a program of this session's own (wip/tools/myprint.py) out of the translation: each Go function does what the Lean function of its name says. Conditions: as each theorem states. -/
import Derived.Test.YtjkpojedegmciaaDoorPx0
import Derived.Test.YtjkpojedegmciaaDoorPx3
import Derived.Test.YtjkpojedegmciaaDoorPx5
import Derived.Test.YtjkpojedegmciaaDoorPx7
import Derived.Test.YtjkpojedegmciaaDoorPx10
namespace Go.Proofs.YtjkpojedegmciaaDoor.Px
open Go.Proofs.YtjkpojedegmciaaDoor.Given
open Go.RowKit Go.Proofs.YtjkpojedegmciaaDoorW.PrintWords Go.Proofs.YtjkpojedegmciaaDoorW.PrintLast Go.Proofs.YtjkpojedegmciaaDoorW.PrintMore
attribute [local go_sem] max2_int min2_int max_two min_two max_three min_three max_four min_four   -- for this text's walks alone
set_option linter.unusedVariables false
set_option linter.unusedSimpArgs false

/-! ### cohousinglaw03_CalendarWorking: function 8 -/
mutual
def cohousinglaw03_CalendarWorking.j0 : Nat → Int → List Int → Bool → Bool → Option (Bool)
  | 0, _, _, _, _ => none
  | k + 1, x0, x1, x5, x31 => if x31 = true then (some x5) else (cohousinglaw03_CalendarWorking.l0 k x0 x1 x5 0 0 x0)
def cohousinglaw03_CalendarWorking.l0 : Nat → Int → List Int → Bool → Int → Int → Int → Option (Bool)
  | 0, _, _, _, _, _, _ => none
  | k + 1, x0, x1, x5, x6, x7, x8 => if x8 < (wrap64 (x0 + 7)) then ((calendar_Working.f k x8 x1).bind fun bt297 => ((calendar_Weekday.f x8).bind fun bt299 => (if bt297.2 = 0 then (cohousinglaw03_CalendarWorking.j2 k x0 x1 x5 x6 x7 x8 bt297.1 bt299.1 (bt299.2 != 0)) else (cohousinglaw03_CalendarWorking.j2 k x0 x1 x5 x6 x7 x8 bt297.1 bt299.1 true)))) else (if x5 = true then (some ((wrap64 (x6 + x7)) == 5)) else (some false))
def cohousinglaw03_CalendarWorking.j2 : Nat → Int → List Int → Bool → Int → Int → Int → Bool → Int → Bool → Option (Bool)
  | 0, _, _, _, _, _, _, _, _, _ => none
  | k + 1, x0, x1, x5, x6, x7, x8, x9, x11, x56 => if x56 = true then (some false) else (if x9 = true then (cohousinglaw03_CalendarWorking.j3 k x0 x1 x5 (wrap64 (x6 + 1)) x7 x8 x9 x11) else (cohousinglaw03_CalendarWorking.j3 k x0 x1 x5 x6 x7 x8 x9 x11))
def cohousinglaw03_CalendarWorking.j3 : Nat → Int → List Int → Bool → Int → Int → Int → Bool → Int → Option (Bool)
  | 0, _, _, _, _, _, _, _, _ => none
  | k + 1, x0, x1, x5, x6, x7, x8, x9, x11 => cohousinglaw03_CalendarWorking.l1 k x0 x1 x5 x6 x7 x8 x9 x11 x1 (x1.length : Int) 0
def cohousinglaw03_CalendarWorking.l1 : Nat → Int → List Int → Bool → Int → Int → Int → Bool → Int → List Int → Int → Int → Option (Bool)
  | 0, _, _, _, _, _, _, _, _, _, _, _ => none
  | k + 1, x0, x1, x5, x6, x7, x8, x9, x11, x60, x61, x62 => if x62 < x61 then (if 0 ≤ x62 then (if x62 < (x60.length : Int) then (if (rd x60 x62) = x8 then (cohousinglaw03_CalendarWorking.j5 k x0 x1 x5 x6 x7 x8 x9 x11 (rd x60 x62) x60 x61 x62 x9) else (cohousinglaw03_CalendarWorking.j5 k x0 x1 x5 x6 x7 x8 x9 x11 (rd x60 x62) x60 x61 x62 false)) else (none)) else (none)) else (cohousinglaw03_CalendarWorking.l0 k x0 x1 x5 x6 x7 (wrap64 (x8 + 1)))
def cohousinglaw03_CalendarWorking.j5 : Nat → Int → List Int → Bool → Int → Int → Int → Bool → Int → Int → List Int → Int → Int → Bool → Option (Bool)
  | 0, _, _, _, _, _, _, _, _, _, _, _, _, _ => none
  | k + 1, x0, x1, x5, x6, x7, x8, x9, x11, x14, x60, x61, x62, x71 => if x71 = true then (some false) else (if x14 = x8 then (if x11 < 5 then (cohousinglaw03_CalendarWorking.l1 k x0 x1 x5 x6 (wrap64 (x7 + 1)) x8 x9 x11 x60 x61 (wrap64 (x62 + 1))) else (cohousinglaw03_CalendarWorking.l1 k x0 x1 x5 x6 x7 x8 x9 x11 x60 x61 (wrap64 (x62 + 1)))) else (cohousinglaw03_CalendarWorking.l1 k x0 x1 x5 x6 x7 x8 x9 x11 x60 x61 (wrap64 (x62 + 1))))
end
def cohousinglaw03_CalendarWorking.f (k : Nat) (a0 : Int) (l1 : List Int) : Option (Bool) := (cohousinglaw03_head.f k).bind fun t294 => ((cohousinglaw03_few.f l1).bind fun t295 => (if t295 = true then ((cohousingref03_Holidays.f k l1).bind fun t296 => (if t296 = true then (if a0 < 0 then (cohousinglaw03_CalendarWorking.j0 k a0 l1 t294 true) else (cohousinglaw03_CalendarWorking.j0 k a0 l1 t294 (decide (a0 > 36518)))) else (cohousinglaw03_CalendarWorking.j0 k a0 l1 t294 true))) else (cohousinglaw03_CalendarWorking.j0 k a0 l1 t294 true)))
theorem cohousinglaw03_CalendarWorking.mono_l : ∀ k, (∀ y0 y1 y2 y3, LeO (cohousinglaw03_CalendarWorking.j0 k y0 y1 y2 y3) (cohousinglaw03_CalendarWorking.j0 (k + 1) y0 y1 y2 y3)) ∧ (∀ y0 y1 y2 y3 y4 y5, LeO (cohousinglaw03_CalendarWorking.l0 k y0 y1 y2 y3 y4 y5) (cohousinglaw03_CalendarWorking.l0 (k + 1) y0 y1 y2 y3 y4 y5)) ∧ (∀ y0 y1 y2 y3 y4 y5 y6 y7 y8, LeO (cohousinglaw03_CalendarWorking.j2 k y0 y1 y2 y3 y4 y5 y6 y7 y8) (cohousinglaw03_CalendarWorking.j2 (k + 1) y0 y1 y2 y3 y4 y5 y6 y7 y8)) ∧ (∀ y0 y1 y2 y3 y4 y5 y6 y7, LeO (cohousinglaw03_CalendarWorking.j3 k y0 y1 y2 y3 y4 y5 y6 y7) (cohousinglaw03_CalendarWorking.j3 (k + 1) y0 y1 y2 y3 y4 y5 y6 y7)) ∧ (∀ y0 y1 y2 y3 y4 y5 y6 y7 y8 y9 y10, LeO (cohousinglaw03_CalendarWorking.l1 k y0 y1 y2 y3 y4 y5 y6 y7 y8 y9 y10) (cohousinglaw03_CalendarWorking.l1 (k + 1) y0 y1 y2 y3 y4 y5 y6 y7 y8 y9 y10)) ∧ (∀ y0 y1 y2 y3 y4 y5 y6 y7 y8 y9 y10 y11 y12, LeO (cohousinglaw03_CalendarWorking.j5 k y0 y1 y2 y3 y4 y5 y6 y7 y8 y9 y10 y11 y12) (cohousinglaw03_CalendarWorking.j5 (k + 1) y0 y1 y2 y3 y4 y5 y6 y7 y8 y9 y10 y11 y12))
  | 0 => ⟨fun _ _ _ _ r h => by simp [cohousinglaw03_CalendarWorking.j0] at h, fun _ _ _ _ _ _ r h => by simp [cohousinglaw03_CalendarWorking.l0] at h, fun _ _ _ _ _ _ _ _ _ r h => by simp [cohousinglaw03_CalendarWorking.j2] at h, fun _ _ _ _ _ _ _ _ r h => by simp [cohousinglaw03_CalendarWorking.j3] at h, fun _ _ _ _ _ _ _ _ _ _ _ r h => by simp [cohousinglaw03_CalendarWorking.l1] at h, fun _ _ _ _ _ _ _ _ _ _ _ _ _ r h => by simp [cohousinglaw03_CalendarWorking.j5] at h⟩
  | k + 1 => by
    obtain ⟨ih0, ih1, ih2, ih3, ih4, ih5⟩ := cohousinglaw03_CalendarWorking.mono_l k
    refine ⟨?_, ?_, ?_, ?_, ?_, ?_⟩
    · intro y0 y1 y2 y3
      unfold cohousinglaw03_CalendarWorking.j0
      repeat' first
      | (with_reducible exact ih0 _ _ _ _)
      | (with_reducible exact ih1 _ _ _ _ _ _)
      | (with_reducible exact ih2 _ _ _ _ _ _ _ _ _)
      | (with_reducible exact ih3 _ _ _ _ _ _ _ _)
      | (with_reducible exact ih4 _ _ _ _ _ _ _ _ _ _ _)
      | (with_reducible exact ih5 _ _ _ _ _ _ _ _ _ _ _ _ _)
      | (with_reducible exact calendar_Working.mono _ _ _)
      | (with_reducible exact cohousinglaw03_head.mono _)
      | (with_reducible exact cohousingref03_Holidays.mono _ _)
      | (with_reducible exact LeO.refl _)
      | (with_reducible exact LeO.none _)
      | (with_reducible refine LeO.ite ?_ ?_)
      | (with_reducible refine LeO.bind ?_ (fun _ => ?_))
      | exact ih0 _ _ _ _
      | exact ih1 _ _ _ _ _ _
      | exact ih2 _ _ _ _ _ _ _ _ _
      | exact ih3 _ _ _ _ _ _ _ _
      | exact ih4 _ _ _ _ _ _ _ _ _ _ _
      | exact ih5 _ _ _ _ _ _ _ _ _ _ _ _ _
      | exact calendar_Working.mono _ _ _
      | exact cohousinglaw03_head.mono _
      | exact cohousingref03_Holidays.mono _ _
      | exact LeO.none _
      | refine LeO.ite ?_ ?_
      | refine LeO.bind ?_ (fun _ => ?_)
    · intro y0 y1 y2 y3 y4 y5
      unfold cohousinglaw03_CalendarWorking.l0
      repeat' first
      | (with_reducible exact ih0 _ _ _ _)
      | (with_reducible exact ih1 _ _ _ _ _ _)
      | (with_reducible exact ih2 _ _ _ _ _ _ _ _ _)
      | (with_reducible exact ih3 _ _ _ _ _ _ _ _)
      | (with_reducible exact ih4 _ _ _ _ _ _ _ _ _ _ _)
      | (with_reducible exact ih5 _ _ _ _ _ _ _ _ _ _ _ _ _)
      | (with_reducible exact calendar_Working.mono _ _ _)
      | (with_reducible exact cohousinglaw03_head.mono _)
      | (with_reducible exact cohousingref03_Holidays.mono _ _)
      | (with_reducible exact LeO.refl _)
      | (with_reducible exact LeO.none _)
      | (with_reducible refine LeO.ite ?_ ?_)
      | (with_reducible refine LeO.bind ?_ (fun _ => ?_))
      | exact ih0 _ _ _ _
      | exact ih1 _ _ _ _ _ _
      | exact ih2 _ _ _ _ _ _ _ _ _
      | exact ih3 _ _ _ _ _ _ _ _
      | exact ih4 _ _ _ _ _ _ _ _ _ _ _
      | exact ih5 _ _ _ _ _ _ _ _ _ _ _ _ _
      | exact calendar_Working.mono _ _ _
      | exact cohousinglaw03_head.mono _
      | exact cohousingref03_Holidays.mono _ _
      | exact LeO.none _
      | refine LeO.ite ?_ ?_
      | refine LeO.bind ?_ (fun _ => ?_)
    · intro y0 y1 y2 y3 y4 y5 y6 y7 y8
      unfold cohousinglaw03_CalendarWorking.j2
      repeat' first
      | (with_reducible exact ih0 _ _ _ _)
      | (with_reducible exact ih1 _ _ _ _ _ _)
      | (with_reducible exact ih2 _ _ _ _ _ _ _ _ _)
      | (with_reducible exact ih3 _ _ _ _ _ _ _ _)
      | (with_reducible exact ih4 _ _ _ _ _ _ _ _ _ _ _)
      | (with_reducible exact ih5 _ _ _ _ _ _ _ _ _ _ _ _ _)
      | (with_reducible exact calendar_Working.mono _ _ _)
      | (with_reducible exact cohousinglaw03_head.mono _)
      | (with_reducible exact cohousingref03_Holidays.mono _ _)
      | (with_reducible exact LeO.refl _)
      | (with_reducible exact LeO.none _)
      | (with_reducible refine LeO.ite ?_ ?_)
      | (with_reducible refine LeO.bind ?_ (fun _ => ?_))
      | exact ih0 _ _ _ _
      | exact ih1 _ _ _ _ _ _
      | exact ih2 _ _ _ _ _ _ _ _ _
      | exact ih3 _ _ _ _ _ _ _ _
      | exact ih4 _ _ _ _ _ _ _ _ _ _ _
      | exact ih5 _ _ _ _ _ _ _ _ _ _ _ _ _
      | exact calendar_Working.mono _ _ _
      | exact cohousinglaw03_head.mono _
      | exact cohousingref03_Holidays.mono _ _
      | exact LeO.none _
      | refine LeO.ite ?_ ?_
      | refine LeO.bind ?_ (fun _ => ?_)
    · intro y0 y1 y2 y3 y4 y5 y6 y7
      unfold cohousinglaw03_CalendarWorking.j3
      repeat' first
      | (with_reducible exact ih0 _ _ _ _)
      | (with_reducible exact ih1 _ _ _ _ _ _)
      | (with_reducible exact ih2 _ _ _ _ _ _ _ _ _)
      | (with_reducible exact ih3 _ _ _ _ _ _ _ _)
      | (with_reducible exact ih4 _ _ _ _ _ _ _ _ _ _ _)
      | (with_reducible exact ih5 _ _ _ _ _ _ _ _ _ _ _ _ _)
      | (with_reducible exact calendar_Working.mono _ _ _)
      | (with_reducible exact cohousinglaw03_head.mono _)
      | (with_reducible exact cohousingref03_Holidays.mono _ _)
      | (with_reducible exact LeO.refl _)
      | (with_reducible exact LeO.none _)
      | (with_reducible refine LeO.ite ?_ ?_)
      | (with_reducible refine LeO.bind ?_ (fun _ => ?_))
      | exact ih0 _ _ _ _
      | exact ih1 _ _ _ _ _ _
      | exact ih2 _ _ _ _ _ _ _ _ _
      | exact ih3 _ _ _ _ _ _ _ _
      | exact ih4 _ _ _ _ _ _ _ _ _ _ _
      | exact ih5 _ _ _ _ _ _ _ _ _ _ _ _ _
      | exact calendar_Working.mono _ _ _
      | exact cohousinglaw03_head.mono _
      | exact cohousingref03_Holidays.mono _ _
      | exact LeO.none _
      | refine LeO.ite ?_ ?_
      | refine LeO.bind ?_ (fun _ => ?_)
    · intro y0 y1 y2 y3 y4 y5 y6 y7 y8 y9 y10
      unfold cohousinglaw03_CalendarWorking.l1
      repeat' first
      | (with_reducible exact ih0 _ _ _ _)
      | (with_reducible exact ih1 _ _ _ _ _ _)
      | (with_reducible exact ih2 _ _ _ _ _ _ _ _ _)
      | (with_reducible exact ih3 _ _ _ _ _ _ _ _)
      | (with_reducible exact ih4 _ _ _ _ _ _ _ _ _ _ _)
      | (with_reducible exact ih5 _ _ _ _ _ _ _ _ _ _ _ _ _)
      | (with_reducible exact calendar_Working.mono _ _ _)
      | (with_reducible exact cohousinglaw03_head.mono _)
      | (with_reducible exact cohousingref03_Holidays.mono _ _)
      | (with_reducible exact LeO.refl _)
      | (with_reducible exact LeO.none _)
      | (with_reducible refine LeO.ite ?_ ?_)
      | (with_reducible refine LeO.bind ?_ (fun _ => ?_))
      | exact ih0 _ _ _ _
      | exact ih1 _ _ _ _ _ _
      | exact ih2 _ _ _ _ _ _ _ _ _
      | exact ih3 _ _ _ _ _ _ _ _
      | exact ih4 _ _ _ _ _ _ _ _ _ _ _
      | exact ih5 _ _ _ _ _ _ _ _ _ _ _ _ _
      | exact calendar_Working.mono _ _ _
      | exact cohousinglaw03_head.mono _
      | exact cohousingref03_Holidays.mono _ _
      | exact LeO.none _
      | refine LeO.ite ?_ ?_
      | refine LeO.bind ?_ (fun _ => ?_)
    · intro y0 y1 y2 y3 y4 y5 y6 y7 y8 y9 y10 y11 y12
      unfold cohousinglaw03_CalendarWorking.j5
      repeat' first
      | (with_reducible exact ih0 _ _ _ _)
      | (with_reducible exact ih1 _ _ _ _ _ _)
      | (with_reducible exact ih2 _ _ _ _ _ _ _ _ _)
      | (with_reducible exact ih3 _ _ _ _ _ _ _ _)
      | (with_reducible exact ih4 _ _ _ _ _ _ _ _ _ _ _)
      | (with_reducible exact ih5 _ _ _ _ _ _ _ _ _ _ _ _ _)
      | (with_reducible exact calendar_Working.mono _ _ _)
      | (with_reducible exact cohousinglaw03_head.mono _)
      | (with_reducible exact cohousingref03_Holidays.mono _ _)
      | (with_reducible exact LeO.refl _)
      | (with_reducible exact LeO.none _)
      | (with_reducible refine LeO.ite ?_ ?_)
      | (with_reducible refine LeO.bind ?_ (fun _ => ?_))
      | exact ih0 _ _ _ _
      | exact ih1 _ _ _ _ _ _
      | exact ih2 _ _ _ _ _ _ _ _ _
      | exact ih3 _ _ _ _ _ _ _ _
      | exact ih4 _ _ _ _ _ _ _ _ _ _ _
      | exact ih5 _ _ _ _ _ _ _ _ _ _ _ _ _
      | exact calendar_Working.mono _ _ _
      | exact cohousinglaw03_head.mono _
      | exact cohousingref03_Holidays.mono _ _
      | exact LeO.none _
      | refine LeO.ite ?_ ?_
      | refine LeO.bind ?_ (fun _ => ?_)
theorem cohousinglaw03_CalendarWorking.mono : ∀ a0 a1 k, LeO (cohousinglaw03_CalendarWorking.f k a0 a1) (cohousinglaw03_CalendarWorking.f (k + 1) a0 a1) := by
  intro a0 a1 k
  obtain ⟨ih0, ih1, ih2, ih3, ih4, ih5⟩ := cohousinglaw03_CalendarWorking.mono_l k
  unfold cohousinglaw03_CalendarWorking.f
  repeat' first
      | (with_reducible exact ih0 _ _ _ _)
      | (with_reducible exact ih1 _ _ _ _ _ _)
      | (with_reducible exact ih2 _ _ _ _ _ _ _ _ _)
      | (with_reducible exact ih3 _ _ _ _ _ _ _ _)
      | (with_reducible exact ih4 _ _ _ _ _ _ _ _ _ _ _)
      | (with_reducible exact ih5 _ _ _ _ _ _ _ _ _ _ _ _ _)
      | (with_reducible exact calendar_Working.mono _ _ _)
      | (with_reducible exact cohousinglaw03_head.mono _)
      | (with_reducible exact cohousingref03_Holidays.mono _ _)
      | (with_reducible exact LeO.refl _)
      | (with_reducible exact LeO.none _)
      | (with_reducible refine LeO.ite ?_ ?_)
      | (with_reducible refine LeO.bind ?_ (fun _ => ?_))
      | exact ih0 _ _ _ _
      | exact ih1 _ _ _ _ _ _
      | exact ih2 _ _ _ _ _ _ _ _ _
      | exact ih3 _ _ _ _ _ _ _ _
      | exact ih4 _ _ _ _ _ _ _ _ _ _ _
      | exact ih5 _ _ _ _ _ _ _ _ _ _ _ _ _
      | exact calendar_Working.mono _ _ _
      | exact cohousinglaw03_head.mono _
      | exact cohousingref03_Holidays.mono _ _
      | exact LeO.none _
      | refine LeO.ite ?_ ?_
      | refine LeO.bind ?_ (fun _ => ?_)
set_option maxHeartbeats 8000000 in
set_option maxRecDepth 100000 in
theorem cohousinglaw03_CalendarWorking.calls (k : Nat) (a0 : Int) (A1 : Option Addr) (c1 : Nat) (l1 : List Int) (r : Bool) (w : World) (hr1 : Kd.C (Kd.int .i64) w A1 l1.length l1) (hc1 : l1.length ≤ c1) (HT : TabOK w) (h : cohousinglaw03_CalendarWorking.f k a0 l1 = some r) :
    Calls Tryd.prog 8 #[.int .i64 a0, .slice A1 l1.length c1] w fun e w' => e = .returned (.bool r) ∧ Below w.heap.size w w' := by
  have HTA := Aside0.mk HT
  clear HT
  have HR1 := Aside0.mk hr1
  have HC1 := Aside0.mk hc1
  clear hr1 hc1
  have HB := Aside0.mk (Below.refl w.heap.size w)
  have H : ((cohousinglaw03_head.f k).bind fun t294 => ((cohousinglaw03_few.f l1).bind fun t295 => (if t295 = true then ((cohousingref03_Holidays.f k l1).bind fun t296 => (if t296 = true then (if a0 < 0 then (cohousinglaw03_CalendarWorking.j0 k a0 l1 t294 true) else (cohousinglaw03_CalendarWorking.j0 k a0 l1 t294 (decide (a0 > 36518)))) else (cohousinglaw03_CalendarWorking.j0 k a0 l1 t294 true))) else (cohousinglaw03_CalendarWorking.j0 k a0 l1 t294 true)))) = some r := h
  clear h
  replace H := Option.bind_eq_some_iff.mp H
  obtain ⟨t294, A30, H⟩ := H
  replace H : ((cohousinglaw03_few.f l1).bind fun t295 => (if t295 = true then ((cohousingref03_Holidays.f k l1).bind fun t296 => (if t296 = true then (if a0 < 0 then (cohousinglaw03_CalendarWorking.j0 k a0 l1 t294 true) else (cohousinglaw03_CalendarWorking.j0 k a0 l1 t294 (decide (a0 > 36518)))) else (cohousinglaw03_CalendarWorking.j0 k a0 l1 t294 true))) else (cohousinglaw03_CalendarWorking.j0 k a0 l1 t294 true))) = some r := H
  have A3 := Aside0.mk A30
  clear A30
  have HC4 := Aside0.mk H
  clear H
  go_enter Tryd.func8, Tryd.ntmps8
  go_upto_region 2 with (first | ((with_reducible refine gate_callee (f := 11) rfl ?_); refine goesL_ (some 15) rfl rfl Tryd.func11 (by kernel_rfl) rfl #[] rfl (by (try simp only [List.map_toArray, List.map_cons, List.map_nil]); first | done | rfl | (simp only [List.length_drop, List.length_take]; rfl)) ?_; (with_reducible refine (cohousinglaw03_head.calls k  t294 _ ?side1 A3.out).mono ?_); (case side1 => exact TabOK.below HTA.out (by repeat (first | (with_reducible first | exact HB.out | apply below_alloc | apply pw_below_drewN | apply below_drew1) | exact HB.out))); rintro e w5 ⟨rfl, hb⟩; refine ⟨_, rfl, ?_⟩; have n0_ := Aside0.mk (below_step (by repeat (first | (with_reducible first | exact HB.out | apply below_alloc | apply pw_below_drewN | apply below_drew1) | exact HB.out)) hb); clear HB; have HB := n0_; clear n0_; (try clear hb); (try clear hb2); (try clear hk); (try clear hi)))
  (try simp only [Act.put, List.setIfInBounds_toArray, List.set_cons_zero, List.set_cons_succ])
  go_cut [31] (fun v31 wc => ∃ (kq : Nat) (x31_3 : Bool), v31 = .bool x31_3 ∧ Aside0 (cohousinglaw03_CalendarWorking.j0 kq a0 l1 t294 x31_3 = some r) ∧ Aside0 (kq ≤ k) ∧ Aside0 (Below w.heap.size w wc))
  case first =>
    have H := HC4.out
    clear HC4
    replace H := Option.bind_eq_some_iff.mp H
    obtain ⟨t295, A60, H⟩ := H
    replace H : (if t295 = true then ((cohousingref03_Holidays.f k l1).bind fun t296 => (if t296 = true then (if a0 < 0 then (cohousinglaw03_CalendarWorking.j0 k a0 l1 t294 true) else (cohousinglaw03_CalendarWorking.j0 k a0 l1 t294 (decide (a0 > 36518)))) else (cohousinglaw03_CalendarWorking.j0 k a0 l1 t294 true))) else (cohousinglaw03_CalendarWorking.j0 k a0 l1 t294 true)) = some r := H
    have A6 := Aside0.mk A60
    clear A60
    by_cases c7 : t295 = true
    · subst c7
      have H1 : ((cohousingref03_Holidays.f k l1).bind fun t296 => (if t296 = true then (if a0 < 0 then (cohousinglaw03_CalendarWorking.j0 k a0 l1 t294 true) else (cohousinglaw03_CalendarWorking.j0 k a0 l1 t294 (decide (a0 > 36518)))) else (cohousinglaw03_CalendarWorking.j0 k a0 l1 t294 true))) = some r := by rw [if_pos rfl] at H; exact H
      clear H
      have H := H1
      clear H1
      replace H := Option.bind_eq_some_iff.mp H
      obtain ⟨t296, A80, H⟩ := H
      replace H : (if t296 = true then (if a0 < 0 then (cohousinglaw03_CalendarWorking.j0 k a0 l1 t294 true) else (cohousinglaw03_CalendarWorking.j0 k a0 l1 t294 (decide (a0 > 36518)))) else (cohousinglaw03_CalendarWorking.j0 k a0 l1 t294 true)) = some r := H
      have A8 := Aside0.mk A80
      clear A80
      by_cases c9 : t296 = true
      · subst c9
        have H1 : (if a0 < 0 then (cohousinglaw03_CalendarWorking.j0 k a0 l1 t294 true) else (cohousinglaw03_CalendarWorking.j0 k a0 l1 t294 (decide (a0 > 36518)))) = some r := by rw [if_pos rfl] at H; exact H
        clear H
        have H := H1
        clear H1
        by_cases c10 : a0 < 0
        · rw [if_pos c10] at H
          have c10b0 : decide (a0 < 0) = true := decide_eq_true c10
          clear c10
          (first | rw [c10b0] | (simp only [i64_w, i32_w]; rw [c10b0]) | skip)
          have H' := Aside0.mk H
          clear H
          go_wp2_with (first | ((with_reducible refine gate_callee (f := 12) rfl ?_); refine goesL_ (some 17) rfl rfl Tryd.func12 (by kernel_rfl) rfl #[.slice A1 l1.length c1] rfl (by (try simp only [List.map_toArray, List.map_cons, List.map_nil]); first | done | rfl | (simp only [List.length_drop, List.length_take]; rfl)) ?_; (with_reducible refine (cohousinglaw03_few.calls _ _ l1 true _ ?side1 ?side2 A6.out).mono ?_); (case side1 => repeat (first | exact (Kd.C_below HR1.out HB.out) | (with_reducible refine Kd.C_alloc ?_ _) | (with_reducible refine Kd.C_drewN ?_ _) | (with_reducible refine Kd.C_drew ?_))); (case side2 => exact HC1.out); rintro e w' ⟨rfl, ⟨nd, rfl⟩⟩; refine ⟨_, rfl, ?_⟩) | (go_at_call 27; (with_reducible refine (cohousingref03_Holidays.calls k _ _ l1 true _ ?side1 ?side2 A8.out).mono ?_); (case side1 => repeat (first | exact (Kd.C_below HR1.out (by repeat (first | (with_reducible first | exact HB.out | apply below_alloc | apply pw_below_drewN | apply below_drew1) | exact HB.out))) | (with_reducible refine Kd.C_alloc ?_ _) | (with_reducible refine Kd.C_drewN ?_ _) | (with_reducible refine Kd.C_drew ?_))); (case side2 => exact HC1.out); rintro e w' ⟨rfl, ⟨nd, rfl⟩⟩))
          go_meet
          case rel => exact ⟨_, (true), (by first | rfl | (simp; done) | (simp [*]; done)), H', ⟨by first | omega | exact Nat.le_refl _⟩, ⟨by repeat (first | (with_reducible first | exact HB.out | apply below_alloc | apply pw_below_drewN | apply below_drew1) | exact HB.out)⟩⟩
        · rw [if_neg c10] at H
          have c10b0 : decide (a0 < 0) = false := decide_eq_false c10
          clear c10
          (first | rw [c10b0] | (simp only [i64_w, i32_w]; rw [c10b0]) | skip)
          have H' := Aside0.mk H
          clear H
          go_wp2_with (first | ((with_reducible refine gate_callee (f := 12) rfl ?_); refine goesL_ (some 17) rfl rfl Tryd.func12 (by kernel_rfl) rfl #[.slice A1 l1.length c1] rfl (by (try simp only [List.map_toArray, List.map_cons, List.map_nil]); first | done | rfl | (simp only [List.length_drop, List.length_take]; rfl)) ?_; (with_reducible refine (cohousinglaw03_few.calls _ _ l1 true _ ?side1 ?side2 A6.out).mono ?_); (case side1 => repeat (first | exact (Kd.C_below HR1.out HB.out) | (with_reducible refine Kd.C_alloc ?_ _) | (with_reducible refine Kd.C_drewN ?_ _) | (with_reducible refine Kd.C_drew ?_))); (case side2 => exact HC1.out); rintro e w' ⟨rfl, ⟨nd, rfl⟩⟩; refine ⟨_, rfl, ?_⟩) | (go_at_call 27; (with_reducible refine (cohousingref03_Holidays.calls k _ _ l1 true _ ?side1 ?side2 A8.out).mono ?_); (case side1 => repeat (first | exact (Kd.C_below HR1.out (by repeat (first | (with_reducible first | exact HB.out | apply below_alloc | apply pw_below_drewN | apply below_drew1) | exact HB.out))) | (with_reducible refine Kd.C_alloc ?_ _) | (with_reducible refine Kd.C_drewN ?_ _) | (with_reducible refine Kd.C_drew ?_))); (case side2 => exact HC1.out); rintro e w' ⟨rfl, ⟨nd, rfl⟩⟩))
          go_meet
          case rel => exact ⟨_, (decide (a0 > 36518)), (by first | rfl | (simp; done) | (simp [*]; done)), H', ⟨by first | omega | exact Nat.le_refl _⟩, ⟨by repeat (first | (with_reducible first | exact HB.out | apply below_alloc | apply pw_below_drewN | apply below_drew1) | exact HB.out)⟩⟩
      · replace c9 := Bool.eq_false_iff.mpr c9
        subst c9
        have H1 : (cohousinglaw03_CalendarWorking.j0 k a0 l1 t294 true) = some r := by rw [if_neg (show ¬ (false = true) by decide)] at H; exact H
        clear H
        have H := H1
        clear H1
        have H' := Aside0.mk H
        clear H
        go_wp2_with (first | ((with_reducible refine gate_callee (f := 12) rfl ?_); refine goesL_ (some 17) rfl rfl Tryd.func12 (by kernel_rfl) rfl #[.slice A1 l1.length c1] rfl (by (try simp only [List.map_toArray, List.map_cons, List.map_nil]); first | done | rfl | (simp only [List.length_drop, List.length_take]; rfl)) ?_; (with_reducible refine (cohousinglaw03_few.calls _ _ l1 true _ ?side1 ?side2 A6.out).mono ?_); (case side1 => repeat (first | exact (Kd.C_below HR1.out HB.out) | (with_reducible refine Kd.C_alloc ?_ _) | (with_reducible refine Kd.C_drewN ?_ _) | (with_reducible refine Kd.C_drew ?_))); (case side2 => exact HC1.out); rintro e w' ⟨rfl, ⟨nd, rfl⟩⟩; refine ⟨_, rfl, ?_⟩) | (go_at_call 27; (with_reducible refine (cohousingref03_Holidays.calls k _ _ l1 false _ ?side1 ?side2 A8.out).mono ?_); (case side1 => repeat (first | exact (Kd.C_below HR1.out (by repeat (first | (with_reducible first | exact HB.out | apply below_alloc | apply pw_below_drewN | apply below_drew1) | exact HB.out))) | (with_reducible refine Kd.C_alloc ?_ _) | (with_reducible refine Kd.C_drewN ?_ _) | (with_reducible refine Kd.C_drew ?_))); (case side2 => exact HC1.out); rintro e w' ⟨rfl, ⟨nd, rfl⟩⟩))
        go_meet
        case rel => exact ⟨_, (true), (by first | rfl | (simp; done) | (simp [*]; done)), H', ⟨by first | omega | exact Nat.le_refl _⟩, ⟨by repeat (first | (with_reducible first | exact HB.out | apply below_alloc | apply pw_below_drewN | apply below_drew1) | exact HB.out)⟩⟩
    · replace c7 := Bool.eq_false_iff.mpr c7
      subst c7
      have H1 : (cohousinglaw03_CalendarWorking.j0 k a0 l1 t294 true) = some r := by rw [if_neg (show ¬ (false = true) by decide)] at H; exact H
      clear H
      have H := H1
      clear H1
      have H' := Aside0.mk H
      clear H
      go_wp2_with (first | ((with_reducible refine gate_callee (f := 12) rfl ?_); refine goesL_ (some 17) rfl rfl Tryd.func12 (by kernel_rfl) rfl #[.slice A1 l1.length c1] rfl (by (try simp only [List.map_toArray, List.map_cons, List.map_nil]); first | done | rfl | (simp only [List.length_drop, List.length_take]; rfl)) ?_; (with_reducible refine (cohousinglaw03_few.calls _ _ l1 false _ ?side1 ?side2 A6.out).mono ?_); (case side1 => repeat (first | exact (Kd.C_below HR1.out HB.out) | (with_reducible refine Kd.C_alloc ?_ _) | (with_reducible refine Kd.C_drewN ?_ _) | (with_reducible refine Kd.C_drew ?_))); (case side2 => exact HC1.out); rintro e w' ⟨rfl, ⟨nd, rfl⟩⟩; refine ⟨_, rfl, ?_⟩))
      go_meet
      case rel => exact ⟨_, (true), (by first | rfl | (simp; done) | (simp [*]; done)), H', ⟨by first | omega | exact Nat.le_refl _⟩, ⟨by repeat (first | (with_reducible first | exact HB.out | apply below_alloc | apply pw_below_drewN | apply below_drew1) | exact HB.out)⟩⟩
  case rest =>
    clear HC4
    try clear c1
    try clear p2
    try clear c7
    try clear c8
    try clear c9
    try clear c10
    try clear c10b0
    obtain ⟨kq, x31_3, rfl, HA, HJ3, HB⟩ := hcut
    cases kq with
    | zero => exact absurd HA.out (by simp [cohousinglaw03_CalendarWorking.j0])
    | succ kj3 =>
      have H := HA.out
      clear HA
      simp only [cohousinglaw03_CalendarWorking.j0] at H
      by_cases c11 : x31_3 = true
      · subst c11
        have H1 : (some t294) = some r := by rw [if_pos rfl] at H; exact H
        clear H
        have H := H1
        clear H1
        obtain rfl := Option.some.inj H
        go_wp2
        go_ret
        exact ⟨by first | rfl | (simp [errW_none, errW_some] <;> rfl) | (simp [*, errW_none, errW_some] <;> rfl), by repeat (first | (with_reducible first | exact HB.out | apply below_alloc | apply pw_below_drewN | apply below_drew1) | exact HB.out)⟩
      · replace c11 := Bool.eq_false_iff.mpr c11
        subst c11
        have H1 : (cohousinglaw03_CalendarWorking.l0 kj3 a0 l1 t294 0 0 a0) = some r := by rw [if_neg (show ¬ (false = true) by decide)] at H; exact H
        clear H
        have H := H1
        clear H1
        have H' := Aside0.mk H
        clear H
        go_wp2
        go_loopg [6, 7, 8] kj3 (fun kq v6 v7 v8 w' => ∃ (x6_2 : Int) (x7_2 : Int) (x8_2 : Int), v6 = .int .i64 x6_2 ∧ v7 = .int .i64 x7_2 ∧ v8 = .int .i64 x8_2 ∧ Aside0 (cohousinglaw03_CalendarWorking.l0 kq a0 l1 t294 x6_2 x7_2 x8_2 = some r) ∧ Aside0 (kq ≤ kj3) ∧ Aside0 (Below w.heap.size w w'))
        case atStart => exact ⟨(0), (0), (a0), (by first | rfl | (simp; done) | (simp [*]; done)), (by first | rfl | (simp; done) | (simp [*]; done)), (by first | rfl | (simp; done) | (simp [*]; done)), H', ⟨Nat.le_refl _⟩, ⟨by repeat (first | (with_reducible first | exact HB.out | apply below_alloc | apply pw_below_drewN | apply below_drew1) | exact HB.out)⟩⟩
        case round =>
          clear H'
          try clear c1
          try clear p2
          try clear c7
          try clear c8
          try clear c9
          try clear c10
          try clear c10b0
          try clear c11
          try clear p2
          obtain ⟨x6_2, x7_2, x8_2, rfl, rfl, rfl, HA, HK2, HB⟩ := hrel
          cases gk with
          | zero => exact absurd HA.out (by simp [cohousinglaw03_CalendarWorking.l0])
          | succ k2 =>
            have H := HA.out
            clear HA
            simp only [cohousinglaw03_CalendarWorking.l0] at H
            by_cases c12 : x8_2 < (wrap64 (a0 + 7))
            · rw [if_pos c12] at H
              have c12b0 : decide (x8_2 < (wrap64 (a0 + 7))) = true := decide_eq_true c12
              clear c12
              replace H := Option.bind_eq_some_iff.mp H
              obtain ⟨⟨t297, t298⟩, A130, H⟩ := H
              replace H : ((calendar_Weekday.f x8_2).bind fun bt299 => (if t298 = 0 then (cohousinglaw03_CalendarWorking.j2 k2 a0 l1 t294 x6_2 x7_2 x8_2 t297 bt299.1 (bt299.2 != 0)) else (cohousinglaw03_CalendarWorking.j2 k2 a0 l1 t294 x6_2 x7_2 x8_2 t297 bt299.1 true))) = some r := H
              have A13 := Aside0.mk A130
              clear A130
              replace H := Option.bind_eq_some_iff.mp H
              obtain ⟨⟨t299, t300⟩, A140, H⟩ := H
              replace H : (if t298 = 0 then (cohousinglaw03_CalendarWorking.j2 k2 a0 l1 t294 x6_2 x7_2 x8_2 t297 t299 (t300 != 0)) else (cohousinglaw03_CalendarWorking.j2 k2 a0 l1 t294 x6_2 x7_2 x8_2 t297 t299 true)) = some r := H
              have A14 := Aside0.mk A140
              clear A140
              have HC15 := Aside0.mk H
              clear H
              go_upto_region 10 with (first | ((with_reducible refine gate_callee (f := 23) rfl ?_); refine goesL_ (some 43) rfl rfl Tryd.func23 (by kernel_rfl) rfl #[.int .i64 x8_2, .slice A1 l1.length c1] rfl (by (try simp only [List.map_toArray, List.map_cons, List.map_nil]); first | done | rfl | (simp only [List.length_drop, List.length_take]; rfl)) ?_; (with_reducible refine (calendar_Working.calls k2 x8_2 _ _ l1 t297 t298 _ ?side1 ?side2 A13.out).mono ?_); (case side1 => repeat (first | exact (Kd.C_below HR1.out HB.out) | (with_reducible refine Kd.C_alloc ?_ _) | (with_reducible refine Kd.C_drewN ?_ _) | (with_reducible refine Kd.C_drew ?_))); (case side2 => exact HC1.out); rintro e w' ⟨rfl, ⟨nd, rfl⟩⟩; refine ⟨_, rfl, ?_⟩) | ((with_reducible refine gate_callee (f := 17) rfl ?_); refine goesL_ (some 48) rfl rfl Tryd.func17 (by kernel_rfl) rfl #[.int .i64 x8_2] rfl (by (try simp only [List.map_toArray, List.map_cons, List.map_nil]); first | done | rfl | (simp only [List.length_drop, List.length_take]; rfl)) ?_; (with_reducible refine (calendar_Weekday.calls x8_2 t299 t300 _ A14.out).mono ?_); rintro e w' ⟨rfl, ⟨nd, rfl⟩⟩; refine ⟨_, rfl, ?_⟩))
              (try simp only [Act.put, List.setIfInBounds_toArray, List.set_cons_zero, List.set_cons_succ])
              go_cut [56] (fun v56 wc => ∃ (kq : Nat) (x56_14 : Bool), v56 = .bool x56_14 ∧ Aside0 (cohousinglaw03_CalendarWorking.j2 kq a0 l1 t294 x6_2 x7_2 x8_2 t297 t299 x56_14 = some r) ∧ Aside0 (kq ≤ k2) ∧ Aside0 (Below w.heap.size w wc))
              case first =>
                have H := HC15.out
                clear HC15
                by_cases c16 : t298 = 0
                · rw [if_pos c16] at H
                  have c16b0 : (t298 == 0) = true := beq_iff_eq.mpr c16
                  have c16b1 : (t298 != 0) = false := bne_eq_false_iff_eq.mpr c16
                  clear c16
                  (first | rw [c16b0] | (simp only [i64_w, i32_w]; rw [c16b0]) | skip)
                  have H' := Aside0.mk H
                  clear H
                  go_wp2
                  go_meet
                  case rel => exact ⟨_, ((t300 != 0)), (by first | rfl | (simp; done) | (simp [*]; done)), H', ⟨by have := HJ3.out; have := HK2.out; first | omega | exact Nat.le_refl _⟩, ⟨by repeat (first | (with_reducible first | exact HB.out | apply below_alloc | apply pw_below_drewN | apply below_drew1) | exact HB.out)⟩⟩
                · rw [if_neg c16] at H
                  have c16b0 : (t298 == 0) = false := beq_eq_false_iff_ne.mpr c16
                  have c16b1 : (t298 != 0) = true := bne_iff_ne.mpr c16
                  (first | rw [c16b0] | (simp only [i64_w, i32_w]; rw [c16b0]) | skip)
                  have H' := Aside0.mk H
                  clear H
                  go_wp2
                  go_meet
                  case rel => exact ⟨_, (true), (by first | rfl | (simp; done) | (simp [*]; done)), H', ⟨by have := HJ3.out; have := HK2.out; first | omega | exact Nat.le_refl _⟩, ⟨by repeat (first | (with_reducible first | exact HB.out | apply below_alloc | apply pw_below_drewN | apply below_drew1) | exact HB.out)⟩⟩
              case rest =>
                clear HC15
                try clear c1
                try clear c2
                try clear p2
                try clear p6
                try clear c7
                try clear c8
                try clear c9
                try clear c10
                try clear c10b0
                try clear c11
                try clear c12
                try clear c12b0
                try clear c16
                try clear c16b0
                try clear c16b1
                try clear p2
                obtain ⟨kq, x56_14, rfl, HA, HJ14, HB⟩ := hcut
                cases kq with
                | zero => exact absurd HA.out (by simp [cohousinglaw03_CalendarWorking.j2])
                | succ kj14 =>
                  have H := HA.out
                  clear HA
                  simp only [cohousinglaw03_CalendarWorking.j2] at H
                  by_cases c17 : x56_14 = true
                  · subst c17
                    have H1 : (some false) = some r := by rw [if_pos rfl] at H; exact H
                    clear H
                    have H := H1
                    clear H1
                    obtain rfl := Option.some.inj H
                    go_wp2
                    go_ret
                    exact ⟨by first | rfl | (simp [errW_none, errW_some] <;> rfl) | (simp [*, errW_none, errW_some] <;> rfl), by repeat (first | (with_reducible first | exact HB.out | apply below_alloc | apply pw_below_drewN | apply below_drew1) | exact HB.out)⟩
                  · replace c17 := Bool.eq_false_iff.mpr c17
                    subst c17
                    have H1 : (if t297 = true then (cohousinglaw03_CalendarWorking.j3 kj14 a0 l1 t294 (wrap64 (x6_2 + 1)) x7_2 x8_2 t297 t299) else (cohousinglaw03_CalendarWorking.j3 kj14 a0 l1 t294 x6_2 x7_2 x8_2 t297 t299)) = some r := by rw [if_neg (show ¬ (false = true) by decide)] at H; exact H
                    clear H
                    have H := H1
                    clear H1
                    have HC18 := Aside0.mk H
                    clear H
                    go_upto_if 57 with (fail)
                    go_cut [6] (fun v6 wc => ∃ (kq : Nat) (x6_17 : Int), v6 = .int .i64 x6_17 ∧ Aside0 (cohousinglaw03_CalendarWorking.j3 kq a0 l1 t294 x6_17 x7_2 x8_2 t297 t299 = some r) ∧ Aside0 (kq ≤ kj14) ∧ Aside0 (Below w.heap.size w wc))
                    case first =>
                      have H := HC18.out
                      clear HC18
                      by_cases c19 : t297 = true
                      · subst c19
                        have H1 : (cohousinglaw03_CalendarWorking.j3 kj14 a0 l1 t294 (wrap64 (x6_2 + 1)) x7_2 x8_2 true t299) = some r := by rw [if_pos rfl] at H; exact H
                        clear H
                        have H := H1
                        clear H1
                        have H' := Aside0.mk H
                        clear H
                        go_wp2
                        go_meet
                        case rel => exact ⟨_, (wrap64 (x6_2 + 1)), (by first | rfl | (simp; done) | (simp [*]; done)), H', ⟨by have := HJ3.out; have := HK2.out; have := HJ14.out; first | omega | exact Nat.le_refl _⟩, ⟨by repeat (first | (with_reducible first | exact HB.out | apply below_alloc | apply pw_below_drewN | apply below_drew1) | exact HB.out)⟩⟩
                      · replace c19 := Bool.eq_false_iff.mpr c19
                        subst c19
                        have H1 : (cohousinglaw03_CalendarWorking.j3 kj14 a0 l1 t294 x6_2 x7_2 x8_2 false t299) = some r := by rw [if_neg (show ¬ (false = true) by decide)] at H; exact H
                        clear H
                        have H := H1
                        clear H1
                        have H' := Aside0.mk H
                        clear H
                        go_wp2
                        go_meet
                        case rel => exact ⟨_, (x6_2), (by first | rfl | (simp; done) | (simp [*]; done)), H', ⟨by have := HJ3.out; have := HK2.out; have := HJ14.out; first | omega | exact Nat.le_refl _⟩, ⟨by repeat (first | (with_reducible first | exact HB.out | apply below_alloc | apply pw_below_drewN | apply below_drew1) | exact HB.out)⟩⟩
                    case rest =>
                      clear HC18
                      try clear c1
                      try clear c2
                      try clear p2
                      try clear p6
                      try clear c7
                      try clear c8
                      try clear c9
                      try clear c10
                      try clear c10b0
                      try clear c11
                      try clear c12
                      try clear c12b0
                      try clear c16
                      try clear c16b0
                      try clear c16b1
                      try clear c17
                      try clear c19
                      try clear p2
                      try clear p6
                      obtain ⟨kq, x6_17, rfl, HA, HJ17, HB⟩ := hcut
                      cases kq with
                      | zero => exact absurd HA.out (by simp [cohousinglaw03_CalendarWorking.j3])
                      | succ kj17 =>
                        have H := HA.out
                        clear HA
                        simp only [cohousinglaw03_CalendarWorking.j3] at H
                        have H' := Aside0.mk H
                        clear H
                        go_wp2
                        go_loopg [7, 62] kj17 (fun kq v7 v62 w' => ∃ (x7_5 : Int) (x62_5 : Int), v7 = .int .i64 x7_5 ∧ v62 = .int .i64 x62_5 ∧ Aside0 (cohousinglaw03_CalendarWorking.l1 kq a0 l1 t294 x6_17 x7_5 x8_2 t297 t299 l1 (l1.length : Int) x62_5 = some r) ∧ Aside0 (kq ≤ kj17) ∧ Aside0 (Below w.heap.size w w'))
                        case atStart => exact ⟨(x7_2), (0), (by first | rfl | (simp; done) | (simp [*]; done)), (by first | rfl | (simp; done) | (simp [*]; done)), H', ⟨Nat.le_refl _⟩, ⟨by repeat (first | (with_reducible first | exact HB.out | apply below_alloc | apply pw_below_drewN | apply below_drew1) | exact HB.out)⟩⟩
                        case round =>
                          clear H'
                          try clear c1
                          try clear c2
                          try clear p2
                          try clear p6
                          try clear c7
                          try clear c8
                          try clear c9
                          try clear c10
                          try clear c10b0
                          try clear c11
                          try clear c12
                          try clear c12b0
                          try clear c16
                          try clear c16b0
                          try clear c16b1
                          try clear c17
                          try clear c19
                          try clear p2
                          try clear p6
                          obtain ⟨x7_5, x62_5, rfl, rfl, HA, HK5, HB⟩ := hrel
                          cases gk with
                          | zero => exact absurd HA.out (by simp [cohousinglaw03_CalendarWorking.l1])
                          | succ k5 =>
                            have H := HA.out
                            clear HA
                            simp only [cohousinglaw03_CalendarWorking.l1] at H
                            by_cases c20 : x62_5 < (l1.length : Int)
                            · rw [if_pos c20] at H
                              have c20b0 : decide (x62_5 < (l1.length : Int)) = true := decide_eq_true c20
                              clear c20
                              by_cases c21 : 0 ≤ x62_5
                              · rw [if_pos c21] at H
                                have c21b0 : decide (0 ≤ x62_5) = true := decide_eq_true c21
                                clear c21
                                by_cases c22 : x62_5 < (l1.length : Int)
                                · rw [if_pos c22] at H
                                  have c22b0 : decide (x62_5 < (l1.length : Int)) = true := decide_eq_true c22
                                  clear c22
                                  have HC23 := Aside0.mk H
                                  clear H
                                  have p301 : 0 ≤ (x62_5 : Int) := of_decide_eq_true (by first | (with_reducible assumption) | assumption)
                                  have q301 : x62_5 < (l1.length : Int) := of_decide_eq_true (by first | (with_reducible assumption) | assumption)
                                  obtain ⟨ad301, e301, hx301_0⟩ := Kd.at_int HR1.out x62_5 p301 q301
                                  cases e301
                                  replace hx301_0 := (HB.out.cell (World.block_lt_of_cell? w _ hx301_0)).trans hx301_0
                                  replace p301 := eq_true p301
                                  replace q301 := eq_true q301
                                  go_upto_region 17 with (fail)
                                  go_cut [71] (fun v71 wc => ∃ (kq : Nat) (x71_22 : Bool), v71 = .bool x71_22 ∧ Aside0 (cohousinglaw03_CalendarWorking.j5 kq a0 l1 t294 x6_17 x7_5 x8_2 t297 t299 (rd l1 x62_5) l1 (l1.length : Int) x62_5 x71_22 = some r) ∧ Aside0 (kq ≤ k5) ∧ Aside0 (Below w.heap.size w wc))
                                  case first =>
                                    have H := HC23.out
                                    clear HC23
                                    by_cases c24 : (rd l1 x62_5) = x8_2
                                    · rw [if_pos c24] at H
                                      have c24b0 : ((rd l1 x62_5) == x8_2) = true := beq_iff_eq.mpr c24
                                      have c24b1 : ((rd l1 x62_5) != x8_2) = false := bne_eq_false_iff_eq.mpr c24
                                      clear c24
                                      (first | rw [c24b0] | (simp only [i64_w, i32_w]; rw [c24b0]) | skip)
                                      have H' := Aside0.mk H
                                      clear H
                                      go_wp2
                                      go_meet
                                      case rel => exact ⟨_, (t297), (by first | rfl | (simp; done) | (simp [*]; done)), H', ⟨by have := HJ3.out; have := HK2.out; have := HJ14.out; have := HJ17.out; have := HK5.out; first | omega | exact Nat.le_refl _⟩, ⟨by repeat (first | (with_reducible first | exact HB.out | apply below_alloc | apply pw_below_drewN | apply below_drew1) | exact HB.out)⟩⟩
                                    · rw [if_neg c24] at H
                                      have c24b0 : ((rd l1 x62_5) == x8_2) = false := beq_eq_false_iff_ne.mpr c24
                                      have c24b1 : ((rd l1 x62_5) != x8_2) = true := bne_iff_ne.mpr c24
                                      (first | rw [c24b0] | (simp only [i64_w, i32_w]; rw [c24b0]) | skip)
                                      have H' := Aside0.mk H
                                      clear H
                                      go_wp2
                                      go_meet
                                      case rel => exact ⟨_, (false), (by first | rfl | (simp; done) | (simp [*]; done)), H', ⟨by have := HJ3.out; have := HK2.out; have := HJ14.out; have := HJ17.out; have := HK5.out; first | omega | exact Nat.le_refl _⟩, ⟨by repeat (first | (with_reducible first | exact HB.out | apply below_alloc | apply pw_below_drewN | apply below_drew1) | exact HB.out)⟩⟩
                                  case rest =>
                                    clear HC23
                                    try clear c1
                                    try clear c2
                                    try clear p2
                                    try clear p3
                                    try clear q3
                                    try clear hx3
                                    try clear p6
                                    try clear c7
                                    try clear c8
                                    try clear c9
                                    try clear c10
                                    try clear c10b0
                                    try clear c11
                                    try clear c12
                                    try clear c12b0
                                    try clear c16
                                    try clear c16b0
                                    try clear c16b1
                                    try clear c17
                                    try clear c19
                                    try clear c20
                                    try clear c20b0
                                    try clear c21
                                    try clear c21b0
                                    try clear c22
                                    try clear c22b0
                                    try clear c23
                                    try clear c24
                                    try clear c24b0
                                    try clear c24b1
                                    try clear hx301_0
                                    try clear p2
                                    try clear p301
                                    try clear p6
                                    try clear q301
                                    obtain ⟨kq, x71_22, rfl, HA, HJ22, HB⟩ := hcut
                                    cases kq with
                                    | zero => exact absurd HA.out (by simp [cohousinglaw03_CalendarWorking.j5])
                                    | succ kj22 =>
                                      have H := HA.out
                                      clear HA
                                      simp only [cohousinglaw03_CalendarWorking.j5] at H
                                      by_cases c25 : x71_22 = true
                                      · subst c25
                                        have H1 : (some false) = some r := by rw [if_pos rfl] at H; exact H
                                        clear H
                                        have H := H1
                                        clear H1
                                        obtain rfl := Option.some.inj H
                                        go_wp2
                                        go_ret
                                        exact ⟨by first | rfl | (simp [errW_none, errW_some] <;> rfl) | (simp [*, errW_none, errW_some] <;> rfl), by repeat (first | (with_reducible first | exact HB.out | apply below_alloc | apply pw_below_drewN | apply below_drew1) | exact HB.out)⟩
                                      · replace c25 := Bool.eq_false_iff.mpr c25
                                        subst c25
                                        have H1 : (if (rd l1 x62_5) = x8_2 then (if t299 < 5 then (cohousinglaw03_CalendarWorking.l1 kj22 a0 l1 t294 x6_17 (wrap64 (x7_5 + 1)) x8_2 t297 t299 l1 (l1.length : Int) (wrap64 (x62_5 + 1))) else (cohousinglaw03_CalendarWorking.l1 kj22 a0 l1 t294 x6_17 x7_5 x8_2 t297 t299 l1 (l1.length : Int) (wrap64 (x62_5 + 1)))) else (cohousinglaw03_CalendarWorking.l1 kj22 a0 l1 t294 x6_17 x7_5 x8_2 t297 t299 l1 (l1.length : Int) (wrap64 (x62_5 + 1)))) = some r := by rw [if_neg (show ¬ (false = true) by decide)] at H; exact H
                                        clear H
                                        have H := H1
                                        clear H1
                                        by_cases c26 : (rd l1 x62_5) = x8_2
                                        · rw [if_pos c26] at H
                                          have c26b0 : ((rd l1 x62_5) == x8_2) = true := beq_iff_eq.mpr c26
                                          have c26b1 : ((rd l1 x62_5) != x8_2) = false := bne_eq_false_iff_eq.mpr c26
                                          clear c26
                                          by_cases c27 : t299 < 5
                                          · rw [if_pos c27] at H
                                            have c27b0 : decide (t299 < 5) = true := decide_eq_true c27
                                            clear c27
                                            have H' := Aside0.mk H
                                            clear H
                                            go_wp2
                                            go_roundg kj22
                                            case measure => have := HJ3.out; have := HK2.out; have := HJ14.out; have := HJ17.out; have := HK5.out; have := HJ22.out; omega
                                            case rel => exact ⟨(wrap64 (x7_5 + 1)), (wrap64 (x62_5 + 1)), (by first | rfl | (simp; done) | (simp [*]; done)), (by first | rfl | (simp; done) | (simp [*]; done)), H', ⟨by have := HJ3.out; have := HK2.out; have := HJ14.out; have := HJ17.out; have := HK5.out; have := HJ22.out; omega⟩, ⟨by repeat (first | (with_reducible first | exact HB.out | apply below_alloc | apply pw_below_drewN | apply below_drew1) | exact HB.out)⟩⟩
                                          · rw [if_neg c27] at H
                                            have c27b0 : decide (t299 < 5) = false := decide_eq_false c27
                                            clear c27
                                            have H' := Aside0.mk H
                                            clear H
                                            go_wp2
                                            go_roundg kj22
                                            case measure => have := HJ3.out; have := HK2.out; have := HJ14.out; have := HJ17.out; have := HK5.out; have := HJ22.out; omega
                                            case rel => exact ⟨(x7_5), (wrap64 (x62_5 + 1)), (by first | rfl | (simp; done) | (simp [*]; done)), (by first | rfl | (simp; done) | (simp [*]; done)), H', ⟨by have := HJ3.out; have := HK2.out; have := HJ14.out; have := HJ17.out; have := HK5.out; have := HJ22.out; omega⟩, ⟨by repeat (first | (with_reducible first | exact HB.out | apply below_alloc | apply pw_below_drewN | apply below_drew1) | exact HB.out)⟩⟩
                                        · rw [if_neg c26] at H
                                          have c26b0 : ((rd l1 x62_5) == x8_2) = false := beq_eq_false_iff_ne.mpr c26
                                          have c26b1 : ((rd l1 x62_5) != x8_2) = true := bne_iff_ne.mpr c26
                                          have H' := Aside0.mk H
                                          clear H
                                          go_wp2
                                          go_roundg kj22
                                          case measure => have := HJ3.out; have := HK2.out; have := HJ14.out; have := HJ17.out; have := HK5.out; have := HJ22.out; omega
                                          case rel => exact ⟨(x7_5), (wrap64 (x62_5 + 1)), (by first | rfl | (simp; done) | (simp [*]; done)), (by first | rfl | (simp; done) | (simp [*]; done)), H', ⟨by have := HJ3.out; have := HK2.out; have := HJ14.out; have := HJ17.out; have := HK5.out; have := HJ22.out; omega⟩, ⟨by repeat (first | (with_reducible first | exact HB.out | apply below_alloc | apply pw_below_drewN | apply below_drew1) | exact HB.out)⟩⟩
                                · rw [if_neg c22] at H
                                  exact absurd H (by simp)
                              · rw [if_neg c21] at H
                                exact absurd H (by simp)
                            · rw [if_neg c20] at H
                              have c20b0 : decide (x62_5 < (l1.length : Int)) = false := decide_eq_false c20
                              clear c20
                              have H' := Aside0.mk H
                              clear H
                              go_wp2
                              go_roundg k5
                              case measure => have := HJ3.out; have := HK2.out; have := HJ14.out; have := HJ17.out; have := HK5.out; omega
                              case rel => exact ⟨(x6_17), (x7_5), (wrap64 (x8_2 + 1)), (by first | rfl | (simp; done) | (simp [*]; done)), (by first | rfl | (simp; done) | (simp [*]; done)), (by first | rfl | (simp; done) | (simp [*]; done)), H', ⟨by have := HJ3.out; have := HK2.out; have := HJ14.out; have := HJ17.out; have := HK5.out; omega⟩, ⟨by repeat (first | (with_reducible first | exact HB.out | apply below_alloc | apply pw_below_drewN | apply below_drew1) | exact HB.out)⟩⟩
            · rw [if_neg c12] at H
              have c12b0 : decide (x8_2 < (wrap64 (a0 + 7))) = false := decide_eq_false c12
              clear c12
              by_cases c28 : t294 = true
              · subst c28
                have H1 : (some ((wrap64 (x6_2 + x7_2)) == 5)) = some r := by rw [if_pos rfl] at H; exact H
                clear H
                have H := H1
                clear H1
                obtain rfl := Option.some.inj H
                go_wp2
                go_ret
                exact ⟨by first | rfl | (simp [errW_none, errW_some] <;> rfl) | (simp [*, errW_none, errW_some] <;> rfl), by repeat (first | (with_reducible first | exact HB.out | apply below_alloc | apply pw_below_drewN | apply below_drew1) | exact HB.out)⟩
              · replace c28 := Bool.eq_false_iff.mpr c28
                subst c28
                have H1 : (some false) = some r := by rw [if_neg (show ¬ (false = true) by decide)] at H; exact H
                clear H
                have H := H1
                clear H1
                obtain rfl := Option.some.inj H
                go_wp2
                go_ret
                exact ⟨by first | rfl | (simp [errW_none, errW_some] <;> rfl) | (simp [*, errW_none, errW_some] <;> rfl), by repeat (first | (with_reducible first | exact HB.out | apply below_alloc | apply pw_below_drewN | apply below_drew1) | exact HB.out)⟩

/-- THE ONE PURE STATEMENT of cohousinglaw03_CalendarWorking: yours. -/
def cohousinglaw03_CalendarWorking.Pure : Prop := ∀ (a0 : Int) (l1 : List Int), (Lit.int .i64 a0).wf = true → l1.length ≤ maxLen → l1.length * 8 ≤ 140737488351232 → (∀ x ∈ l1, (Lit.int .i64 x).wf = true) → ∃ k, cohousinglaw03_CalendarWorking.f k a0 l1 = some true
theorem cohousinglaw03_CalendarWorking.walk (P : cohousinglaw03_CalendarWorking.Pure) (a0 : Int) (a1 : Option Addr) (len1 cap1 : Nat) (z1 : List Int) (w : World) (w0 : (Lit.int .i64 a0).wf = true) (w1 : (a1 = none ∧ len1 = 0 ∧ cap1 = 0 ∧ z1 = []) ∨ ∃ x, a1 = some x ∧ len1 ≤ cap1 ∧ cap1 ≤ maxLen ∧ z1.length = cap1 ∧ (∀ i, i < z1.length → w.cell? (x.add i) = some (.int .i64 (z1.getD i 0))) ∧ ∀ n ∈ z1, (Lit.int .i64 n).wf = true) (y1 : len1 * 8 ≤ 140737488351232) (HT : TabOK w) :
    Calls Tryd.prog 8 #[.int .i64 a0, .slice a1 len1 cap1] w fun e w' => e = .returned (.bool true) ∧ Below w.heap.size w w' := by
  obtain ⟨l1, rfl, hr1, hm1, hw1, hc1⟩ := ReadsInt.ofRowC w1
  obtain ⟨k, h⟩ := P a0 l1 w0 hm1 y1 hw1
  refine (cohousinglaw03_CalendarWorking.calls k a0 _ _ l1 true w (Kd.C_of_reads (d := (0 : Int)) (h1 := fun _ => rfl) hr1) hc1 HT h).mono ?_
  rintro e w' ⟨rfl, hd⟩
  exact ⟨rfl, hd⟩

end Go.Proofs.YtjkpojedegmciaaDoor.Px
