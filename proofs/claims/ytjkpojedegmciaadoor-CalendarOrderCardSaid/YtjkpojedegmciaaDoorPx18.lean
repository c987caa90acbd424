/- Contracts of Go functions, written by a program of this session's own (wip/tools/myprint.py) out of the translation: each Go function does what the Lean function of its name says. Conditions: as each theorem states. -/
import Derived.Test.YtjkpojedegmciaaDoorPx0
import Derived.Test.YtjkpojedegmciaaDoorPx6
import Derived.Test.YtjkpojedegmciaaDoorPx7
import Derived.Test.YtjkpojedegmciaaDoorPx10
namespace Go.Proofs.YtjkpojedegmciaaDoor.Px
open Go.Proofs.YtjkpojedegmciaaDoor.Given
open Go.RowKit Go.Proofs.YtjkpojedegmciaaDoorW.PrintWords Go.Proofs.YtjkpojedegmciaaDoorW.PrintLast Go.Proofs.YtjkpojedegmciaaDoorW.PrintMore
attribute [local go_sem] max2_int min2_int max_two min_two max_three min_three max_four min_four   -- for this text's walks alone
set_option linter.unusedVariables false
set_option linter.unusedSimpArgs false

/-! ### cohousinglaw03_CalendarOrder: function 10 -/
mutual
def cohousinglaw03_CalendarOrder.j0 : Nat → Int → Int → Int → Int → Int → Int → List Int → Bool → Bool → Option (Bool)
  | 0, _, _, _, _, _, _, _, _, _ => none
  | k + 1, x0, x1, x2, x3, x4, x5, x6, x15, x62 => if x62 = true then (some x15) else ((calendar_Deadline.f k x0 x2 x4 x6).bind fun bt314 => (if x4 = 1 then (cohousinglaw03_CalendarOrder.j1 k x0 x1 x2 x3 x4 x5 x6 x15 bt314.1 bt314.2 false) else (cohousinglaw03_CalendarOrder.j1 k x0 x1 x2 x3 x4 x5 x6 x15 bt314.1 bt314.2 (x4 != 2))))
def cohousinglaw03_CalendarOrder.j1 : Nat → Int → Int → Int → Int → Int → Int → List Int → Bool → Int → Int → Bool → Option (Bool)
  | 0, _, _, _, _, _, _, _, _, _, _, _ => none
  | k + 1, x0, x1, x2, x3, x4, x5, x6, x15, x16, x17, x77 => if x77 = true then (if x15 = true then (some (x17 == 1)) else (some false)) else ((calendar_Deadline.f k x1 x3 x4 x6).bind fun bt316 => (if bt316.2 = 0 then (if x17 = 0 then (cohousinglaw03_CalendarOrder.j2 k x0 x2 x4 x5 x6 x15 x16 x17 (decide (x16 > bt316.1))) else (cohousinglaw03_CalendarOrder.j2 k x0 x2 x4 x5 x6 x15 x16 x17 true)) else (cohousinglaw03_CalendarOrder.j2 k x0 x2 x4 x5 x6 x15 x16 x17 false)))
def cohousinglaw03_CalendarOrder.j2 : Nat → Int → Int → Int → Int → List Int → Bool → Int → Int → Bool → Option (Bool)
  | 0, _, _, _, _, _, _, _, _, _ => none
  | k + 1, x0, x2, x4, x5, x6, x15, x16, x17, x101 => if x101 = true then (some false) else (if (wrap64 (x0 + 3)) ≤ 36524 then ((calendar_Deadline.f k x0 x2 2 x6).bind fun bt318 => ((calendar_Deadline.f k (wrap64 (x0 + 3)) x2 1 x6).bind fun bt320 => (if x15 = true then (if bt318.2 = bt320.2 then (cohousinglaw03_CalendarOrder.j3 k x0 x2 x4 x5 x6 (bt318.1 == bt320.1) x16 x17) else (cohousinglaw03_CalendarOrder.j3 k x0 x2 x4 x5 x6 false x16 x17)) else (cohousinglaw03_CalendarOrder.j3 k x0 x2 x4 x5 x6 false x16 x17)))) else (cohousinglaw03_CalendarOrder.j3 k x0 x2 x4 x5 x6 x15 x16 x17))
def cohousinglaw03_CalendarOrder.j3 : Nat → Int → Int → Int → Int → List Int → Bool → Int → Int → Option (Bool)
  | 0, _, _, _, _, _, _, _, _ => none
  | k + 1, x0, x2, x4, x5, x6, x15, x16, x17 => if (x6.length : Int) = 0 then (some x15) else ((some (([] : List Int) : List Int)).bind fun y322 => (if 0 ≤ (Int.tmod (wrap64 ((Int.tmod x5 (x6.length : Int)) + (x6.length : Int))) (x6.length : Int)) then (if (Int.tmod (wrap64 ((Int.tmod x5 (x6.length : Int)) + (x6.length : Int))) (x6.length : Int)) ≤ (x6.length : Int) then (if y322.length + (x6.take ((Int.tmod (wrap64 ((Int.tmod x5 (x6.length : Int)) + (x6.length : Int))) (x6.length : Int)) : Int).toNat).length < 17592186044416 then ((some (y322 ++ (x6.take ((Int.tmod (wrap64 ((Int.tmod x5 (x6.length : Int)) + (x6.length : Int))) (x6.length : Int)) : Int).toNat) : List Int)).bind fun y326 => (if 0 ≤ (wrap64 ((Int.tmod (wrap64 ((Int.tmod x5 (x6.length : Int)) + (x6.length : Int))) (x6.length : Int)) + 1)) then (if (wrap64 ((Int.tmod (wrap64 ((Int.tmod x5 (x6.length : Int)) + (x6.length : Int))) (x6.length : Int)) + 1)) ≤ (x6.length : Int) then (if y326.length + (x6.drop ((wrap64 ((Int.tmod (wrap64 ((Int.tmod x5 (x6.length : Int)) + (x6.length : Int))) (x6.length : Int)) + 1)) : Int).toNat).length < 17592186044416 then ((calendar_Deadline.f k x0 x2 x4 (y326 ++ (x6.drop ((wrap64 ((Int.tmod (wrap64 ((Int.tmod x5 (x6.length : Int)) + (x6.length : Int))) (x6.length : Int)) + 1)) : Int).toNat))).bind fun bt333 => (if x15 = true then (if x17 = 0 then (if bt333.2 = 0 then (some (decide (bt333.1 ≤ x16))) else (some false)) else (some true)) else (some false))) else (none)) else (none)) else (none))) else (none)) else (none)) else (none)))
end
def cohousinglaw03_CalendarOrder.f (k : Nat) (a0 : Int) (a1 : Int) (a2 : Int) (a3 : Int) (a4 : Int) (a5 : Int) (l6 : List Int) : Option (Bool) := (cohousinglaw03_head.f k).bind fun t311 => ((cohousinglaw03_few.f l6).bind fun t312 => (if t312 = true then ((cohousingref03_Holidays.f k l6).bind fun t313 => (if t313 = true then (if a0 < 0 then (cohousinglaw03_CalendarOrder.j0 k a0 a1 a2 a3 a4 a5 l6 t311 true) else (if a1 < a0 then (cohousinglaw03_CalendarOrder.j0 k a0 a1 a2 a3 a4 a5 l6 t311 true) else (if a1 > 36524 then (cohousinglaw03_CalendarOrder.j0 k a0 a1 a2 a3 a4 a5 l6 t311 true) else (if a2 < 0 then (cohousinglaw03_CalendarOrder.j0 k a0 a1 a2 a3 a4 a5 l6 t311 true) else (if a3 < a2 then (cohousinglaw03_CalendarOrder.j0 k a0 a1 a2 a3 a4 a5 l6 t311 true) else (cohousinglaw03_CalendarOrder.j0 k a0 a1 a2 a3 a4 a5 l6 t311 (decide (a3 > 1000)))))))) else (cohousinglaw03_CalendarOrder.j0 k a0 a1 a2 a3 a4 a5 l6 t311 true))) else (cohousinglaw03_CalendarOrder.j0 k a0 a1 a2 a3 a4 a5 l6 t311 true)))
theorem cohousinglaw03_CalendarOrder.mono_l : ∀ k, (∀ y0 y1 y2 y3 y4 y5 y6 y7 y8, LeO (cohousinglaw03_CalendarOrder.j0 k y0 y1 y2 y3 y4 y5 y6 y7 y8) (cohousinglaw03_CalendarOrder.j0 (k + 1) y0 y1 y2 y3 y4 y5 y6 y7 y8)) ∧ (∀ y0 y1 y2 y3 y4 y5 y6 y7 y8 y9 y10, LeO (cohousinglaw03_CalendarOrder.j1 k y0 y1 y2 y3 y4 y5 y6 y7 y8 y9 y10) (cohousinglaw03_CalendarOrder.j1 (k + 1) y0 y1 y2 y3 y4 y5 y6 y7 y8 y9 y10)) ∧ (∀ y0 y1 y2 y3 y4 y5 y6 y7 y8, LeO (cohousinglaw03_CalendarOrder.j2 k y0 y1 y2 y3 y4 y5 y6 y7 y8) (cohousinglaw03_CalendarOrder.j2 (k + 1) y0 y1 y2 y3 y4 y5 y6 y7 y8)) ∧ (∀ y0 y1 y2 y3 y4 y5 y6 y7, LeO (cohousinglaw03_CalendarOrder.j3 k y0 y1 y2 y3 y4 y5 y6 y7) (cohousinglaw03_CalendarOrder.j3 (k + 1) y0 y1 y2 y3 y4 y5 y6 y7))
  | 0 => ⟨fun _ _ _ _ _ _ _ _ _ r h => by simp [cohousinglaw03_CalendarOrder.j0] at h, fun _ _ _ _ _ _ _ _ _ _ _ r h => by simp [cohousinglaw03_CalendarOrder.j1] at h, fun _ _ _ _ _ _ _ _ _ r h => by simp [cohousinglaw03_CalendarOrder.j2] at h, fun _ _ _ _ _ _ _ _ r h => by simp [cohousinglaw03_CalendarOrder.j3] at h⟩
  | k + 1 => by
    obtain ⟨ih0, ih1, ih2, ih3⟩ := cohousinglaw03_CalendarOrder.mono_l k
    refine ⟨?_, ?_, ?_, ?_⟩
    · intro y0 y1 y2 y3 y4 y5 y6 y7 y8
      unfold cohousinglaw03_CalendarOrder.j0
      repeat' first
      | (with_reducible exact ih0 _ _ _ _ _ _ _ _ _)
      | (with_reducible exact ih1 _ _ _ _ _ _ _ _ _ _ _)
      | (with_reducible exact ih2 _ _ _ _ _ _ _ _ _)
      | (with_reducible exact ih3 _ _ _ _ _ _ _ _)
      | (with_reducible exact calendar_Deadline.mono _ _ _ _ _)
      | (with_reducible exact cohousinglaw03_head.mono _)
      | (with_reducible exact cohousingref03_Holidays.mono _ _)
      | (with_reducible exact LeO.refl _)
      | (with_reducible exact LeO.none _)
      | (with_reducible refine LeO.ite ?_ ?_)
      | (with_reducible refine LeO.bind ?_ (fun _ => ?_))
      | exact ih0 _ _ _ _ _ _ _ _ _
      | exact ih1 _ _ _ _ _ _ _ _ _ _ _
      | exact ih2 _ _ _ _ _ _ _ _ _
      | exact ih3 _ _ _ _ _ _ _ _
      | exact calendar_Deadline.mono _ _ _ _ _
      | exact cohousinglaw03_head.mono _
      | exact cohousingref03_Holidays.mono _ _
      | exact LeO.none _
      | refine LeO.ite ?_ ?_
      | refine LeO.bind ?_ (fun _ => ?_)
    · intro y0 y1 y2 y3 y4 y5 y6 y7 y8 y9 y10
      unfold cohousinglaw03_CalendarOrder.j1
      repeat' first
      | (with_reducible exact ih0 _ _ _ _ _ _ _ _ _)
      | (with_reducible exact ih1 _ _ _ _ _ _ _ _ _ _ _)
      | (with_reducible exact ih2 _ _ _ _ _ _ _ _ _)
      | (with_reducible exact ih3 _ _ _ _ _ _ _ _)
      | (with_reducible exact calendar_Deadline.mono _ _ _ _ _)
      | (with_reducible exact cohousinglaw03_head.mono _)
      | (with_reducible exact cohousingref03_Holidays.mono _ _)
      | (with_reducible exact LeO.refl _)
      | (with_reducible exact LeO.none _)
      | (with_reducible refine LeO.ite ?_ ?_)
      | (with_reducible refine LeO.bind ?_ (fun _ => ?_))
      | exact ih0 _ _ _ _ _ _ _ _ _
      | exact ih1 _ _ _ _ _ _ _ _ _ _ _
      | exact ih2 _ _ _ _ _ _ _ _ _
      | exact ih3 _ _ _ _ _ _ _ _
      | exact calendar_Deadline.mono _ _ _ _ _
      | exact cohousinglaw03_head.mono _
      | exact cohousingref03_Holidays.mono _ _
      | exact LeO.none _
      | refine LeO.ite ?_ ?_
      | refine LeO.bind ?_ (fun _ => ?_)
    · intro y0 y1 y2 y3 y4 y5 y6 y7 y8
      unfold cohousinglaw03_CalendarOrder.j2
      repeat' first
      | (with_reducible exact ih0 _ _ _ _ _ _ _ _ _)
      | (with_reducible exact ih1 _ _ _ _ _ _ _ _ _ _ _)
      | (with_reducible exact ih2 _ _ _ _ _ _ _ _ _)
      | (with_reducible exact ih3 _ _ _ _ _ _ _ _)
      | (with_reducible exact calendar_Deadline.mono _ _ _ _ _)
      | (with_reducible exact cohousinglaw03_head.mono _)
      | (with_reducible exact cohousingref03_Holidays.mono _ _)
      | (with_reducible exact LeO.refl _)
      | (with_reducible exact LeO.none _)
      | (with_reducible refine LeO.ite ?_ ?_)
      | (with_reducible refine LeO.bind ?_ (fun _ => ?_))
      | exact ih0 _ _ _ _ _ _ _ _ _
      | exact ih1 _ _ _ _ _ _ _ _ _ _ _
      | exact ih2 _ _ _ _ _ _ _ _ _
      | exact ih3 _ _ _ _ _ _ _ _
      | exact calendar_Deadline.mono _ _ _ _ _
      | exact cohousinglaw03_head.mono _
      | exact cohousingref03_Holidays.mono _ _
      | exact LeO.none _
      | refine LeO.ite ?_ ?_
      | refine LeO.bind ?_ (fun _ => ?_)
    · intro y0 y1 y2 y3 y4 y5 y6 y7
      unfold cohousinglaw03_CalendarOrder.j3
      repeat' first
      | (with_reducible exact ih0 _ _ _ _ _ _ _ _ _)
      | (with_reducible exact ih1 _ _ _ _ _ _ _ _ _ _ _)
      | (with_reducible exact ih2 _ _ _ _ _ _ _ _ _)
      | (with_reducible exact ih3 _ _ _ _ _ _ _ _)
      | (with_reducible exact calendar_Deadline.mono _ _ _ _ _)
      | (with_reducible exact cohousinglaw03_head.mono _)
      | (with_reducible exact cohousingref03_Holidays.mono _ _)
      | (with_reducible exact LeO.refl _)
      | (with_reducible exact LeO.none _)
      | (with_reducible refine LeO.ite ?_ ?_)
      | (with_reducible refine LeO.bind ?_ (fun _ => ?_))
      | exact ih0 _ _ _ _ _ _ _ _ _
      | exact ih1 _ _ _ _ _ _ _ _ _ _ _
      | exact ih2 _ _ _ _ _ _ _ _ _
      | exact ih3 _ _ _ _ _ _ _ _
      | exact calendar_Deadline.mono _ _ _ _ _
      | exact cohousinglaw03_head.mono _
      | exact cohousingref03_Holidays.mono _ _
      | exact LeO.none _
      | refine LeO.ite ?_ ?_
      | refine LeO.bind ?_ (fun _ => ?_)
theorem cohousinglaw03_CalendarOrder.mono : ∀ a0 a1 a2 a3 a4 a5 a6 k, LeO (cohousinglaw03_CalendarOrder.f k a0 a1 a2 a3 a4 a5 a6) (cohousinglaw03_CalendarOrder.f (k + 1) a0 a1 a2 a3 a4 a5 a6) := by
  intro a0 a1 a2 a3 a4 a5 a6 k
  obtain ⟨ih0, ih1, ih2, ih3⟩ := cohousinglaw03_CalendarOrder.mono_l k
  unfold cohousinglaw03_CalendarOrder.f
  repeat' first
      | (with_reducible exact ih0 _ _ _ _ _ _ _ _ _)
      | (with_reducible exact ih1 _ _ _ _ _ _ _ _ _ _ _)
      | (with_reducible exact ih2 _ _ _ _ _ _ _ _ _)
      | (with_reducible exact ih3 _ _ _ _ _ _ _ _)
      | (with_reducible exact calendar_Deadline.mono _ _ _ _ _)
      | (with_reducible exact cohousinglaw03_head.mono _)
      | (with_reducible exact cohousingref03_Holidays.mono _ _)
      | (with_reducible exact LeO.refl _)
      | (with_reducible exact LeO.none _)
      | (with_reducible refine LeO.ite ?_ ?_)
      | (with_reducible refine LeO.bind ?_ (fun _ => ?_))
      | exact ih0 _ _ _ _ _ _ _ _ _
      | exact ih1 _ _ _ _ _ _ _ _ _ _ _
      | exact ih2 _ _ _ _ _ _ _ _ _
      | exact ih3 _ _ _ _ _ _ _ _
      | exact calendar_Deadline.mono _ _ _ _ _
      | exact cohousinglaw03_head.mono _
      | exact cohousingref03_Holidays.mono _ _
      | exact LeO.none _
      | refine LeO.ite ?_ ?_
      | refine LeO.bind ?_ (fun _ => ?_)
def cohousinglaw03_CalendarOrder.T17 : Bool × List (List Nat × List Nat) := (true, [([], []), ([], []), ([], []), ([1, 2], [1, 2]), ([0, 3], [0, 3]), ([], []), ([], []), ([6], [6]), ([5, 7], [5, 7]), ([4, 8, 4], [4, 8]), ([9, 9, 0, 1, 2, 3, 4, 5, 6, 7, 8, 9], [9])])
def cohousinglaw03_CalendarOrder.B17 : List Nat := [0, 0, 0, 6, 15, 0, 0, 64, 224, 511, 1023]
theorem cohousinglaw03_CalendarOrder.tab17 : rtab .any (opsOf Tryd.f10 17) = cohousinglaw03_CalendarOrder.T17 := by kernel_rfl
theorem cohousinglaw03_CalendarOrder.bits17 : waitsOk cohousinglaw03_CalendarOrder.T17.2 cohousinglaw03_CalendarOrder.B17 = true := by kernel_rfl
set_option maxHeartbeats 8000000 in
set_option maxRecDepth 100000 in
theorem cohousinglaw03_CalendarOrder.calls (k : Nat) (a0 : Int) (a1 : Int) (a2 : Int) (a3 : Int) (a4 : Int) (a5 : Int) (A6 : Option Addr) (c6 : Nat) (l6 : List Int) (r : Bool) (w : World) (hr6 : Kd.C (Kd.int .i64) w A6 l6.length l6) (hc6 : l6.length ≤ c6) (HT : TabOK w) (h : cohousinglaw03_CalendarOrder.f k a0 a1 a2 a3 a4 a5 l6 = some r) :
    Calls Tryd.prog 10 #[.int .i64 a0, .int .i64 a1, .int .i64 a2, .int .i64 a3, .int .i64 a4, .int .i64 a5, .slice A6 l6.length c6] w fun e w' => e = .returned (.bool r) ∧ Below w.heap.size w w' := by
  have HTA := Aside0.mk HT
  clear HT
  have HR6 := Aside0.mk hr6
  have HC6 := Aside0.mk hc6
  clear hr6 hc6
  have HB := Aside0.mk (Below.refl w.heap.size w)
  have H : ((cohousinglaw03_head.f k).bind fun t311 => ((cohousinglaw03_few.f l6).bind fun t312 => (if t312 = true then ((cohousingref03_Holidays.f k l6).bind fun t313 => (if t313 = true then (if a0 < 0 then (cohousinglaw03_CalendarOrder.j0 k a0 a1 a2 a3 a4 a5 l6 t311 true) else (if a1 < a0 then (cohousinglaw03_CalendarOrder.j0 k a0 a1 a2 a3 a4 a5 l6 t311 true) else (if a1 > 36524 then (cohousinglaw03_CalendarOrder.j0 k a0 a1 a2 a3 a4 a5 l6 t311 true) else (if a2 < 0 then (cohousinglaw03_CalendarOrder.j0 k a0 a1 a2 a3 a4 a5 l6 t311 true) else (if a3 < a2 then (cohousinglaw03_CalendarOrder.j0 k a0 a1 a2 a3 a4 a5 l6 t311 true) else (cohousinglaw03_CalendarOrder.j0 k a0 a1 a2 a3 a4 a5 l6 t311 (decide (a3 > 1000)))))))) else (cohousinglaw03_CalendarOrder.j0 k a0 a1 a2 a3 a4 a5 l6 t311 true))) else (cohousinglaw03_CalendarOrder.j0 k a0 a1 a2 a3 a4 a5 l6 t311 true)))) = some r := h
  clear h
  replace H := Option.bind_eq_some_iff.mp H
  obtain ⟨t311, A80, H⟩ := H
  replace H : ((cohousinglaw03_few.f l6).bind fun t312 => (if t312 = true then ((cohousingref03_Holidays.f k l6).bind fun t313 => (if t313 = true then (if a0 < 0 then (cohousinglaw03_CalendarOrder.j0 k a0 a1 a2 a3 a4 a5 l6 t311 true) else (if a1 < a0 then (cohousinglaw03_CalendarOrder.j0 k a0 a1 a2 a3 a4 a5 l6 t311 true) else (if a1 > 36524 then (cohousinglaw03_CalendarOrder.j0 k a0 a1 a2 a3 a4 a5 l6 t311 true) else (if a2 < 0 then (cohousinglaw03_CalendarOrder.j0 k a0 a1 a2 a3 a4 a5 l6 t311 true) else (if a3 < a2 then (cohousinglaw03_CalendarOrder.j0 k a0 a1 a2 a3 a4 a5 l6 t311 true) else (cohousinglaw03_CalendarOrder.j0 k a0 a1 a2 a3 a4 a5 l6 t311 (decide (a3 > 1000)))))))) else (cohousinglaw03_CalendarOrder.j0 k a0 a1 a2 a3 a4 a5 l6 t311 true))) else (cohousinglaw03_CalendarOrder.j0 k a0 a1 a2 a3 a4 a5 l6 t311 true))) = some r := H
  have A8 := Aside0.mk A80
  clear A80
  have HC9 := Aside0.mk H
  clear H
  go_enter Tryd.func10, Tryd.ntmps10
  go_upto_region 2 with (first | ((with_reducible refine gate_callee (f := 11) rfl ?_); refine goesL_ (some 28) rfl rfl Tryd.func11 (by kernel_rfl) rfl #[] rfl (by (try simp only [List.map_toArray, List.map_cons, List.map_nil]); first | done | rfl | (simp only [List.length_drop, List.length_take]; rfl)) ?_; (with_reducible refine (cohousinglaw03_head.calls k  t311 _ ?side1 A8.out).mono ?_); (case side1 => exact TabOK.below HTA.out (by repeat (first | (with_reducible first | exact HB.out | apply below_alloc | apply pw_below_drewN | apply below_drew1) | exact HB.out))); rintro e w10 ⟨rfl, hb⟩; refine ⟨_, rfl, ?_⟩; have n0_ := Aside0.mk (below_step (by repeat (first | (with_reducible first | exact HB.out | apply below_alloc | apply pw_below_drewN | apply below_drew1) | exact HB.out)) hb); clear HB; have HB := n0_; clear n0_; (try clear hb); (try clear hb2); (try clear hk); (try clear hi)))
  (try simp only [Act.put, List.setIfInBounds_toArray, List.set_cons_zero, List.set_cons_succ])
  go_cut [62] (fun v62 wc => ∃ (kq : Nat) (x62_8 : Bool), v62 = .bool x62_8 ∧ Aside0 (cohousinglaw03_CalendarOrder.j0 kq a0 a1 a2 a3 a4 a5 l6 t311 x62_8 = some r) ∧ Aside0 (kq ≤ k) ∧ Aside0 (Below w.heap.size w wc))
  case first =>
    have H := HC9.out
    clear HC9
    replace H := Option.bind_eq_some_iff.mp H
    obtain ⟨t312, A110, H⟩ := H
    replace H : (if t312 = true then ((cohousingref03_Holidays.f k l6).bind fun t313 => (if t313 = true then (if a0 < 0 then (cohousinglaw03_CalendarOrder.j0 k a0 a1 a2 a3 a4 a5 l6 t311 true) else (if a1 < a0 then (cohousinglaw03_CalendarOrder.j0 k a0 a1 a2 a3 a4 a5 l6 t311 true) else (if a1 > 36524 then (cohousinglaw03_CalendarOrder.j0 k a0 a1 a2 a3 a4 a5 l6 t311 true) else (if a2 < 0 then (cohousinglaw03_CalendarOrder.j0 k a0 a1 a2 a3 a4 a5 l6 t311 true) else (if a3 < a2 then (cohousinglaw03_CalendarOrder.j0 k a0 a1 a2 a3 a4 a5 l6 t311 true) else (cohousinglaw03_CalendarOrder.j0 k a0 a1 a2 a3 a4 a5 l6 t311 (decide (a3 > 1000)))))))) else (cohousinglaw03_CalendarOrder.j0 k a0 a1 a2 a3 a4 a5 l6 t311 true))) else (cohousinglaw03_CalendarOrder.j0 k a0 a1 a2 a3 a4 a5 l6 t311 true)) = some r := H
    have A11 := Aside0.mk A110
    clear A110
    by_cases c12 : t312 = true
    · subst c12
      have H1 : ((cohousingref03_Holidays.f k l6).bind fun t313 => (if t313 = true then (if a0 < 0 then (cohousinglaw03_CalendarOrder.j0 k a0 a1 a2 a3 a4 a5 l6 t311 true) else (if a1 < a0 then (cohousinglaw03_CalendarOrder.j0 k a0 a1 a2 a3 a4 a5 l6 t311 true) else (if a1 > 36524 then (cohousinglaw03_CalendarOrder.j0 k a0 a1 a2 a3 a4 a5 l6 t311 true) else (if a2 < 0 then (cohousinglaw03_CalendarOrder.j0 k a0 a1 a2 a3 a4 a5 l6 t311 true) else (if a3 < a2 then (cohousinglaw03_CalendarOrder.j0 k a0 a1 a2 a3 a4 a5 l6 t311 true) else (cohousinglaw03_CalendarOrder.j0 k a0 a1 a2 a3 a4 a5 l6 t311 (decide (a3 > 1000)))))))) else (cohousinglaw03_CalendarOrder.j0 k a0 a1 a2 a3 a4 a5 l6 t311 true))) = some r := by rw [if_pos rfl] at H; exact H
      clear H
      have H := H1
      clear H1
      replace H := Option.bind_eq_some_iff.mp H
      obtain ⟨t313, A130, H⟩ := H
      replace H : (if t313 = true then (if a0 < 0 then (cohousinglaw03_CalendarOrder.j0 k a0 a1 a2 a3 a4 a5 l6 t311 true) else (if a1 < a0 then (cohousinglaw03_CalendarOrder.j0 k a0 a1 a2 a3 a4 a5 l6 t311 true) else (if a1 > 36524 then (cohousinglaw03_CalendarOrder.j0 k a0 a1 a2 a3 a4 a5 l6 t311 true) else (if a2 < 0 then (cohousinglaw03_CalendarOrder.j0 k a0 a1 a2 a3 a4 a5 l6 t311 true) else (if a3 < a2 then (cohousinglaw03_CalendarOrder.j0 k a0 a1 a2 a3 a4 a5 l6 t311 true) else (cohousinglaw03_CalendarOrder.j0 k a0 a1 a2 a3 a4 a5 l6 t311 (decide (a3 > 1000)))))))) else (cohousinglaw03_CalendarOrder.j0 k a0 a1 a2 a3 a4 a5 l6 t311 true)) = some r := H
      have A13 := Aside0.mk A130
      clear A130
      by_cases c14 : t313 = true
      · subst c14
        have H1 : (if a0 < 0 then (cohousinglaw03_CalendarOrder.j0 k a0 a1 a2 a3 a4 a5 l6 t311 true) else (if a1 < a0 then (cohousinglaw03_CalendarOrder.j0 k a0 a1 a2 a3 a4 a5 l6 t311 true) else (if a1 > 36524 then (cohousinglaw03_CalendarOrder.j0 k a0 a1 a2 a3 a4 a5 l6 t311 true) else (if a2 < 0 then (cohousinglaw03_CalendarOrder.j0 k a0 a1 a2 a3 a4 a5 l6 t311 true) else (if a3 < a2 then (cohousinglaw03_CalendarOrder.j0 k a0 a1 a2 a3 a4 a5 l6 t311 true) else (cohousinglaw03_CalendarOrder.j0 k a0 a1 a2 a3 a4 a5 l6 t311 (decide (a3 > 1000)))))))) = some r := by rw [if_pos rfl] at H; exact H
        clear H
        have H := H1
        clear H1
        by_cases c15 : a0 < 0
        · rw [if_pos c15] at H
          have c15b0 : decide (a0 < 0) = true := decide_eq_true c15
          clear c15
          (first | rw [c15b0] | (simp only [i64_w, i32_w]; rw [c15b0]) | skip)
          have H' := Aside0.mk H
          clear H
          go_wp2_with (first | ((with_reducible refine gate_callee (f := 12) rfl ?_); refine goesL_ (some 30) rfl rfl Tryd.func12 (by kernel_rfl) rfl #[.slice A6 l6.length c6] rfl (by (try simp only [List.map_toArray, List.map_cons, List.map_nil]); first | done | rfl | (simp only [List.length_drop, List.length_take]; rfl)) ?_; (with_reducible refine (cohousinglaw03_few.calls _ _ l6 true _ ?side1 ?side2 A11.out).mono ?_); (case side1 => repeat (first | exact (Kd.C_below HR6.out HB.out) | (with_reducible refine Kd.C_alloc ?_ _) | (with_reducible refine Kd.C_drewN ?_ _) | (with_reducible refine Kd.C_drew ?_))); (case side2 => exact HC6.out); rintro e w' ⟨rfl, ⟨nd, rfl⟩⟩; refine ⟨_, rfl, ?_⟩) | (go_at_call 27; (with_reducible refine (cohousingref03_Holidays.calls k _ _ l6 true _ ?side1 ?side2 A13.out).mono ?_); (case side1 => repeat (first | exact (Kd.C_below HR6.out (by repeat (first | (with_reducible first | exact HB.out | apply below_alloc | apply pw_below_drewN | apply below_drew1) | exact HB.out))) | (with_reducible refine Kd.C_alloc ?_ _) | (with_reducible refine Kd.C_drewN ?_ _) | (with_reducible refine Kd.C_drew ?_))); (case side2 => exact HC6.out); rintro e w' ⟨rfl, ⟨nd, rfl⟩⟩))
          go_meet
          case rel => exact ⟨_, (true), (by first | rfl | (simp; done) | (simp [*]; done)), H', ⟨by first | omega | exact Nat.le_refl _⟩, ⟨by repeat (first | (with_reducible first | exact HB.out | apply below_alloc | apply pw_below_drewN | apply below_drew1) | exact HB.out)⟩⟩
        · rw [if_neg c15] at H
          have c15b0 : decide (a0 < 0) = false := decide_eq_false c15
          clear c15
          (first | rw [c15b0] | (simp only [i64_w, i32_w]; rw [c15b0]) | skip)
          by_cases c16 : a1 < a0
          · rw [if_pos c16] at H
            have c16b0 : decide (a1 < a0) = true := decide_eq_true c16
            clear c16
            have H' := Aside0.mk H
            clear H
            go_wp2_with (first | ((with_reducible refine gate_callee (f := 12) rfl ?_); refine goesL_ (some 30) rfl rfl Tryd.func12 (by kernel_rfl) rfl #[.slice A6 l6.length c6] rfl (by (try simp only [List.map_toArray, List.map_cons, List.map_nil]); first | done | rfl | (simp only [List.length_drop, List.length_take]; rfl)) ?_; (with_reducible refine (cohousinglaw03_few.calls _ _ l6 true _ ?side1 ?side2 A11.out).mono ?_); (case side1 => repeat (first | exact (Kd.C_below HR6.out HB.out) | (with_reducible refine Kd.C_alloc ?_ _) | (with_reducible refine Kd.C_drewN ?_ _) | (with_reducible refine Kd.C_drew ?_))); (case side2 => exact HC6.out); rintro e w' ⟨rfl, ⟨nd, rfl⟩⟩; refine ⟨_, rfl, ?_⟩) | (go_at_call 27; (with_reducible refine (cohousingref03_Holidays.calls k _ _ l6 true _ ?side1 ?side2 A13.out).mono ?_); (case side1 => repeat (first | exact (Kd.C_below HR6.out (by repeat (first | (with_reducible first | exact HB.out | apply below_alloc | apply pw_below_drewN | apply below_drew1) | exact HB.out))) | (with_reducible refine Kd.C_alloc ?_ _) | (with_reducible refine Kd.C_drewN ?_ _) | (with_reducible refine Kd.C_drew ?_))); (case side2 => exact HC6.out); rintro e w' ⟨rfl, ⟨nd, rfl⟩⟩))
            go_meet
            case rel => exact ⟨_, (true), (by first | rfl | (simp; done) | (simp [*]; done)), H', ⟨by first | omega | exact Nat.le_refl _⟩, ⟨by repeat (first | (with_reducible first | exact HB.out | apply below_alloc | apply pw_below_drewN | apply below_drew1) | exact HB.out)⟩⟩
          · rw [if_neg c16] at H
            have c16b0 : decide (a1 < a0) = false := decide_eq_false c16
            clear c16
            by_cases c17 : a1 > 36524
            · rw [if_pos c17] at H
              have c17b0 : decide (36524 < a1) = true := decide_eq_true c17
              clear c17
              have H' := Aside0.mk H
              clear H
              go_wp2_with (first | ((with_reducible refine gate_callee (f := 12) rfl ?_); refine goesL_ (some 30) rfl rfl Tryd.func12 (by kernel_rfl) rfl #[.slice A6 l6.length c6] rfl (by (try simp only [List.map_toArray, List.map_cons, List.map_nil]); first | done | rfl | (simp only [List.length_drop, List.length_take]; rfl)) ?_; (with_reducible refine (cohousinglaw03_few.calls _ _ l6 true _ ?side1 ?side2 A11.out).mono ?_); (case side1 => repeat (first | exact (Kd.C_below HR6.out HB.out) | (with_reducible refine Kd.C_alloc ?_ _) | (with_reducible refine Kd.C_drewN ?_ _) | (with_reducible refine Kd.C_drew ?_))); (case side2 => exact HC6.out); rintro e w' ⟨rfl, ⟨nd, rfl⟩⟩; refine ⟨_, rfl, ?_⟩) | (go_at_call 27; (with_reducible refine (cohousingref03_Holidays.calls k _ _ l6 true _ ?side1 ?side2 A13.out).mono ?_); (case side1 => repeat (first | exact (Kd.C_below HR6.out (by repeat (first | (with_reducible first | exact HB.out | apply below_alloc | apply pw_below_drewN | apply below_drew1) | exact HB.out))) | (with_reducible refine Kd.C_alloc ?_ _) | (with_reducible refine Kd.C_drewN ?_ _) | (with_reducible refine Kd.C_drew ?_))); (case side2 => exact HC6.out); rintro e w' ⟨rfl, ⟨nd, rfl⟩⟩))
              go_meet
              case rel => exact ⟨_, (true), (by first | rfl | (simp; done) | (simp [*]; done)), H', ⟨by first | omega | exact Nat.le_refl _⟩, ⟨by repeat (first | (with_reducible first | exact HB.out | apply below_alloc | apply pw_below_drewN | apply below_drew1) | exact HB.out)⟩⟩
            · rw [if_neg c17] at H
              have c17b0 : decide (36524 < a1) = false := decide_eq_false c17
              clear c17
              by_cases c18 : a2 < 0
              · rw [if_pos c18] at H
                have c18b0 : decide (a2 < 0) = true := decide_eq_true c18
                clear c18
                have H' := Aside0.mk H
                clear H
                go_wp2_with (first | ((with_reducible refine gate_callee (f := 12) rfl ?_); refine goesL_ (some 30) rfl rfl Tryd.func12 (by kernel_rfl) rfl #[.slice A6 l6.length c6] rfl (by (try simp only [List.map_toArray, List.map_cons, List.map_nil]); first | done | rfl | (simp only [List.length_drop, List.length_take]; rfl)) ?_; (with_reducible refine (cohousinglaw03_few.calls _ _ l6 true _ ?side1 ?side2 A11.out).mono ?_); (case side1 => repeat (first | exact (Kd.C_below HR6.out HB.out) | (with_reducible refine Kd.C_alloc ?_ _) | (with_reducible refine Kd.C_drewN ?_ _) | (with_reducible refine Kd.C_drew ?_))); (case side2 => exact HC6.out); rintro e w' ⟨rfl, ⟨nd, rfl⟩⟩; refine ⟨_, rfl, ?_⟩) | (go_at_call 27; (with_reducible refine (cohousingref03_Holidays.calls k _ _ l6 true _ ?side1 ?side2 A13.out).mono ?_); (case side1 => repeat (first | exact (Kd.C_below HR6.out (by repeat (first | (with_reducible first | exact HB.out | apply below_alloc | apply pw_below_drewN | apply below_drew1) | exact HB.out))) | (with_reducible refine Kd.C_alloc ?_ _) | (with_reducible refine Kd.C_drewN ?_ _) | (with_reducible refine Kd.C_drew ?_))); (case side2 => exact HC6.out); rintro e w' ⟨rfl, ⟨nd, rfl⟩⟩))
                go_meet
                case rel => exact ⟨_, (true), (by first | rfl | (simp; done) | (simp [*]; done)), H', ⟨by first | omega | exact Nat.le_refl _⟩, ⟨by repeat (first | (with_reducible first | exact HB.out | apply below_alloc | apply pw_below_drewN | apply below_drew1) | exact HB.out)⟩⟩
              · rw [if_neg c18] at H
                have c18b0 : decide (a2 < 0) = false := decide_eq_false c18
                clear c18
                by_cases c19 : a3 < a2
                · rw [if_pos c19] at H
                  have c19b0 : decide (a3 < a2) = true := decide_eq_true c19
                  clear c19
                  have H' := Aside0.mk H
                  clear H
                  go_wp2_with (first | ((with_reducible refine gate_callee (f := 12) rfl ?_); refine goesL_ (some 30) rfl rfl Tryd.func12 (by kernel_rfl) rfl #[.slice A6 l6.length c6] rfl (by (try simp only [List.map_toArray, List.map_cons, List.map_nil]); first | done | rfl | (simp only [List.length_drop, List.length_take]; rfl)) ?_; (with_reducible refine (cohousinglaw03_few.calls _ _ l6 true _ ?side1 ?side2 A11.out).mono ?_); (case side1 => repeat (first | exact (Kd.C_below HR6.out HB.out) | (with_reducible refine Kd.C_alloc ?_ _) | (with_reducible refine Kd.C_drewN ?_ _) | (with_reducible refine Kd.C_drew ?_))); (case side2 => exact HC6.out); rintro e w' ⟨rfl, ⟨nd, rfl⟩⟩; refine ⟨_, rfl, ?_⟩) | (go_at_call 27; (with_reducible refine (cohousingref03_Holidays.calls k _ _ l6 true _ ?side1 ?side2 A13.out).mono ?_); (case side1 => repeat (first | exact (Kd.C_below HR6.out (by repeat (first | (with_reducible first | exact HB.out | apply below_alloc | apply pw_below_drewN | apply below_drew1) | exact HB.out))) | (with_reducible refine Kd.C_alloc ?_ _) | (with_reducible refine Kd.C_drewN ?_ _) | (with_reducible refine Kd.C_drew ?_))); (case side2 => exact HC6.out); rintro e w' ⟨rfl, ⟨nd, rfl⟩⟩))
                  go_meet
                  case rel => exact ⟨_, (true), (by first | rfl | (simp; done) | (simp [*]; done)), H', ⟨by first | omega | exact Nat.le_refl _⟩, ⟨by repeat (first | (with_reducible first | exact HB.out | apply below_alloc | apply pw_below_drewN | apply below_drew1) | exact HB.out)⟩⟩
                · rw [if_neg c19] at H
                  have c19b0 : decide (a3 < a2) = false := decide_eq_false c19
                  clear c19
                  have H' := Aside0.mk H
                  clear H
                  go_wp2_with (first | ((with_reducible refine gate_callee (f := 12) rfl ?_); refine goesL_ (some 30) rfl rfl Tryd.func12 (by kernel_rfl) rfl #[.slice A6 l6.length c6] rfl (by (try simp only [List.map_toArray, List.map_cons, List.map_nil]); first | done | rfl | (simp only [List.length_drop, List.length_take]; rfl)) ?_; (with_reducible refine (cohousinglaw03_few.calls _ _ l6 true _ ?side1 ?side2 A11.out).mono ?_); (case side1 => repeat (first | exact (Kd.C_below HR6.out HB.out) | (with_reducible refine Kd.C_alloc ?_ _) | (with_reducible refine Kd.C_drewN ?_ _) | (with_reducible refine Kd.C_drew ?_))); (case side2 => exact HC6.out); rintro e w' ⟨rfl, ⟨nd, rfl⟩⟩; refine ⟨_, rfl, ?_⟩) | (go_at_call 27; (with_reducible refine (cohousingref03_Holidays.calls k _ _ l6 true _ ?side1 ?side2 A13.out).mono ?_); (case side1 => repeat (first | exact (Kd.C_below HR6.out (by repeat (first | (with_reducible first | exact HB.out | apply below_alloc | apply pw_below_drewN | apply below_drew1) | exact HB.out))) | (with_reducible refine Kd.C_alloc ?_ _) | (with_reducible refine Kd.C_drewN ?_ _) | (with_reducible refine Kd.C_drew ?_))); (case side2 => exact HC6.out); rintro e w' ⟨rfl, ⟨nd, rfl⟩⟩))
                  go_meet
                  case rel => exact ⟨_, (decide (a3 > 1000)), (by first | rfl | (simp; done) | (simp [*]; done)), H', ⟨by first | omega | exact Nat.le_refl _⟩, ⟨by repeat (first | (with_reducible first | exact HB.out | apply below_alloc | apply pw_below_drewN | apply below_drew1) | exact HB.out)⟩⟩
      · replace c14 := Bool.eq_false_iff.mpr c14
        subst c14
        have H1 : (cohousinglaw03_CalendarOrder.j0 k a0 a1 a2 a3 a4 a5 l6 t311 true) = some r := by rw [if_neg (show ¬ (false = true) by decide)] at H; exact H
        clear H
        have H := H1
        clear H1
        have H' := Aside0.mk H
        clear H
        go_wp2_with (first | ((with_reducible refine gate_callee (f := 12) rfl ?_); refine goesL_ (some 30) rfl rfl Tryd.func12 (by kernel_rfl) rfl #[.slice A6 l6.length c6] rfl (by (try simp only [List.map_toArray, List.map_cons, List.map_nil]); first | done | rfl | (simp only [List.length_drop, List.length_take]; rfl)) ?_; (with_reducible refine (cohousinglaw03_few.calls _ _ l6 true _ ?side1 ?side2 A11.out).mono ?_); (case side1 => repeat (first | exact (Kd.C_below HR6.out HB.out) | (with_reducible refine Kd.C_alloc ?_ _) | (with_reducible refine Kd.C_drewN ?_ _) | (with_reducible refine Kd.C_drew ?_))); (case side2 => exact HC6.out); rintro e w' ⟨rfl, ⟨nd, rfl⟩⟩; refine ⟨_, rfl, ?_⟩) | (go_at_call 27; (with_reducible refine (cohousingref03_Holidays.calls k _ _ l6 false _ ?side1 ?side2 A13.out).mono ?_); (case side1 => repeat (first | exact (Kd.C_below HR6.out (by repeat (first | (with_reducible first | exact HB.out | apply below_alloc | apply pw_below_drewN | apply below_drew1) | exact HB.out))) | (with_reducible refine Kd.C_alloc ?_ _) | (with_reducible refine Kd.C_drewN ?_ _) | (with_reducible refine Kd.C_drew ?_))); (case side2 => exact HC6.out); rintro e w' ⟨rfl, ⟨nd, rfl⟩⟩))
        go_meet
        case rel => exact ⟨_, (true), (by first | rfl | (simp; done) | (simp [*]; done)), H', ⟨by first | omega | exact Nat.le_refl _⟩, ⟨by repeat (first | (with_reducible first | exact HB.out | apply below_alloc | apply pw_below_drewN | apply below_drew1) | exact HB.out)⟩⟩
    · replace c12 := Bool.eq_false_iff.mpr c12
      subst c12
      have H1 : (cohousinglaw03_CalendarOrder.j0 k a0 a1 a2 a3 a4 a5 l6 t311 true) = some r := by rw [if_neg (show ¬ (false = true) by decide)] at H; exact H
      clear H
      have H := H1
      clear H1
      have H' := Aside0.mk H
      clear H
      go_wp2_with (first | ((with_reducible refine gate_callee (f := 12) rfl ?_); refine goesL_ (some 30) rfl rfl Tryd.func12 (by kernel_rfl) rfl #[.slice A6 l6.length c6] rfl (by (try simp only [List.map_toArray, List.map_cons, List.map_nil]); first | done | rfl | (simp only [List.length_drop, List.length_take]; rfl)) ?_; (with_reducible refine (cohousinglaw03_few.calls _ _ l6 false _ ?side1 ?side2 A11.out).mono ?_); (case side1 => repeat (first | exact (Kd.C_below HR6.out HB.out) | (with_reducible refine Kd.C_alloc ?_ _) | (with_reducible refine Kd.C_drewN ?_ _) | (with_reducible refine Kd.C_drew ?_))); (case side2 => exact HC6.out); rintro e w' ⟨rfl, ⟨nd, rfl⟩⟩; refine ⟨_, rfl, ?_⟩))
      go_meet
      case rel => exact ⟨_, (true), (by first | rfl | (simp; done) | (simp [*]; done)), H', ⟨by first | omega | exact Nat.le_refl _⟩, ⟨by repeat (first | (with_reducible first | exact HB.out | apply below_alloc | apply pw_below_drewN | apply below_drew1) | exact HB.out)⟩⟩
  case rest =>
    clear HC9
    try clear c1
    try clear p2
    try clear c6
    try clear c10
    try clear c11
    try clear c12
    try clear c14
    try clear c15
    try clear c15b0
    try clear c16
    try clear c16b0
    try clear c17
    try clear c17b0
    try clear c18
    try clear c18b0
    try clear c19
    try clear c19b0
    obtain ⟨kq, x62_8, rfl, HA, HJ8, HB⟩ := hcut
    cases kq with
    | zero => exact absurd HA.out (by simp [cohousinglaw03_CalendarOrder.j0])
    | succ kj8 =>
      have H := HA.out
      clear HA
      simp only [cohousinglaw03_CalendarOrder.j0] at H
      by_cases c20 : x62_8 = true
      · subst c20
        have H1 : (some t311) = some r := by rw [if_pos rfl] at H; exact H
        clear H
        have H := H1
        clear H1
        obtain rfl := Option.some.inj H
        go_wp2
        go_ret
        exact ⟨by first | rfl | (simp [errW_none, errW_some] <;> rfl) | (simp [*, errW_none, errW_some] <;> rfl), by repeat (first | (with_reducible first | exact HB.out | apply below_alloc | apply pw_below_drewN | apply below_drew1) | exact HB.out)⟩
      · replace c20 := Bool.eq_false_iff.mpr c20
        subst c20
        have H1 : ((calendar_Deadline.f kj8 a0 a2 a4 l6).bind fun bt314 => (if a4 = 1 then (cohousinglaw03_CalendarOrder.j1 kj8 a0 a1 a2 a3 a4 a5 l6 t311 bt314.1 bt314.2 false) else (cohousinglaw03_CalendarOrder.j1 kj8 a0 a1 a2 a3 a4 a5 l6 t311 bt314.1 bt314.2 (a4 != 2)))) = some r := by rw [if_neg (show ¬ (false = true) by decide)] at H; exact H
        clear H
        have H := H1
        clear H1
        replace H := Option.bind_eq_some_iff.mp H
        obtain ⟨⟨t314, t315⟩, A210, H⟩ := H
        replace H : (if a4 = 1 then (cohousinglaw03_CalendarOrder.j1 kj8 a0 a1 a2 a3 a4 a5 l6 t311 t314 t315 false) else (cohousinglaw03_CalendarOrder.j1 kj8 a0 a1 a2 a3 a4 a5 l6 t311 t314 t315 (a4 != 2))) = some r := H
        have A21 := Aside0.mk A210
        clear A210
        have HC22 := Aside0.mk H
        clear H
        go_upto_region 5 with (first | ((with_reducible refine gate_callee (f := 25) rfl ?_); refine goesL_ (some 69) rfl rfl Tryd.func25 (by kernel_rfl) rfl #[.int .i64 a0, .int .i64 a2, .int .i64 a4, .slice A6 l6.length c6] rfl (by (try simp only [List.map_toArray, List.map_cons, List.map_nil]); first | done | rfl | (simp only [List.length_drop, List.length_take]; rfl)) ?_; (with_reducible refine (calendar_Deadline.calls kj8 a0 a2 a4 _ _ l6 t314 t315 _ ?side1 ?side2 A21.out).mono ?_); (case side1 => repeat (first | exact (Kd.C_below HR6.out HB.out) | (with_reducible refine Kd.C_alloc ?_ _) | (with_reducible refine Kd.C_drewN ?_ _) | (with_reducible refine Kd.C_drew ?_))); (case side2 => exact HC6.out); rintro e w' ⟨rfl, ⟨nd, rfl⟩⟩; refine ⟨_, rfl, ?_⟩))
        (try simp only [Act.put, List.setIfInBounds_toArray, List.set_cons_zero, List.set_cons_succ])
        go_cut [77] (fun v77 wc => ∃ (kq : Nat) (x77_21 : Bool), v77 = .bool x77_21 ∧ Aside0 (cohousinglaw03_CalendarOrder.j1 kq a0 a1 a2 a3 a4 a5 l6 t311 t314 t315 x77_21 = some r) ∧ Aside0 (kq ≤ kj8) ∧ Aside0 (Below w.heap.size w wc))
        case first =>
          have H := HC22.out
          clear HC22
          by_cases c23 : a4 = 1
          · rw [if_pos c23] at H
            have c23b0 : (a4 == 1) = true := beq_iff_eq.mpr c23
            have c23b1 : (a4 != 1) = false := bne_eq_false_iff_eq.mpr c23
            clear c23
            (first | rw [c23b0] | (simp only [i64_w, i32_w]; rw [c23b0]) | skip)
            have H' := Aside0.mk H
            clear H
            go_wp2
            go_meet
            case rel => exact ⟨_, (false), (by first | rfl | (simp; done) | (simp [*]; done)), H', ⟨by have := HJ8.out; first | omega | exact Nat.le_refl _⟩, ⟨by repeat (first | (with_reducible first | exact HB.out | apply below_alloc | apply pw_below_drewN | apply below_drew1) | exact HB.out)⟩⟩
          · rw [if_neg c23] at H
            have c23b0 : (a4 == 1) = false := beq_eq_false_iff_ne.mpr c23
            have c23b1 : (a4 != 1) = true := bne_iff_ne.mpr c23
            (first | rw [c23b0] | (simp only [i64_w, i32_w]; rw [c23b0]) | skip)
            have H' := Aside0.mk H
            clear H
            go_wp2
            go_meet
            case rel => exact ⟨_, ((a4 != 2)), (by first | rfl | (simp; done) | (simp [*]; done)), H', ⟨by have := HJ8.out; first | omega | exact Nat.le_refl _⟩, ⟨by repeat (first | (with_reducible first | exact HB.out | apply below_alloc | apply pw_below_drewN | apply below_drew1) | exact HB.out)⟩⟩
        case rest =>
          clear HC22
          try clear c1
          try clear c2
          try clear p2
          try clear c6
          try clear c10
          try clear c11
          try clear c12
          try clear c14
          try clear c15
          try clear c15b0
          try clear c16
          try clear c16b0
          try clear c17
          try clear c17b0
          try clear c18
          try clear c18b0
          try clear c19
          try clear c19b0
          try clear c20
          try clear c23
          try clear c23b0
          try clear c23b1
          try clear p2
          obtain ⟨kq, x77_21, rfl, HA, HJ21, HB⟩ := hcut
          cases kq with
          | zero => exact absurd HA.out (by simp [cohousinglaw03_CalendarOrder.j1])
          | succ kj21 =>
            have H := HA.out
            clear HA
            simp only [cohousinglaw03_CalendarOrder.j1] at H
            by_cases c24 : x77_21 = true
            · subst c24
              have H1 : (if t311 = true then (some (t315 == 1)) else (some false)) = some r := by rw [if_pos rfl] at H; exact H
              clear H
              have H := H1
              clear H1
              by_cases c25 : t311 = true
              · subst c25
                have H1 : (some (t315 == 1)) = some r := by rw [if_pos rfl] at H; exact H
                clear H
                have H := H1
                clear H1
                obtain rfl := Option.some.inj H
                go_wp2
                go_ret
                exact ⟨by first | rfl | (simp [errW_none, errW_some] <;> rfl) | (simp [*, errW_none, errW_some] <;> rfl), by repeat (first | (with_reducible first | exact HB.out | apply below_alloc | apply pw_below_drewN | apply below_drew1) | exact HB.out)⟩
              · replace c25 := Bool.eq_false_iff.mpr c25
                subst c25
                have H1 : (some false) = some r := by rw [if_neg (show ¬ (false = true) by decide)] at H; exact H
                clear H
                have H := H1
                clear H1
                obtain rfl := Option.some.inj H
                go_wp2
                go_ret
                exact ⟨by first | rfl | (simp [errW_none, errW_some] <;> rfl) | (simp [*, errW_none, errW_some] <;> rfl), by repeat (first | (with_reducible first | exact HB.out | apply below_alloc | apply pw_below_drewN | apply below_drew1) | exact HB.out)⟩
            · replace c24 := Bool.eq_false_iff.mpr c24
              subst c24
              have H1 : ((calendar_Deadline.f kj21 a1 a3 a4 l6).bind fun bt316 => (if bt316.2 = 0 then (if t315 = 0 then (cohousinglaw03_CalendarOrder.j2 kj21 a0 a2 a4 a5 l6 t311 t314 t315 (decide (t314 > bt316.1))) else (cohousinglaw03_CalendarOrder.j2 kj21 a0 a2 a4 a5 l6 t311 t314 t315 true)) else (cohousinglaw03_CalendarOrder.j2 kj21 a0 a2 a4 a5 l6 t311 t314 t315 false))) = some r := by rw [if_neg (show ¬ (false = true) by decide)] at H; exact H
              clear H
              have H := H1
              clear H1
              replace H := Option.bind_eq_some_iff.mp H
              obtain ⟨⟨t316, t317⟩, A260, H⟩ := H
              replace H : (if t317 = 0 then (if t315 = 0 then (cohousinglaw03_CalendarOrder.j2 kj21 a0 a2 a4 a5 l6 t311 t314 t315 (decide (t314 > t316))) else (cohousinglaw03_CalendarOrder.j2 kj21 a0 a2 a4 a5 l6 t311 t314 t315 true)) else (cohousinglaw03_CalendarOrder.j2 kj21 a0 a2 a4 a5 l6 t311 t314 t315 false)) = some r := H
              have A26 := Aside0.mk A260
              clear A260
              have HC27 := Aside0.mk H
              clear H
              go_upto_region 8 with (first | ((with_reducible refine gate_callee (f := 25) rfl ?_); refine goesL_ (some 88) rfl rfl Tryd.func25 (by kernel_rfl) rfl #[.int .i64 a1, .int .i64 a3, .int .i64 a4, .slice A6 l6.length c6] rfl (by (try simp only [List.map_toArray, List.map_cons, List.map_nil]); first | done | rfl | (simp only [List.length_drop, List.length_take]; rfl)) ?_; (with_reducible refine (calendar_Deadline.calls kj21 a1 a3 a4 _ _ l6 t316 t317 _ ?side1 ?side2 A26.out).mono ?_); (case side1 => repeat (first | exact (Kd.C_below HR6.out HB.out) | (with_reducible refine Kd.C_alloc ?_ _) | (with_reducible refine Kd.C_drewN ?_ _) | (with_reducible refine Kd.C_drew ?_))); (case side2 => exact HC6.out); rintro e w' ⟨rfl, ⟨nd, rfl⟩⟩; refine ⟨_, rfl, ?_⟩))
              (try simp only [Act.put, List.setIfInBounds_toArray, List.set_cons_zero, List.set_cons_succ])
              go_cut [101] (fun v101 wc => ∃ (kq : Nat) (x101_26 : Bool), v101 = .bool x101_26 ∧ Aside0 (cohousinglaw03_CalendarOrder.j2 kq a0 a2 a4 a5 l6 t311 t314 t315 x101_26 = some r) ∧ Aside0 (kq ≤ kj21) ∧ Aside0 (Below w.heap.size w wc))
              case first =>
                have H := HC27.out
                clear HC27
                by_cases c28 : t317 = 0
                · rw [if_pos c28] at H
                  have c28b0 : (t317 == 0) = true := beq_iff_eq.mpr c28
                  have c28b1 : (t317 != 0) = false := bne_eq_false_iff_eq.mpr c28
                  clear c28
                  (first | rw [c28b0] | (simp only [i64_w, i32_w]; rw [c28b0]) | skip)
                  by_cases c29 : t315 = 0
                  · rw [if_pos c29] at H
                    have c29b0 : (t315 == 0) = true := beq_iff_eq.mpr c29
                    have c29b1 : (t315 != 0) = false := bne_eq_false_iff_eq.mpr c29
                    clear c29
                    have H' := Aside0.mk H
                    clear H
                    go_wp2
                    go_meet
                    case rel => exact ⟨_, (decide (t314 > t316)), (by first | rfl | (simp; done) | (simp [*]; done)), H', ⟨by have := HJ8.out; have := HJ21.out; first | omega | exact Nat.le_refl _⟩, ⟨by repeat (first | (with_reducible first | exact HB.out | apply below_alloc | apply pw_below_drewN | apply below_drew1) | exact HB.out)⟩⟩
                  · rw [if_neg c29] at H
                    have c29b0 : (t315 == 0) = false := beq_eq_false_iff_ne.mpr c29
                    have c29b1 : (t315 != 0) = true := bne_iff_ne.mpr c29
                    have H' := Aside0.mk H
                    clear H
                    go_wp2
                    go_meet
                    case rel => exact ⟨_, (true), (by first | rfl | (simp; done) | (simp [*]; done)), H', ⟨by have := HJ8.out; have := HJ21.out; first | omega | exact Nat.le_refl _⟩, ⟨by repeat (first | (with_reducible first | exact HB.out | apply below_alloc | apply pw_below_drewN | apply below_drew1) | exact HB.out)⟩⟩
                · rw [if_neg c28] at H
                  have c28b0 : (t317 == 0) = false := beq_eq_false_iff_ne.mpr c28
                  have c28b1 : (t317 != 0) = true := bne_iff_ne.mpr c28
                  (first | rw [c28b0] | (simp only [i64_w, i32_w]; rw [c28b0]) | skip)
                  have H' := Aside0.mk H
                  clear H
                  go_wp2
                  go_meet
                  case rel => exact ⟨_, (false), (by first | rfl | (simp; done) | (simp [*]; done)), H', ⟨by have := HJ8.out; have := HJ21.out; first | omega | exact Nat.le_refl _⟩, ⟨by repeat (first | (with_reducible first | exact HB.out | apply below_alloc | apply pw_below_drewN | apply below_drew1) | exact HB.out)⟩⟩
              case rest =>
                clear HC27
                try clear c1
                try clear c2
                try clear p2
                try clear c6
                try clear c10
                try clear c11
                try clear c12
                try clear c14
                try clear c15
                try clear c15b0
                try clear c16
                try clear c16b0
                try clear c17
                try clear c17b0
                try clear c18
                try clear c18b0
                try clear c19
                try clear c19b0
                try clear c20
                try clear c23
                try clear c23b0
                try clear c23b1
                try clear c24
                try clear c25
                try clear c28
                try clear c28b0
                try clear c28b1
                try clear c29
                try clear c29b0
                try clear c29b1
                try clear p2
                obtain ⟨kq, x101_26, rfl, HA, HJ26, HB⟩ := hcut
                cases kq with
                | zero => exact absurd HA.out (by simp [cohousinglaw03_CalendarOrder.j2])
                | succ kj26 =>
                  have H := HA.out
                  clear HA
                  simp only [cohousinglaw03_CalendarOrder.j2] at H
                  by_cases c30 : x101_26 = true
                  · subst c30
                    have H1 : (some false) = some r := by rw [if_pos rfl] at H; exact H
                    clear H
                    have H := H1
                    clear H1
                    obtain rfl := Option.some.inj H
                    go_wp2
                    go_ret
                    exact ⟨by first | rfl | (simp [errW_none, errW_some] <;> rfl) | (simp [*, errW_none, errW_some] <;> rfl), by repeat (first | (with_reducible first | exact HB.out | apply below_alloc | apply pw_below_drewN | apply below_drew1) | exact HB.out)⟩
                  · replace c30 := Bool.eq_false_iff.mpr c30
                    subst c30
                    have H1 : (if (wrap64 (a0 + 3)) ≤ 36524 then ((calendar_Deadline.f kj26 a0 a2 2 l6).bind fun bt318 => ((calendar_Deadline.f kj26 (wrap64 (a0 + 3)) a2 1 l6).bind fun bt320 => (if t311 = true then (if bt318.2 = bt320.2 then (cohousinglaw03_CalendarOrder.j3 kj26 a0 a2 a4 a5 l6 (bt318.1 == bt320.1) t314 t315) else (cohousinglaw03_CalendarOrder.j3 kj26 a0 a2 a4 a5 l6 false t314 t315)) else (cohousinglaw03_CalendarOrder.j3 kj26 a0 a2 a4 a5 l6 false t314 t315)))) else (cohousinglaw03_CalendarOrder.j3 kj26 a0 a2 a4 a5 l6 t311 t314 t315)) = some r := by rw [if_neg (show ¬ (false = true) by decide)] at H; exact H
                    clear H
                    have H := H1
                    clear H1
                    have HC31 := Aside0.mk H
                    clear H
                    go_upto_if 104 with (fail)
                    go_cut [15] (fun v15 wc => ∃ (kq : Nat) (x15_30 : Bool), v15 = .bool x15_30 ∧ Aside0 (cohousinglaw03_CalendarOrder.j3 kq a0 a2 a4 a5 l6 x15_30 t314 t315 = some r) ∧ Aside0 (kq ≤ kj26) ∧ Aside0 (Below w.heap.size w wc))
                    case first =>
                      have H := HC31.out
                      clear HC31
                      by_cases c32 : (wrap64 (a0 + 3)) ≤ 36524
                      · rw [if_pos c32] at H
                        have c32b0 : decide ((wrap64 (a0 + 3)) ≤ 36524) = true := decide_eq_true c32
                        clear c32
                        (first | rw [c32b0] | (simp only [i64_w, i32_w]; rw [c32b0]) | skip)
                        replace H := Option.bind_eq_some_iff.mp H
                        obtain ⟨⟨t318, t319⟩, A330, H⟩ := H
                        replace H : ((calendar_Deadline.f kj26 (wrap64 (a0 + 3)) a2 1 l6).bind fun bt320 => (if t311 = true then (if t319 = bt320.2 then (cohousinglaw03_CalendarOrder.j3 kj26 a0 a2 a4 a5 l6 (t318 == bt320.1) t314 t315) else (cohousinglaw03_CalendarOrder.j3 kj26 a0 a2 a4 a5 l6 false t314 t315)) else (cohousinglaw03_CalendarOrder.j3 kj26 a0 a2 a4 a5 l6 false t314 t315))) = some r := H
                        have A33 := Aside0.mk A330
                        clear A330
                        replace H := Option.bind_eq_some_iff.mp H
                        obtain ⟨⟨t320, t321⟩, A340, H⟩ := H
                        replace H : (if t311 = true then (if t319 = t321 then (cohousinglaw03_CalendarOrder.j3 kj26 a0 a2 a4 a5 l6 (t318 == t320) t314 t315) else (cohousinglaw03_CalendarOrder.j3 kj26 a0 a2 a4 a5 l6 false t314 t315)) else (cohousinglaw03_CalendarOrder.j3 kj26 a0 a2 a4 a5 l6 false t314 t315)) = some r := H
                        have A34 := Aside0.mk A340
                        clear A340
                        by_cases c35 : t311 = true
                        · subst c35
                          have H1 : (if t319 = t321 then (cohousinglaw03_CalendarOrder.j3 kj26 a0 a2 a4 a5 l6 (t318 == t320) t314 t315) else (cohousinglaw03_CalendarOrder.j3 kj26 a0 a2 a4 a5 l6 false t314 t315)) = some r := by rw [if_pos rfl] at H; exact H
                          clear H
                          have H := H1
                          clear H1
                          by_cases c36 : t319 = t321
                          · rw [if_pos c36] at H
                            have c36b0 : (t319 == t321) = true := beq_iff_eq.mpr c36
                            have c36b1 : (t319 != t321) = false := bne_eq_false_iff_eq.mpr c36
                            clear c36
                            have H' := Aside0.mk H
                            clear H
                            go_wp2_with (first | ((with_reducible refine gate_callee (f := 25) rfl ?_); refine goesL_ (some 109) rfl rfl Tryd.func25 (by kernel_rfl) rfl #[.int .i64 a0, .int .i64 a2, .int .i64 2, .slice A6 l6.length c6] rfl (by (try simp only [List.map_toArray, List.map_cons, List.map_nil]); first | done | rfl | (simp only [List.length_drop, List.length_take]; rfl)) ?_; (with_reducible refine (calendar_Deadline.calls kj26 a0 a2 2 _ _ l6 t318 t319 _ ?side1 ?side2 A33.out).mono ?_); (case side1 => repeat (first | exact (Kd.C_below HR6.out HB.out) | (with_reducible refine Kd.C_alloc ?_ _) | (with_reducible refine Kd.C_drewN ?_ _) | (with_reducible refine Kd.C_drew ?_))); (case side2 => exact HC6.out); rintro e w' ⟨rfl, ⟨nd, rfl⟩⟩; refine ⟨_, rfl, ?_⟩) | ((with_reducible refine gate_callee (f := 25) rfl ?_); refine goesL_ (some 117) rfl rfl Tryd.func25 (by kernel_rfl) rfl #[.int .i64 (wrap64 (a0 + 3)), .int .i64 a2, .int .i64 1, .slice A6 l6.length c6] rfl (by (try simp only [List.map_toArray, List.map_cons, List.map_nil]); first | done | rfl | (simp only [List.length_drop, List.length_take]; rfl)) ?_; (with_reducible refine (calendar_Deadline.calls kj26 (wrap64 (a0 + 3)) a2 1 _ _ l6 t320 t321 _ ?side1 ?side2 A34.out).mono ?_); (case side1 => repeat (first | exact (Kd.C_below HR6.out (by repeat (first | (with_reducible first | exact HB.out | apply below_alloc | apply pw_below_drewN | apply below_drew1) | exact HB.out))) | (with_reducible refine Kd.C_alloc ?_ _) | (with_reducible refine Kd.C_drewN ?_ _) | (with_reducible refine Kd.C_drew ?_))); (case side2 => exact HC6.out); rintro e w' ⟨rfl, ⟨nd, rfl⟩⟩; refine ⟨_, rfl, ?_⟩))
                            go_meet
                            case rel => exact ⟨_, ((t318 == t320)), (by first | rfl | (simp; done) | (simp [*]; done)), H', ⟨by have := HJ8.out; have := HJ21.out; have := HJ26.out; first | omega | exact Nat.le_refl _⟩, ⟨by repeat (first | (with_reducible first | exact HB.out | apply below_alloc | apply pw_below_drewN | apply below_drew1) | exact HB.out)⟩⟩
                          · rw [if_neg c36] at H
                            have c36b0 : (t319 == t321) = false := beq_eq_false_iff_ne.mpr c36
                            have c36b1 : (t319 != t321) = true := bne_iff_ne.mpr c36
                            have H' := Aside0.mk H
                            clear H
                            go_wp2_with (first | ((with_reducible refine gate_callee (f := 25) rfl ?_); refine goesL_ (some 109) rfl rfl Tryd.func25 (by kernel_rfl) rfl #[.int .i64 a0, .int .i64 a2, .int .i64 2, .slice A6 l6.length c6] rfl (by (try simp only [List.map_toArray, List.map_cons, List.map_nil]); first | done | rfl | (simp only [List.length_drop, List.length_take]; rfl)) ?_; (with_reducible refine (calendar_Deadline.calls kj26 a0 a2 2 _ _ l6 t318 t319 _ ?side1 ?side2 A33.out).mono ?_); (case side1 => repeat (first | exact (Kd.C_below HR6.out HB.out) | (with_reducible refine Kd.C_alloc ?_ _) | (with_reducible refine Kd.C_drewN ?_ _) | (with_reducible refine Kd.C_drew ?_))); (case side2 => exact HC6.out); rintro e w' ⟨rfl, ⟨nd, rfl⟩⟩; refine ⟨_, rfl, ?_⟩) | ((with_reducible refine gate_callee (f := 25) rfl ?_); refine goesL_ (some 117) rfl rfl Tryd.func25 (by kernel_rfl) rfl #[.int .i64 (wrap64 (a0 + 3)), .int .i64 a2, .int .i64 1, .slice A6 l6.length c6] rfl (by (try simp only [List.map_toArray, List.map_cons, List.map_nil]); first | done | rfl | (simp only [List.length_drop, List.length_take]; rfl)) ?_; (with_reducible refine (calendar_Deadline.calls kj26 (wrap64 (a0 + 3)) a2 1 _ _ l6 t320 t321 _ ?side1 ?side2 A34.out).mono ?_); (case side1 => repeat (first | exact (Kd.C_below HR6.out (by repeat (first | (with_reducible first | exact HB.out | apply below_alloc | apply pw_below_drewN | apply below_drew1) | exact HB.out))) | (with_reducible refine Kd.C_alloc ?_ _) | (with_reducible refine Kd.C_drewN ?_ _) | (with_reducible refine Kd.C_drew ?_))); (case side2 => exact HC6.out); rintro e w' ⟨rfl, ⟨nd, rfl⟩⟩; refine ⟨_, rfl, ?_⟩))
                            go_meet
                            case rel => exact ⟨_, (false), (by first | rfl | (simp; done) | (simp [*]; done)), H', ⟨by have := HJ8.out; have := HJ21.out; have := HJ26.out; first | omega | exact Nat.le_refl _⟩, ⟨by repeat (first | (with_reducible first | exact HB.out | apply below_alloc | apply pw_below_drewN | apply below_drew1) | exact HB.out)⟩⟩
                        · replace c35 := Bool.eq_false_iff.mpr c35
                          subst c35
                          have H1 : (cohousinglaw03_CalendarOrder.j3 kj26 a0 a2 a4 a5 l6 false t314 t315) = some r := by rw [if_neg (show ¬ (false = true) by decide)] at H; exact H
                          clear H
                          have H := H1
                          clear H1
                          have H' := Aside0.mk H
                          clear H
                          go_wp2_with (first | ((with_reducible refine gate_callee (f := 25) rfl ?_); refine goesL_ (some 109) rfl rfl Tryd.func25 (by kernel_rfl) rfl #[.int .i64 a0, .int .i64 a2, .int .i64 2, .slice A6 l6.length c6] rfl (by (try simp only [List.map_toArray, List.map_cons, List.map_nil]); first | done | rfl | (simp only [List.length_drop, List.length_take]; rfl)) ?_; (with_reducible refine (calendar_Deadline.calls kj26 a0 a2 2 _ _ l6 t318 t319 _ ?side1 ?side2 A33.out).mono ?_); (case side1 => repeat (first | exact (Kd.C_below HR6.out HB.out) | (with_reducible refine Kd.C_alloc ?_ _) | (with_reducible refine Kd.C_drewN ?_ _) | (with_reducible refine Kd.C_drew ?_))); (case side2 => exact HC6.out); rintro e w' ⟨rfl, ⟨nd, rfl⟩⟩; refine ⟨_, rfl, ?_⟩) | ((with_reducible refine gate_callee (f := 25) rfl ?_); refine goesL_ (some 117) rfl rfl Tryd.func25 (by kernel_rfl) rfl #[.int .i64 (wrap64 (a0 + 3)), .int .i64 a2, .int .i64 1, .slice A6 l6.length c6] rfl (by (try simp only [List.map_toArray, List.map_cons, List.map_nil]); first | done | rfl | (simp only [List.length_drop, List.length_take]; rfl)) ?_; (with_reducible refine (calendar_Deadline.calls kj26 (wrap64 (a0 + 3)) a2 1 _ _ l6 t320 t321 _ ?side1 ?side2 A34.out).mono ?_); (case side1 => repeat (first | exact (Kd.C_below HR6.out (by repeat (first | (with_reducible first | exact HB.out | apply below_alloc | apply pw_below_drewN | apply below_drew1) | exact HB.out))) | (with_reducible refine Kd.C_alloc ?_ _) | (with_reducible refine Kd.C_drewN ?_ _) | (with_reducible refine Kd.C_drew ?_))); (case side2 => exact HC6.out); rintro e w' ⟨rfl, ⟨nd, rfl⟩⟩; refine ⟨_, rfl, ?_⟩))
                          go_meet
                          case rel => exact ⟨_, (false), (by first | rfl | (simp; done) | (simp [*]; done)), H', ⟨by have := HJ8.out; have := HJ21.out; have := HJ26.out; first | omega | exact Nat.le_refl _⟩, ⟨by repeat (first | (with_reducible first | exact HB.out | apply below_alloc | apply pw_below_drewN | apply below_drew1) | exact HB.out)⟩⟩
                      · rw [if_neg c32] at H
                        have c32b0 : decide ((wrap64 (a0 + 3)) ≤ 36524) = false := decide_eq_false c32
                        clear c32
                        (first | rw [c32b0] | (simp only [i64_w, i32_w]; rw [c32b0]) | skip)
                        have H' := Aside0.mk H
                        clear H
                        go_wp2
                        go_meet
                        case rel => exact ⟨_, (t311), (by first | rfl | (simp; done) | (simp [*]; done)), H', ⟨by have := HJ8.out; have := HJ21.out; have := HJ26.out; first | omega | exact Nat.le_refl _⟩, ⟨by repeat (first | (with_reducible first | exact HB.out | apply below_alloc | apply pw_below_drewN | apply below_drew1) | exact HB.out)⟩⟩
                    case rest =>
                      clear HC31
                      try clear c1
                      try clear c2
                      try clear p2
                      try clear c3
                      try clear c6
                      try clear p6
                      try clear c10
                      try clear c11
                      try clear c12
                      try clear c14
                      try clear c15
                      try clear c15b0
                      try clear c16
                      try clear c16b0
                      try clear c17
                      try clear c17b0
                      try clear c18
                      try clear c18b0
                      try clear c19
                      try clear c19b0
                      try clear c20
                      try clear c23
                      try clear c23b0
                      try clear c23b1
                      try clear c24
                      try clear c25
                      try clear c28
                      try clear c28b0
                      try clear c28b1
                      try clear c29
                      try clear c29b0
                      try clear c29b1
                      try clear c30
                      try clear c32
                      try clear c32b0
                      try clear c35
                      try clear c36
                      try clear c36b0
                      try clear c36b1
                      try clear p2
                      obtain ⟨kq, x15_30, rfl, HA, HJ30, HB⟩ := hcut
                      cases kq with
                      | zero => exact absurd HA.out (by simp [cohousinglaw03_CalendarOrder.j3])
                      | succ kj30 =>
                        have H := HA.out
                        clear HA
                        simp only [cohousinglaw03_CalendarOrder.j3] at H
                        by_cases c37 : (l6.length : Int) = 0
                        · rw [if_pos c37] at H
                          have c37b0 : ((l6.length : Int) == 0) = true := beq_iff_eq.mpr c37
                          have c37b1 : ((l6.length : Int) != 0) = false := bne_eq_false_iff_eq.mpr c37
                          clear c37
                          obtain rfl := Option.some.inj H
                          go_wp2
                          go_ret
                          exact ⟨by first | rfl | (simp [errW_none, errW_some] <;> rfl) | (simp [*, errW_none, errW_some] <;> rfl), by repeat (first | (with_reducible first | exact HB.out | apply below_alloc | apply pw_below_drewN | apply below_drew1) | exact HB.out)⟩
                        · rw [if_neg c37] at H
                          have c37b0 : ((l6.length : Int) == 0) = false := beq_eq_false_iff_ne.mpr c37
                          have c37b1 : ((l6.length : Int) != 0) = true := bne_iff_ne.mpr c37
                          have c37b2 : ¬ (l6 = []) := fun h_ => c37 (by rw [h_]; rfl)
                          obtain ⟨y322, hy322⟩ : ∃ y_ : List Int, y_ = (([] : List Int)) := ⟨_, rfl⟩
                          replace H : (if 0 ≤ (Int.tmod (wrap64 ((Int.tmod a5 (l6.length : Int)) + (l6.length : Int))) (l6.length : Int)) then (if (Int.tmod (wrap64 ((Int.tmod a5 (l6.length : Int)) + (l6.length : Int))) (l6.length : Int)) ≤ (l6.length : Int) then (if y322.length + (l6.take ((Int.tmod (wrap64 ((Int.tmod a5 (l6.length : Int)) + (l6.length : Int))) (l6.length : Int)) : Int).toNat).length < 17592186044416 then ((some (y322 ++ (l6.take ((Int.tmod (wrap64 ((Int.tmod a5 (l6.length : Int)) + (l6.length : Int))) (l6.length : Int)) : Int).toNat) : List Int)).bind fun y326 => (if 0 ≤ (wrap64 ((Int.tmod (wrap64 ((Int.tmod a5 (l6.length : Int)) + (l6.length : Int))) (l6.length : Int)) + 1)) then (if (wrap64 ((Int.tmod (wrap64 ((Int.tmod a5 (l6.length : Int)) + (l6.length : Int))) (l6.length : Int)) + 1)) ≤ (l6.length : Int) then (if y326.length + (l6.drop ((wrap64 ((Int.tmod (wrap64 ((Int.tmod a5 (l6.length : Int)) + (l6.length : Int))) (l6.length : Int)) + 1)) : Int).toNat).length < 17592186044416 then ((calendar_Deadline.f kj30 a0 a2 a4 (y326 ++ (l6.drop ((wrap64 ((Int.tmod (wrap64 ((Int.tmod a5 (l6.length : Int)) + (l6.length : Int))) (l6.length : Int)) + 1)) : Int).toNat))).bind fun bt333 => (if x15_30 = true then (if t315 = 0 then (if bt333.2 = 0 then (some (decide (bt333.1 ≤ t314))) else (some false)) else (some true)) else (some false))) else (none)) else (none)) else (none))) else (none)) else (none)) else (none)) = some r := by first | (rw [hy322]; with_reducible exact H) | (have H2_ := (Option.bind_some _ _).symm.trans H; rw [hy322]; with_reducible exact H2_) | (have H2_ := (Option.bind_some _ _).symm.trans H; with_reducible exact H2_) | with_reducible exact H | (rw [hy322]; exact H) | exact H
                          have Ny322 := Aside0.mk hy322
                          clear hy322
                          obtain ⟨ji38, hji38⟩ : ∃ j_ : Int, (Int.tmod (wrap64 ((Int.tmod a5 (l6.length : Int)) + (l6.length : Int))) (l6.length : Int)) = j_ := ⟨_, rfl⟩
                          replace H : (if 0 ≤ (ji38) then (if (ji38) ≤ (l6.length : Int) then (if y322.length + (l6.take ((ji38) : Int).toNat).length < 17592186044416 then ((some (y322 ++ (l6.take ((ji38) : Int).toNat) : List Int)).bind fun y326 => (if 0 ≤ (wrap64 ((ji38) + 1)) then (if (wrap64 ((ji38) + 1)) ≤ (l6.length : Int) then (if y326.length + (l6.drop ((wrap64 ((ji38) + 1)) : Int).toNat).length < 17592186044416 then ((calendar_Deadline.f kj30 a0 a2 a4 (y326 ++ (l6.drop ((wrap64 ((ji38) + 1)) : Int).toNat))).bind fun bt333 => (if x15_30 = true then (if t315 = 0 then (if bt333.2 = 0 then (some (decide (bt333.1 ≤ t314))) else (some false)) else (some true)) else (some false))) else (none)) else (none)) else (none))) else (none)) else (none)) else (none)) = some r := by first | (rw [hji38] at H; exact H) | (simp only [hji38] at H ⊢; exact H)
                          by_cases c39 : 0 ≤ (ji38)
                          · rw [if_pos c39] at H
                            have c39b0 := eq_true c39
                            have c39b1 : decide (0 ≤ (ji38)) = true := decide_eq_true c39
                            clear c39
                            by_cases c40 : (ji38) ≤ (l6.length : Int)
                            · rw [if_pos c40] at H
                              have c40b0 := eq_true c40
                              have c40b1 : decide ((ji38) ≤ (l6.length : Int)) = true := decide_eq_true c40
                              clear c40
                              by_cases c41 : y322.length + (l6.take ((ji38) : Int).toNat).length < 17592186044416
                              · rw [if_pos c41] at H
                                have LMc41 := Aside0.mk c41
                                clear c41
                                obtain ⟨y326, hy326⟩ : ∃ y_ : List Int, y_ = (y322 ++ (l6.take ((ji38) : Int).toNat)) := ⟨_, rfl⟩
                                replace H : (if 0 ≤ (wrap64 ((ji38) + 1)) then (if (wrap64 ((ji38) + 1)) ≤ (l6.length : Int) then (if y326.length + (l6.drop ((wrap64 ((ji38) + 1)) : Int).toNat).length < 17592186044416 then ((calendar_Deadline.f kj30 a0 a2 a4 (y326 ++ (l6.drop ((wrap64 ((ji38) + 1)) : Int).toNat))).bind fun bt333 => (if x15_30 = true then (if t315 = 0 then (if bt333.2 = 0 then (some (decide (bt333.1 ≤ t314))) else (some false)) else (some true)) else (some false))) else (none)) else (none)) else (none)) = some r := by first | (rw [hy326]; with_reducible exact H) | (have H2_ := (Option.bind_some _ _).symm.trans H; rw [hy326]; with_reducible exact H2_) | (have H2_ := (Option.bind_some _ _).symm.trans H; with_reducible exact H2_) | with_reducible exact H | (rw [hy326]; exact H) | exact H
                                have Ny326 := Aside0.mk hy326
                                clear hy326
                                obtain ⟨ji42, hji42⟩ : ∃ j_ : Int, (wrap64 ((ji38) + 1)) = j_ := ⟨_, rfl⟩
                                replace H : (if 0 ≤ (ji42) then (if (ji42) ≤ (l6.length : Int) then (if y326.length + (l6.drop ((ji42) : Int).toNat).length < 17592186044416 then ((calendar_Deadline.f kj30 a0 a2 a4 (y326 ++ (l6.drop ((ji42) : Int).toNat))).bind fun bt333 => (if x15_30 = true then (if t315 = 0 then (if bt333.2 = 0 then (some (decide (bt333.1 ≤ t314))) else (some false)) else (some true)) else (some false))) else (none)) else (none)) else (none)) = some r := by first | (rw [hji42] at H; exact H) | (simp only [hji42] at H ⊢; exact H)
                                have hji42w : (IntKind.i64.wrap ((ji38) + 1)) = ji42 := (i64_w _).trans hji42
                                by_cases c43 : 0 ≤ (ji42)
                                · rw [if_pos c43] at H
                                  have c43b0 := eq_true c43
                                  have c43b1 : decide (0 ≤ (ji42)) = true := decide_eq_true c43
                                  clear c43
                                  by_cases c44 : (ji42) ≤ (l6.length : Int)
                                  · rw [if_pos c44] at H
                                    have c44b0 := eq_true c44
                                    have c44b1 : decide ((ji42) ≤ (l6.length : Int)) = true := decide_eq_true c44
                                    clear c44
                                    by_cases c45 : y326.length + (l6.drop ((ji42) : Int).toNat).length < 17592186044416
                                    · rw [if_pos c45] at H
                                      have LMc45 := Aside0.mk c45
                                      clear c45
                                      obtain ⟨y330, hy330⟩ : ∃ y_ : List Int, y_ = (y326 ++ (l6.drop ((ji42) : Int).toNat)) := ⟨_, rfl⟩
                                      replace H : ((calendar_Deadline.f kj30 a0 a2 a4 y330).bind fun bt333 => (if x15_30 = true then (if t315 = 0 then (if bt333.2 = 0 then (some (decide (bt333.1 ≤ t314))) else (some false)) else (some true)) else (some false))) = some r := by first | (rw [hy330]; with_reducible exact H) | (have H2_ := (Option.bind_some _ _).symm.trans H; rw [hy330]; with_reducible exact H2_) | (have H2_ := (Option.bind_some _ _).symm.trans H; with_reducible exact H2_) | with_reducible exact H | (rw [hy330]; exact H) | exact H
                                      have Ny330 := Aside0.mk hy330
                                      clear hy330
                                      replace H := Option.bind_eq_some_iff.mp H
                                      obtain ⟨⟨t333, t334⟩, A460, H⟩ := H
                                      replace H : (if x15_30 = true then (if t315 = 0 then (if t334 = 0 then (some (decide (t333 ≤ t314))) else (some false)) else (some true)) else (some false)) = some r := H
                                      have A46 := Aside0.mk A460
                                      clear A460
                                      by_cases c47 : x15_30 = true
                                      · subst c47
                                        have H1 : (if t315 = 0 then (if t334 = 0 then (some (decide (t333 ≤ t314))) else (some false)) else (some true)) = some r := by rw [if_pos rfl] at H; exact H
                                        clear H
                                        have H := H1
                                        clear H1
                                        by_cases c48 : t315 = 0
                                        · rw [if_pos c48] at H
                                          have c48b0 : (t315 == 0) = true := beq_iff_eq.mpr c48
                                          have c48b1 : (t315 != 0) = false := bne_eq_false_iff_eq.mpr c48
                                          clear c48
                                          by_cases c49 : t334 = 0
                                          · rw [if_pos c49] at H
                                            have c49b0 : (t334 == 0) = true := beq_iff_eq.mpr c49
                                            have c49b1 : (t334 != 0) = false := bne_eq_false_iff_eq.mpr c49
                                            clear c49
                                            obtain rfl := Option.some.inj H
                                            try go_wp2
                                            have n0_ := Aside0.mk (below_drew1 HB.out)
                                            clear HB
                                            have HB := n0_
                                            clear n0_
                                            obtain ⟨i051, hi051, _, hsz51, _⟩ := info_parts info3
                                            obtain ⟨hcut51, hA51, hC51⟩ := print_take_of (P := Tryd.prog) (Value.int .i64) 0 22 3 .i64 Tryd.underlying22 hi051 hsz51 A6 c6 l6 (ji38) (of_decide_eq_true (by first | (with_reducible assumption) | assumption)) (of_decide_eq_true (by first | (with_reducible assumption) | assumption)) HC6.out
                                            have HR325 := Aside0.mk (Kd.C_of_reads (h1 := fun _ => rfl) (hA51 _ (Kd.reads_of_C HR6.out)))
                                            have HC325 := Aside0.mk hC51
                                            clear hA51 hC51 hi051 hsz51
                                            obtain ⟨i052, hi052, _, hsz52, _⟩ := info_parts info3
                                            obtain ⟨A52, hcut52, hA52, hC52⟩ := print_drop_of (P := Tryd.prog) (Value.int .i64) 0 22 3 .i64 Tryd.underlying22 hi052 hsz52 A6 c6 l6 (ji42) (of_decide_eq_true (by first | (with_reducible assumption) | assumption)) (of_decide_eq_true (by first | (with_reducible assumption) | assumption)) HC6.out
                                            have HR329 := Aside0.mk (Kd.C_of_reads (h1 := fun _ => rfl) (hA52 _ (Kd.reads_of_C HR6.out)))
                                            have HC329 := Aside0.mk hC52
                                            clear hA52 hC52 hi052 hsz52
                                            refine start_ (n := 11) (S := fun w' => True) (ds := []) #[false, false, false, false, false, false, false, false, false, false, false] (by kernel_rfl) rfl rfl trivial (fun hHeld => ?_); refine with_tabW cohousinglaw03_CalendarOrder.tab17 cohousinglaw03_CalendarOrder.bits17 (fun HT_ HW_ => ?_)
                                            generalize wc.drew = w50 at HB HR325 HR329 hHeld ⊢
                                            refine pure_ (i := 1) (N := some 146) (v := ?_) (a' := ?_) #[false, true, false, false, false, false, false, false, false, false, false] rfl rfl (any_of HT_.out (by kernel_rfl)) (fun _ _ _ h => h) (Or.inl ⟨by rfl, ?_⟩) ?_ ?_
                                            rotate_left
                                            · intro w'
                                              go_simp
                                              with_reducible rfl
                                            rotate_left
                                            · simp only [Act.put, List.setIfInBounds_toArray, List.set_cons_zero, List.set_cons_succ, i64_w, i32_w]
                                              rfl
                                            refine pure_ (i := 2) (N := some 147) (v := ?_) (a' := ?_) #[false, true, true, false, false, false, false, false, false, false, false] rfl rfl (any_of HT_.out (by kernel_rfl)) (fun _ _ _ h => h) (Or.inl ⟨by rfl, ?_⟩) ?_ ?_
                                            rotate_left
                                            · intro w'
                                              go_simp
                                              with_reducible rfl
                                            rotate_left
                                            · simp only [Act.put, List.setIfInBounds_toArray, List.set_cons_zero, List.set_cons_succ, i64_w, i32_w]
                                              rfl
                                            refine pure_ (i := 3) (N := some 148) (v := ?_) (a' := ?_) #[false, true, true, true, false, false, false, false, false, false, false] rfl rfl (any_of HT_.out (by kernel_rfl)) (fun _ _ _ h => h) (Or.inl ⟨by rfl, ?_⟩) ?_ ?_
                                            rotate_left
                                            · intro w'
                                              go_simp
                                              with_reducible rfl
                                            rotate_left
                                            · simp only [Act.put, List.setIfInBounds_toArray, List.set_cons_zero, List.set_cons_succ, i64_w, i32_w]
                                              rfl
                                            refine pure_ (i := 5) (N := some 150) (v := ?_) (a' := ?_) #[false, true, true, true, false, true, false, false, false, false, false] rfl rfl (any_of HT_.out (by kernel_rfl)) (fun _ _ _ h => h) (Or.inl ⟨by rfl, ?_⟩) ?_ ?_
                                            rotate_left
                                            · intro w'
                                              go_simp
                                              with_reducible rfl
                                            rotate_left
                                            · simp only [Act.put, List.setIfInBounds_toArray, List.set_cons_zero, List.set_cons_succ, i64_w, i32_w]
                                              rfl
                                            refine pure_ (i := 6) (N := some 151) (v := ?_) (a' := ?_) #[false, true, true, true, false, true, true, false, false, false, false] rfl rfl (any_of HT_.out (by kernel_rfl)) (fun _ _ _ h => h) (Or.inl ⟨by rfl, ?_⟩) ?_ ?_
                                            rotate_left
                                            · intro w'
                                              go_simp
                                              with_reducible rfl
                                            rotate_left
                                            · simp only [Act.put, List.setIfInBounds_toArray, List.set_cons_zero, List.set_cons_succ, i64_w, i32_w]
                                              rfl
                                            refine pure_ (i := 7) (N := some 152) (v := ?_) (a' := ?_) #[false, true, true, true, false, true, true, true, false, false, false] rfl rfl (any_of HT_.out (by kernel_rfl)) (fun _ _ _ h => h) (Or.inl ⟨by rfl, ?_⟩) ?_ ?_
                                            rotate_left
                                            · intro w'
                                              go_simp
                                              with_reducible rfl
                                            rotate_left
                                            · simp only [Act.put, List.setIfInBounds_toArray, List.set_cons_zero, List.set_cons_succ, i64_w, i32_w]
                                              rfl
                                            refine pure_ (i := 8) (N := some 153) (v := ?_) (a' := ?_) #[false, true, true, true, false, true, true, true, true, false, false] rfl rfl (any_of HT_.out (by kernel_rfl)) (fun _ _ _ h => h) (Or.inl ⟨by rfl, ?_⟩) ?_ ?_
                                            rotate_left
                                            · intro w'
                                              go_simp
                                              with_reducible rfl
                                            rotate_left
                                            · simp only [Act.put, List.setIfInBounds_toArray, List.set_cons_zero, List.set_cons_succ, i64_w, i32_w]
                                              rfl
                                            refine one_ (i := 0) (N := some 145) #[true, true, true, true, false, true, true, true, true, false, false] rfl rfl (one_of HT_.out (by kernel_rfl)) (by decide) (fun K hK => ?_)
                                            refine Kd.R_lit_step (Kd.int .i64) _ 3 ?hg (N := 145) ?hd (xs := ([] : List Int)) (inner := []) (ok := fun _ => True) (okp := fun _ => True) ?hr ?hp (fun _ hk => hk) trivial (Below.refl _ _) (Nat.le_refl _) (by simp) ?_; (case hd => rfl); (case hg => rfl); (case hr => first | (go_simp; done) | (go_simp; rfl)); (case hp => exact (Reps.none _ _))
                                            intro v323 w53 ho54 hb hg_ hnew_
                                            clear hg_ hnew_
                                            (first | rw [← Ny322.out] at ho54 | (simp only [Int.reduceToNat] at ho54; rw [← Ny322.out] at ho54))
                                            have n0_ := Aside0.mk (Kd.R_lower ho54 (below_size (by repeat (first | (with_reducible first | exact HB.out | apply below_alloc | apply pw_below_drewN | apply below_drew1) | exact HB.out))))
                                            have n1_ := Aside0.mk (below_step (by repeat (first | (with_reducible first | exact HB.out | apply below_alloc | apply pw_below_drewN | apply below_drew1) | exact HB.out)) hb)
                                            clear HB
                                            have HO324 := n0_
                                            have HB := n1_
                                            clear n0_ n1_
                                            clear hb ho54
                                            refine hK.out _ _ trivial (fun hHeld => ?_)
                                            clear hK K
                                            refine norm_ (a' := ?_) ?_ ?_
                                            rotate_left
                                            · show Act.put _ (some 145) _ = _
                                              simp only [Act.put, List.setIfInBounds_toArray, List.set_cons_zero, List.set_cons_succ, i64_w, i32_w]
                                              rfl
                                            refine one_ (i := 4) (N := some 149) #[true, true, true, true, true, true, true, true, true, false, false] rfl rfl (one_of HT_.out (by kernel_rfl)) (by decide) (fun K hK => ?_)
                                            refine Kd.R_append_rows_step (Kd.int .i64) (w0 := w) w.heap.size (by rfl) (.tmp 145) (.tmp 148) 22 3 (.int .i64 0) 8 rfl Tryd.underlying22 info3 rfl (by decide) (by omega) v323 y322 (l6.take ((ji38) : Int).toNat) _ _ _ (fun _ => True) (fun _ => False) rfl rfl ?aO ?aR (fun _ _ h => h) (fun _ h => h.elim) ?aF ?aB ?aS ?aL ?_
                                            (case aR => first | (refine row_len_ (show (l6.take ((ji38) : Int).toNat).length = (ji38).toNat from (by rw [List.length_take]; have h_ : ((ji38) : Int) ≤ (l6.length : Int) := of_decide_eq_true (by first | (with_reducible assumption) | assumption); omega)) ?_; repeat (first | exact (Kd.C_below HR325.out HB.out) | (with_reducible refine Kd.C_alloc ?_ _) | (with_reducible refine Kd.C_drewN ?_ _) | (with_reducible refine Kd.C_drew ?_))) | (repeat (first | exact (Kd.C_below HR325.out HB.out) | (with_reducible refine Kd.C_alloc ?_ _) | (with_reducible refine Kd.C_drewN ?_ _) | (with_reducible refine Kd.C_drew ?_))))
                                            (case aB => exact (by repeat (first | (with_reducible first | exact HB.out | apply below_alloc | apply pw_below_drewN | apply below_drew1) | exact HB.out)))
                                            (case aF => exact (fun _ _ => trivial))
                                            (case aO => exact (by (with_reducible repeat (first | apply Kd.R_alloc | apply Kd.R_drewN | apply Kd.R_drew)); exact HO324.out))
                                            (case aS => exact (below_size (by repeat (first | (with_reducible first | exact HB.out | apply below_alloc | apply pw_below_drewN | apply below_drew1) | exact HB.out))))
                                            (case aL => have := LMc41.out; have hlx_ := (show (l6.take ((ji38) : Int).toNat).length = (ji38).toNat from (by rw [List.length_take]; have h_ : ((ji38) : Int) ≤ (l6.length : Int) := of_decide_eq_true (by first | (with_reducible assumption) | assumption); omega)); omega)
                                            intro v327 w55 ho hb hg hat
                                            rw [← Ny326.out] at ho
                                            have n0_ := Aside0.mk (hb)
                                            have n1_ := Aside0.mk (ho)
                                            clear HB
                                            clear HO324
                                            have HB := n0_
                                            have HO328 := n1_
                                            clear n0_ n1_
                                            clear ho hb hg hat
                                            refine hK.out _ _ trivial (fun hHeld => ?_)
                                            clear hK K
                                            refine norm_ (a' := ?_) ?_ ?_
                                            rotate_left
                                            · show Act.put _ (some 149) _ = _
                                              simp only [Act.put, List.setIfInBounds_toArray, List.set_cons_zero, List.set_cons_succ, i64_w, i32_w]
                                              rfl
                                            refine one_ (i := 9) (N := some 154) #[true, true, true, true, true, true, true, true, true, true, false] rfl rfl (one_of HT_.out (by kernel_rfl)) (by decide) (fun K hK => ?_)
                                            refine Kd.R_append_rows_step (Kd.int .i64) (w0 := w) w.heap.size (by rfl) (.tmp 149) (.tmp 153) 22 3 (.int .i64 0) 8 rfl Tryd.underlying22 info3 rfl (by decide) (by omega) v327 y326 (l6.drop ((ji42) : Int).toNat) _ _ _ (fun _ => True) (fun _ => False) rfl rfl ?aO ?aR (fun _ _ h => h) (fun _ h => h.elim) ?aF ?aB ?aS ?aL ?_
                                            (case aR => first | (refine row_len_ (show (l6.drop ((ji42) : Int).toNat).length = (l6.length - (ji42).toNat) from List.length_drop) ?_; repeat (first | exact (Kd.C_below HR329.out HB.out) | (with_reducible refine Kd.C_alloc ?_ _) | (with_reducible refine Kd.C_drewN ?_ _) | (with_reducible refine Kd.C_drew ?_))) | (repeat (first | exact (Kd.C_below HR329.out HB.out) | (with_reducible refine Kd.C_alloc ?_ _) | (with_reducible refine Kd.C_drewN ?_ _) | (with_reducible refine Kd.C_drew ?_))))
                                            (case aB => exact (by repeat (first | (with_reducible first | exact HB.out | apply below_alloc | apply pw_below_drewN | apply below_drew1) | exact HB.out)))
                                            (case aF => exact (fun _ _ => trivial))
                                            (case aO => exact (by (with_reducible repeat (first | apply Kd.R_alloc | apply Kd.R_drewN | apply Kd.R_drew)); exact HO328.out))
                                            (case aS => exact (below_size (by repeat (first | (with_reducible first | exact HB.out | apply below_alloc | apply pw_below_drewN | apply below_drew1) | exact HB.out))))
                                            (case aL => have := LMc45.out; have hlx_ := (show (l6.drop ((ji42) : Int).toNat).length = (l6.length - (ji42).toNat) from List.length_drop); omega)
                                            intro v331 w56 ho hb hg hat
                                            rw [← Ny330.out] at ho
                                            have n0_ := Aside0.mk (hb)
                                            have n1_ := Aside0.mk (ho)
                                            clear HB
                                            clear HO328
                                            have HB := n0_
                                            have HO332 := n1_
                                            clear n0_ n1_
                                            clear ho hb hg hat
                                            refine hK.out _ _ trivial (fun hHeld => ?_)
                                            clear hK K
                                            refine norm_ (a' := ?_) ?_ ?_
                                            rotate_left
                                            · show Act.put _ (some 154) _ = _
                                              simp only [Act.put, List.setIfInBounds_toArray, List.set_cons_zero, List.set_cons_succ, i64_w, i32_w]
                                              rfl
                                            refine pure_ (i := 10) (N := some 25) (v := ?_) (a' := ?_) #[true, true, true, true, true, true, true, true, true, true, true] rfl rfl (any_of HT_.out (by kernel_rfl)) (fun _ _ _ h => h) (Or.inl ⟨by rfl, ?_⟩) ?_ ?_
                                            rotate_left
                                            · intro w'
                                              go_simp
                                              with_reducible rfl
                                            rotate_left
                                            · simp only [Act.put, List.setIfInBounds_toArray, List.set_cons_zero, List.set_cons_succ, i64_w, i32_w]
                                              rfl
                                            refine done_ (done_of HT_.out (by kernel_rfl)) ?_
                                            obtain ⟨Ao57, co57, eo57⟩ := Kd.R_slice HO332.out
                                            subst eo57
                                            try go_wp2_with (first | ((with_reducible refine gate_callee (f := 25) rfl ?_); refine goesL_ (some 160) rfl rfl Tryd.func25 (by kernel_rfl) rfl #[.int .i64 a0, .int .i64 a2, .int .i64 a4, .slice Ao57 y330.length co57] rfl (by (try simp only [List.map_toArray, List.map_cons, List.map_nil]); first | done | rfl | (simp only [List.length_drop, List.length_take]; rfl)) ?_; (with_reducible refine (calendar_Deadline.calls kj30 a0 a2 a4 _ _ y330 t333 t334 _ ?side1 ?side2 A46.out).mono ?_); (case side1 => repeat (first | exact (Kd.R_reads' HO332.out).2.2 | (with_reducible refine Kd.C_alloc ?_ _) | (with_reducible refine Kd.C_drewN ?_ _) | (with_reducible refine Kd.C_drew ?_))); (case side2 => exact (Kd.R_reads' HO332.out).2.1); rintro e w' ⟨rfl, ⟨nd, rfl⟩⟩; refine ⟨_, rfl, ?_⟩))
                                            go_ret
                                            exact ⟨by first | rfl | (simp [errW_none, errW_some] <;> rfl) | (simp only [← hji38, ← hji42]; first | rfl | (simp [errW_none, errW_some] <;> rfl)) | (simp [*, errW_none, errW_some] <;> rfl), by repeat (first | (with_reducible first | exact HB.out | apply below_alloc | apply pw_below_drewN | apply below_drew1) | exact HB.out)⟩
                                          · rw [if_neg c49] at H
                                            have c49b0 : (t334 == 0) = false := beq_eq_false_iff_ne.mpr c49
                                            have c49b1 : (t334 != 0) = true := bne_iff_ne.mpr c49
                                            obtain rfl := Option.some.inj H
                                            try go_wp2
                                            have n0_ := Aside0.mk (below_drew1 HB.out)
                                            clear HB
                                            have HB := n0_
                                            clear n0_
                                            obtain ⟨i059, hi059, _, hsz59, _⟩ := info_parts info3
                                            obtain ⟨hcut59, hA59, hC59⟩ := print_take_of (P := Tryd.prog) (Value.int .i64) 0 22 3 .i64 Tryd.underlying22 hi059 hsz59 A6 c6 l6 (ji38) (of_decide_eq_true (by first | (with_reducible assumption) | assumption)) (of_decide_eq_true (by first | (with_reducible assumption) | assumption)) HC6.out
                                            have HR325 := Aside0.mk (Kd.C_of_reads (h1 := fun _ => rfl) (hA59 _ (Kd.reads_of_C HR6.out)))
                                            have HC325 := Aside0.mk hC59
                                            clear hA59 hC59 hi059 hsz59
                                            obtain ⟨i060, hi060, _, hsz60, _⟩ := info_parts info3
                                            obtain ⟨A60, hcut60, hA60, hC60⟩ := print_drop_of (P := Tryd.prog) (Value.int .i64) 0 22 3 .i64 Tryd.underlying22 hi060 hsz60 A6 c6 l6 (ji42) (of_decide_eq_true (by first | (with_reducible assumption) | assumption)) (of_decide_eq_true (by first | (with_reducible assumption) | assumption)) HC6.out
                                            have HR329 := Aside0.mk (Kd.C_of_reads (h1 := fun _ => rfl) (hA60 _ (Kd.reads_of_C HR6.out)))
                                            have HC329 := Aside0.mk hC60
                                            clear hA60 hC60 hi060 hsz60
                                            refine start_ (n := 11) (S := fun w' => True) (ds := []) #[false, false, false, false, false, false, false, false, false, false, false] (by kernel_rfl) rfl rfl trivial (fun hHeld => ?_); refine with_tabW cohousinglaw03_CalendarOrder.tab17 cohousinglaw03_CalendarOrder.bits17 (fun HT_ HW_ => ?_)
                                            generalize wc.drew = w58 at HB HR325 HR329 hHeld ⊢
                                            refine pure_ (i := 1) (N := some 146) (v := ?_) (a' := ?_) #[false, true, false, false, false, false, false, false, false, false, false] rfl rfl (any_of HT_.out (by kernel_rfl)) (fun _ _ _ h => h) (Or.inl ⟨by rfl, ?_⟩) ?_ ?_
                                            rotate_left
                                            · intro w'
                                              go_simp
                                              with_reducible rfl
                                            rotate_left
                                            · simp only [Act.put, List.setIfInBounds_toArray, List.set_cons_zero, List.set_cons_succ, i64_w, i32_w]
                                              rfl
                                            refine pure_ (i := 2) (N := some 147) (v := ?_) (a' := ?_) #[false, true, true, false, false, false, false, false, false, false, false] rfl rfl (any_of HT_.out (by kernel_rfl)) (fun _ _ _ h => h) (Or.inl ⟨by rfl, ?_⟩) ?_ ?_
                                            rotate_left
                                            · intro w'
                                              go_simp
                                              with_reducible rfl
                                            rotate_left
                                            · simp only [Act.put, List.setIfInBounds_toArray, List.set_cons_zero, List.set_cons_succ, i64_w, i32_w]
                                              rfl
                                            refine pure_ (i := 3) (N := some 148) (v := ?_) (a' := ?_) #[false, true, true, true, false, false, false, false, false, false, false] rfl rfl (any_of HT_.out (by kernel_rfl)) (fun _ _ _ h => h) (Or.inl ⟨by rfl, ?_⟩) ?_ ?_
                                            rotate_left
                                            · intro w'
                                              go_simp
                                              with_reducible rfl
                                            rotate_left
                                            · simp only [Act.put, List.setIfInBounds_toArray, List.set_cons_zero, List.set_cons_succ, i64_w, i32_w]
                                              rfl
                                            refine pure_ (i := 5) (N := some 150) (v := ?_) (a' := ?_) #[false, true, true, true, false, true, false, false, false, false, false] rfl rfl (any_of HT_.out (by kernel_rfl)) (fun _ _ _ h => h) (Or.inl ⟨by rfl, ?_⟩) ?_ ?_
                                            rotate_left
                                            · intro w'
                                              go_simp
                                              with_reducible rfl
                                            rotate_left
                                            · simp only [Act.put, List.setIfInBounds_toArray, List.set_cons_zero, List.set_cons_succ, i64_w, i32_w]
                                              rfl
                                            refine pure_ (i := 6) (N := some 151) (v := ?_) (a' := ?_) #[false, true, true, true, false, true, true, false, false, false, false] rfl rfl (any_of HT_.out (by kernel_rfl)) (fun _ _ _ h => h) (Or.inl ⟨by rfl, ?_⟩) ?_ ?_
                                            rotate_left
                                            · intro w'
                                              go_simp
                                              with_reducible rfl
                                            rotate_left
                                            · simp only [Act.put, List.setIfInBounds_toArray, List.set_cons_zero, List.set_cons_succ, i64_w, i32_w]
                                              rfl
                                            refine pure_ (i := 7) (N := some 152) (v := ?_) (a' := ?_) #[false, true, true, true, false, true, true, true, false, false, false] rfl rfl (any_of HT_.out (by kernel_rfl)) (fun _ _ _ h => h) (Or.inl ⟨by rfl, ?_⟩) ?_ ?_
                                            rotate_left
                                            · intro w'
                                              go_simp
                                              with_reducible rfl
                                            rotate_left
                                            · simp only [Act.put, List.setIfInBounds_toArray, List.set_cons_zero, List.set_cons_succ, i64_w, i32_w]
                                              rfl
                                            refine pure_ (i := 8) (N := some 153) (v := ?_) (a' := ?_) #[false, true, true, true, false, true, true, true, true, false, false] rfl rfl (any_of HT_.out (by kernel_rfl)) (fun _ _ _ h => h) (Or.inl ⟨by rfl, ?_⟩) ?_ ?_
                                            rotate_left
                                            · intro w'
                                              go_simp
                                              with_reducible rfl
                                            rotate_left
                                            · simp only [Act.put, List.setIfInBounds_toArray, List.set_cons_zero, List.set_cons_succ, i64_w, i32_w]
                                              rfl
                                            refine one_ (i := 0) (N := some 145) #[true, true, true, true, false, true, true, true, true, false, false] rfl rfl (one_of HT_.out (by kernel_rfl)) (by decide) (fun K hK => ?_)
                                            refine Kd.R_lit_step (Kd.int .i64) _ 3 ?hg (N := 145) ?hd (xs := ([] : List Int)) (inner := []) (ok := fun _ => True) (okp := fun _ => True) ?hr ?hp (fun _ hk => hk) trivial (Below.refl _ _) (Nat.le_refl _) (by simp) ?_; (case hd => rfl); (case hg => rfl); (case hr => first | (go_simp; done) | (go_simp; rfl)); (case hp => exact (Reps.none _ _))
                                            intro v323 w61 ho62 hb hg_ hnew_
                                            clear hg_ hnew_
                                            (first | rw [← Ny322.out] at ho62 | (simp only [Int.reduceToNat] at ho62; rw [← Ny322.out] at ho62))
                                            have n0_ := Aside0.mk (Kd.R_lower ho62 (below_size (by repeat (first | (with_reducible first | exact HB.out | apply below_alloc | apply pw_below_drewN | apply below_drew1) | exact HB.out))))
                                            have n1_ := Aside0.mk (below_step (by repeat (first | (with_reducible first | exact HB.out | apply below_alloc | apply pw_below_drewN | apply below_drew1) | exact HB.out)) hb)
                                            clear HB
                                            have HO324 := n0_
                                            have HB := n1_
                                            clear n0_ n1_
                                            clear hb ho62
                                            refine hK.out _ _ trivial (fun hHeld => ?_)
                                            clear hK K
                                            refine norm_ (a' := ?_) ?_ ?_
                                            rotate_left
                                            · show Act.put _ (some 145) _ = _
                                              simp only [Act.put, List.setIfInBounds_toArray, List.set_cons_zero, List.set_cons_succ, i64_w, i32_w]
                                              rfl
                                            refine one_ (i := 4) (N := some 149) #[true, true, true, true, true, true, true, true, true, false, false] rfl rfl (one_of HT_.out (by kernel_rfl)) (by decide) (fun K hK => ?_)
                                            refine Kd.R_append_rows_step (Kd.int .i64) (w0 := w) w.heap.size (by rfl) (.tmp 145) (.tmp 148) 22 3 (.int .i64 0) 8 rfl Tryd.underlying22 info3 rfl (by decide) (by omega) v323 y322 (l6.take ((ji38) : Int).toNat) _ _ _ (fun _ => True) (fun _ => False) rfl rfl ?aO ?aR (fun _ _ h => h) (fun _ h => h.elim) ?aF ?aB ?aS ?aL ?_
                                            (case aR => first | (refine row_len_ (show (l6.take ((ji38) : Int).toNat).length = (ji38).toNat from (by rw [List.length_take]; have h_ : ((ji38) : Int) ≤ (l6.length : Int) := of_decide_eq_true (by first | (with_reducible assumption) | assumption); omega)) ?_; repeat (first | exact (Kd.C_below HR325.out HB.out) | (with_reducible refine Kd.C_alloc ?_ _) | (with_reducible refine Kd.C_drewN ?_ _) | (with_reducible refine Kd.C_drew ?_))) | (repeat (first | exact (Kd.C_below HR325.out HB.out) | (with_reducible refine Kd.C_alloc ?_ _) | (with_reducible refine Kd.C_drewN ?_ _) | (with_reducible refine Kd.C_drew ?_))))
                                            (case aB => exact (by repeat (first | (with_reducible first | exact HB.out | apply below_alloc | apply pw_below_drewN | apply below_drew1) | exact HB.out)))
                                            (case aF => exact (fun _ _ => trivial))
                                            (case aO => exact (by (with_reducible repeat (first | apply Kd.R_alloc | apply Kd.R_drewN | apply Kd.R_drew)); exact HO324.out))
                                            (case aS => exact (below_size (by repeat (first | (with_reducible first | exact HB.out | apply below_alloc | apply pw_below_drewN | apply below_drew1) | exact HB.out))))
                                            (case aL => have := LMc41.out; have hlx_ := (show (l6.take ((ji38) : Int).toNat).length = (ji38).toNat from (by rw [List.length_take]; have h_ : ((ji38) : Int) ≤ (l6.length : Int) := of_decide_eq_true (by first | (with_reducible assumption) | assumption); omega)); omega)
                                            intro v327 w63 ho hb hg hat
                                            rw [← Ny326.out] at ho
                                            have n0_ := Aside0.mk (hb)
                                            have n1_ := Aside0.mk (ho)
                                            clear HB
                                            clear HO324
                                            have HB := n0_
                                            have HO328 := n1_
                                            clear n0_ n1_
                                            clear ho hb hg hat
                                            refine hK.out _ _ trivial (fun hHeld => ?_)
                                            clear hK K
                                            refine norm_ (a' := ?_) ?_ ?_
                                            rotate_left
                                            · show Act.put _ (some 149) _ = _
                                              simp only [Act.put, List.setIfInBounds_toArray, List.set_cons_zero, List.set_cons_succ, i64_w, i32_w]
                                              rfl
                                            refine one_ (i := 9) (N := some 154) #[true, true, true, true, true, true, true, true, true, true, false] rfl rfl (one_of HT_.out (by kernel_rfl)) (by decide) (fun K hK => ?_)
                                            refine Kd.R_append_rows_step (Kd.int .i64) (w0 := w) w.heap.size (by rfl) (.tmp 149) (.tmp 153) 22 3 (.int .i64 0) 8 rfl Tryd.underlying22 info3 rfl (by decide) (by omega) v327 y326 (l6.drop ((ji42) : Int).toNat) _ _ _ (fun _ => True) (fun _ => False) rfl rfl ?aO ?aR (fun _ _ h => h) (fun _ h => h.elim) ?aF ?aB ?aS ?aL ?_
                                            (case aR => first | (refine row_len_ (show (l6.drop ((ji42) : Int).toNat).length = (l6.length - (ji42).toNat) from List.length_drop) ?_; repeat (first | exact (Kd.C_below HR329.out HB.out) | (with_reducible refine Kd.C_alloc ?_ _) | (with_reducible refine Kd.C_drewN ?_ _) | (with_reducible refine Kd.C_drew ?_))) | (repeat (first | exact (Kd.C_below HR329.out HB.out) | (with_reducible refine Kd.C_alloc ?_ _) | (with_reducible refine Kd.C_drewN ?_ _) | (with_reducible refine Kd.C_drew ?_))))
                                            (case aB => exact (by repeat (first | (with_reducible first | exact HB.out | apply below_alloc | apply pw_below_drewN | apply below_drew1) | exact HB.out)))
                                            (case aF => exact (fun _ _ => trivial))
                                            (case aO => exact (by (with_reducible repeat (first | apply Kd.R_alloc | apply Kd.R_drewN | apply Kd.R_drew)); exact HO328.out))
                                            (case aS => exact (below_size (by repeat (first | (with_reducible first | exact HB.out | apply below_alloc | apply pw_below_drewN | apply below_drew1) | exact HB.out))))
                                            (case aL => have := LMc45.out; have hlx_ := (show (l6.drop ((ji42) : Int).toNat).length = (l6.length - (ji42).toNat) from List.length_drop); omega)
                                            intro v331 w64 ho hb hg hat
                                            rw [← Ny330.out] at ho
                                            have n0_ := Aside0.mk (hb)
                                            have n1_ := Aside0.mk (ho)
                                            clear HB
                                            clear HO328
                                            have HB := n0_
                                            have HO332 := n1_
                                            clear n0_ n1_
                                            clear ho hb hg hat
                                            refine hK.out _ _ trivial (fun hHeld => ?_)
                                            clear hK K
                                            refine norm_ (a' := ?_) ?_ ?_
                                            rotate_left
                                            · show Act.put _ (some 154) _ = _
                                              simp only [Act.put, List.setIfInBounds_toArray, List.set_cons_zero, List.set_cons_succ, i64_w, i32_w]
                                              rfl
                                            refine pure_ (i := 10) (N := some 25) (v := ?_) (a' := ?_) #[true, true, true, true, true, true, true, true, true, true, true] rfl rfl (any_of HT_.out (by kernel_rfl)) (fun _ _ _ h => h) (Or.inl ⟨by rfl, ?_⟩) ?_ ?_
                                            rotate_left
                                            · intro w'
                                              go_simp
                                              with_reducible rfl
                                            rotate_left
                                            · simp only [Act.put, List.setIfInBounds_toArray, List.set_cons_zero, List.set_cons_succ, i64_w, i32_w]
                                              rfl
                                            refine done_ (done_of HT_.out (by kernel_rfl)) ?_
                                            obtain ⟨Ao65, co65, eo65⟩ := Kd.R_slice HO332.out
                                            subst eo65
                                            try go_wp2_with (first | ((with_reducible refine gate_callee (f := 25) rfl ?_); refine goesL_ (some 160) rfl rfl Tryd.func25 (by kernel_rfl) rfl #[.int .i64 a0, .int .i64 a2, .int .i64 a4, .slice Ao65 y330.length co65] rfl (by (try simp only [List.map_toArray, List.map_cons, List.map_nil]); first | done | rfl | (simp only [List.length_drop, List.length_take]; rfl)) ?_; (with_reducible refine (calendar_Deadline.calls kj30 a0 a2 a4 _ _ y330 t333 t334 _ ?side1 ?side2 A46.out).mono ?_); (case side1 => repeat (first | exact (Kd.R_reads' HO332.out).2.2 | (with_reducible refine Kd.C_alloc ?_ _) | (with_reducible refine Kd.C_drewN ?_ _) | (with_reducible refine Kd.C_drew ?_))); (case side2 => exact (Kd.R_reads' HO332.out).2.1); rintro e w' ⟨rfl, ⟨nd, rfl⟩⟩; refine ⟨_, rfl, ?_⟩))
                                            go_ret
                                            exact ⟨by first | rfl | (simp [errW_none, errW_some] <;> rfl) | (simp only [← hji38, ← hji42]; first | rfl | (simp [errW_none, errW_some] <;> rfl)) | (simp [*, errW_none, errW_some] <;> rfl), by repeat (first | (with_reducible first | exact HB.out | apply below_alloc | apply pw_below_drewN | apply below_drew1) | exact HB.out)⟩
                                        · rw [if_neg c48] at H
                                          have c48b0 : (t315 == 0) = false := beq_eq_false_iff_ne.mpr c48
                                          have c48b1 : (t315 != 0) = true := bne_iff_ne.mpr c48
                                          obtain rfl := Option.some.inj H
                                          try go_wp2
                                          have n0_ := Aside0.mk (below_drew1 HB.out)
                                          clear HB
                                          have HB := n0_
                                          clear n0_
                                          obtain ⟨i067, hi067, _, hsz67, _⟩ := info_parts info3
                                          obtain ⟨hcut67, hA67, hC67⟩ := print_take_of (P := Tryd.prog) (Value.int .i64) 0 22 3 .i64 Tryd.underlying22 hi067 hsz67 A6 c6 l6 (ji38) (of_decide_eq_true (by first | (with_reducible assumption) | assumption)) (of_decide_eq_true (by first | (with_reducible assumption) | assumption)) HC6.out
                                          have HR325 := Aside0.mk (Kd.C_of_reads (h1 := fun _ => rfl) (hA67 _ (Kd.reads_of_C HR6.out)))
                                          have HC325 := Aside0.mk hC67
                                          clear hA67 hC67 hi067 hsz67
                                          obtain ⟨i068, hi068, _, hsz68, _⟩ := info_parts info3
                                          obtain ⟨A68, hcut68, hA68, hC68⟩ := print_drop_of (P := Tryd.prog) (Value.int .i64) 0 22 3 .i64 Tryd.underlying22 hi068 hsz68 A6 c6 l6 (ji42) (of_decide_eq_true (by first | (with_reducible assumption) | assumption)) (of_decide_eq_true (by first | (with_reducible assumption) | assumption)) HC6.out
                                          have HR329 := Aside0.mk (Kd.C_of_reads (h1 := fun _ => rfl) (hA68 _ (Kd.reads_of_C HR6.out)))
                                          have HC329 := Aside0.mk hC68
                                          clear hA68 hC68 hi068 hsz68
                                          refine start_ (n := 11) (S := fun w' => True) (ds := []) #[false, false, false, false, false, false, false, false, false, false, false] (by kernel_rfl) rfl rfl trivial (fun hHeld => ?_); refine with_tabW cohousinglaw03_CalendarOrder.tab17 cohousinglaw03_CalendarOrder.bits17 (fun HT_ HW_ => ?_)
                                          generalize wc.drew = w66 at HB HR325 HR329 hHeld ⊢
                                          refine pure_ (i := 1) (N := some 146) (v := ?_) (a' := ?_) #[false, true, false, false, false, false, false, false, false, false, false] rfl rfl (any_of HT_.out (by kernel_rfl)) (fun _ _ _ h => h) (Or.inl ⟨by rfl, ?_⟩) ?_ ?_
                                          rotate_left
                                          · intro w'
                                            go_simp
                                            with_reducible rfl
                                          rotate_left
                                          · simp only [Act.put, List.setIfInBounds_toArray, List.set_cons_zero, List.set_cons_succ, i64_w, i32_w]
                                            rfl
                                          refine pure_ (i := 2) (N := some 147) (v := ?_) (a' := ?_) #[false, true, true, false, false, false, false, false, false, false, false] rfl rfl (any_of HT_.out (by kernel_rfl)) (fun _ _ _ h => h) (Or.inl ⟨by rfl, ?_⟩) ?_ ?_
                                          rotate_left
                                          · intro w'
                                            go_simp
                                            with_reducible rfl
                                          rotate_left
                                          · simp only [Act.put, List.setIfInBounds_toArray, List.set_cons_zero, List.set_cons_succ, i64_w, i32_w]
                                            rfl
                                          refine pure_ (i := 3) (N := some 148) (v := ?_) (a' := ?_) #[false, true, true, true, false, false, false, false, false, false, false] rfl rfl (any_of HT_.out (by kernel_rfl)) (fun _ _ _ h => h) (Or.inl ⟨by rfl, ?_⟩) ?_ ?_
                                          rotate_left
                                          · intro w'
                                            go_simp
                                            with_reducible rfl
                                          rotate_left
                                          · simp only [Act.put, List.setIfInBounds_toArray, List.set_cons_zero, List.set_cons_succ, i64_w, i32_w]
                                            rfl
                                          refine pure_ (i := 5) (N := some 150) (v := ?_) (a' := ?_) #[false, true, true, true, false, true, false, false, false, false, false] rfl rfl (any_of HT_.out (by kernel_rfl)) (fun _ _ _ h => h) (Or.inl ⟨by rfl, ?_⟩) ?_ ?_
                                          rotate_left
                                          · intro w'
                                            go_simp
                                            with_reducible rfl
                                          rotate_left
                                          · simp only [Act.put, List.setIfInBounds_toArray, List.set_cons_zero, List.set_cons_succ, i64_w, i32_w]
                                            rfl
                                          refine pure_ (i := 6) (N := some 151) (v := ?_) (a' := ?_) #[false, true, true, true, false, true, true, false, false, false, false] rfl rfl (any_of HT_.out (by kernel_rfl)) (fun _ _ _ h => h) (Or.inl ⟨by rfl, ?_⟩) ?_ ?_
                                          rotate_left
                                          · intro w'
                                            go_simp
                                            with_reducible rfl
                                          rotate_left
                                          · simp only [Act.put, List.setIfInBounds_toArray, List.set_cons_zero, List.set_cons_succ, i64_w, i32_w]
                                            rfl
                                          refine pure_ (i := 7) (N := some 152) (v := ?_) (a' := ?_) #[false, true, true, true, false, true, true, true, false, false, false] rfl rfl (any_of HT_.out (by kernel_rfl)) (fun _ _ _ h => h) (Or.inl ⟨by rfl, ?_⟩) ?_ ?_
                                          rotate_left
                                          · intro w'
                                            go_simp
                                            with_reducible rfl
                                          rotate_left
                                          · simp only [Act.put, List.setIfInBounds_toArray, List.set_cons_zero, List.set_cons_succ, i64_w, i32_w]
                                            rfl
                                          refine pure_ (i := 8) (N := some 153) (v := ?_) (a' := ?_) #[false, true, true, true, false, true, true, true, true, false, false] rfl rfl (any_of HT_.out (by kernel_rfl)) (fun _ _ _ h => h) (Or.inl ⟨by rfl, ?_⟩) ?_ ?_
                                          rotate_left
                                          · intro w'
                                            go_simp
                                            with_reducible rfl
                                          rotate_left
                                          · simp only [Act.put, List.setIfInBounds_toArray, List.set_cons_zero, List.set_cons_succ, i64_w, i32_w]
                                            rfl
                                          refine one_ (i := 0) (N := some 145) #[true, true, true, true, false, true, true, true, true, false, false] rfl rfl (one_of HT_.out (by kernel_rfl)) (by decide) (fun K hK => ?_)
                                          refine Kd.R_lit_step (Kd.int .i64) _ 3 ?hg (N := 145) ?hd (xs := ([] : List Int)) (inner := []) (ok := fun _ => True) (okp := fun _ => True) ?hr ?hp (fun _ hk => hk) trivial (Below.refl _ _) (Nat.le_refl _) (by simp) ?_; (case hd => rfl); (case hg => rfl); (case hr => first | (go_simp; done) | (go_simp; rfl)); (case hp => exact (Reps.none _ _))
                                          intro v323 w69 ho70 hb hg_ hnew_
                                          clear hg_ hnew_
                                          (first | rw [← Ny322.out] at ho70 | (simp only [Int.reduceToNat] at ho70; rw [← Ny322.out] at ho70))
                                          have n0_ := Aside0.mk (Kd.R_lower ho70 (below_size (by repeat (first | (with_reducible first | exact HB.out | apply below_alloc | apply pw_below_drewN | apply below_drew1) | exact HB.out))))
                                          have n1_ := Aside0.mk (below_step (by repeat (first | (with_reducible first | exact HB.out | apply below_alloc | apply pw_below_drewN | apply below_drew1) | exact HB.out)) hb)
                                          clear HB
                                          have HO324 := n0_
                                          have HB := n1_
                                          clear n0_ n1_
                                          clear hb ho70
                                          refine hK.out _ _ trivial (fun hHeld => ?_)
                                          clear hK K
                                          refine norm_ (a' := ?_) ?_ ?_
                                          rotate_left
                                          · show Act.put _ (some 145) _ = _
                                            simp only [Act.put, List.setIfInBounds_toArray, List.set_cons_zero, List.set_cons_succ, i64_w, i32_w]
                                            rfl
                                          refine one_ (i := 4) (N := some 149) #[true, true, true, true, true, true, true, true, true, false, false] rfl rfl (one_of HT_.out (by kernel_rfl)) (by decide) (fun K hK => ?_)
                                          refine Kd.R_append_rows_step (Kd.int .i64) (w0 := w) w.heap.size (by rfl) (.tmp 145) (.tmp 148) 22 3 (.int .i64 0) 8 rfl Tryd.underlying22 info3 rfl (by decide) (by omega) v323 y322 (l6.take ((ji38) : Int).toNat) _ _ _ (fun _ => True) (fun _ => False) rfl rfl ?aO ?aR (fun _ _ h => h) (fun _ h => h.elim) ?aF ?aB ?aS ?aL ?_
                                          (case aR => first | (refine row_len_ (show (l6.take ((ji38) : Int).toNat).length = (ji38).toNat from (by rw [List.length_take]; have h_ : ((ji38) : Int) ≤ (l6.length : Int) := of_decide_eq_true (by first | (with_reducible assumption) | assumption); omega)) ?_; repeat (first | exact (Kd.C_below HR325.out HB.out) | (with_reducible refine Kd.C_alloc ?_ _) | (with_reducible refine Kd.C_drewN ?_ _) | (with_reducible refine Kd.C_drew ?_))) | (repeat (first | exact (Kd.C_below HR325.out HB.out) | (with_reducible refine Kd.C_alloc ?_ _) | (with_reducible refine Kd.C_drewN ?_ _) | (with_reducible refine Kd.C_drew ?_))))
                                          (case aB => exact (by repeat (first | (with_reducible first | exact HB.out | apply below_alloc | apply pw_below_drewN | apply below_drew1) | exact HB.out)))
                                          (case aF => exact (fun _ _ => trivial))
                                          (case aO => exact (by (with_reducible repeat (first | apply Kd.R_alloc | apply Kd.R_drewN | apply Kd.R_drew)); exact HO324.out))
                                          (case aS => exact (below_size (by repeat (first | (with_reducible first | exact HB.out | apply below_alloc | apply pw_below_drewN | apply below_drew1) | exact HB.out))))
                                          (case aL => have := LMc41.out; have hlx_ := (show (l6.take ((ji38) : Int).toNat).length = (ji38).toNat from (by rw [List.length_take]; have h_ : ((ji38) : Int) ≤ (l6.length : Int) := of_decide_eq_true (by first | (with_reducible assumption) | assumption); omega)); omega)
                                          intro v327 w71 ho hb hg hat
                                          rw [← Ny326.out] at ho
                                          have n0_ := Aside0.mk (hb)
                                          have n1_ := Aside0.mk (ho)
                                          clear HB
                                          clear HO324
                                          have HB := n0_
                                          have HO328 := n1_
                                          clear n0_ n1_
                                          clear ho hb hg hat
                                          refine hK.out _ _ trivial (fun hHeld => ?_)
                                          clear hK K
                                          refine norm_ (a' := ?_) ?_ ?_
                                          rotate_left
                                          · show Act.put _ (some 149) _ = _
                                            simp only [Act.put, List.setIfInBounds_toArray, List.set_cons_zero, List.set_cons_succ, i64_w, i32_w]
                                            rfl
                                          refine one_ (i := 9) (N := some 154) #[true, true, true, true, true, true, true, true, true, true, false] rfl rfl (one_of HT_.out (by kernel_rfl)) (by decide) (fun K hK => ?_)
                                          refine Kd.R_append_rows_step (Kd.int .i64) (w0 := w) w.heap.size (by rfl) (.tmp 149) (.tmp 153) 22 3 (.int .i64 0) 8 rfl Tryd.underlying22 info3 rfl (by decide) (by omega) v327 y326 (l6.drop ((ji42) : Int).toNat) _ _ _ (fun _ => True) (fun _ => False) rfl rfl ?aO ?aR (fun _ _ h => h) (fun _ h => h.elim) ?aF ?aB ?aS ?aL ?_
                                          (case aR => first | (refine row_len_ (show (l6.drop ((ji42) : Int).toNat).length = (l6.length - (ji42).toNat) from List.length_drop) ?_; repeat (first | exact (Kd.C_below HR329.out HB.out) | (with_reducible refine Kd.C_alloc ?_ _) | (with_reducible refine Kd.C_drewN ?_ _) | (with_reducible refine Kd.C_drew ?_))) | (repeat (first | exact (Kd.C_below HR329.out HB.out) | (with_reducible refine Kd.C_alloc ?_ _) | (with_reducible refine Kd.C_drewN ?_ _) | (with_reducible refine Kd.C_drew ?_))))
                                          (case aB => exact (by repeat (first | (with_reducible first | exact HB.out | apply below_alloc | apply pw_below_drewN | apply below_drew1) | exact HB.out)))
                                          (case aF => exact (fun _ _ => trivial))
                                          (case aO => exact (by (with_reducible repeat (first | apply Kd.R_alloc | apply Kd.R_drewN | apply Kd.R_drew)); exact HO328.out))
                                          (case aS => exact (below_size (by repeat (first | (with_reducible first | exact HB.out | apply below_alloc | apply pw_below_drewN | apply below_drew1) | exact HB.out))))
                                          (case aL => have := LMc45.out; have hlx_ := (show (l6.drop ((ji42) : Int).toNat).length = (l6.length - (ji42).toNat) from List.length_drop); omega)
                                          intro v331 w72 ho hb hg hat
                                          rw [← Ny330.out] at ho
                                          have n0_ := Aside0.mk (hb)
                                          have n1_ := Aside0.mk (ho)
                                          clear HB
                                          clear HO328
                                          have HB := n0_
                                          have HO332 := n1_
                                          clear n0_ n1_
                                          clear ho hb hg hat
                                          refine hK.out _ _ trivial (fun hHeld => ?_)
                                          clear hK K
                                          refine norm_ (a' := ?_) ?_ ?_
                                          rotate_left
                                          · show Act.put _ (some 154) _ = _
                                            simp only [Act.put, List.setIfInBounds_toArray, List.set_cons_zero, List.set_cons_succ, i64_w, i32_w]
                                            rfl
                                          refine pure_ (i := 10) (N := some 25) (v := ?_) (a' := ?_) #[true, true, true, true, true, true, true, true, true, true, true] rfl rfl (any_of HT_.out (by kernel_rfl)) (fun _ _ _ h => h) (Or.inl ⟨by rfl, ?_⟩) ?_ ?_
                                          rotate_left
                                          · intro w'
                                            go_simp
                                            with_reducible rfl
                                          rotate_left
                                          · simp only [Act.put, List.setIfInBounds_toArray, List.set_cons_zero, List.set_cons_succ, i64_w, i32_w]
                                            rfl
                                          refine done_ (done_of HT_.out (by kernel_rfl)) ?_
                                          obtain ⟨Ao73, co73, eo73⟩ := Kd.R_slice HO332.out
                                          subst eo73
                                          try go_wp2_with (first | ((with_reducible refine gate_callee (f := 25) rfl ?_); refine goesL_ (some 160) rfl rfl Tryd.func25 (by kernel_rfl) rfl #[.int .i64 a0, .int .i64 a2, .int .i64 a4, .slice Ao73 y330.length co73] rfl (by (try simp only [List.map_toArray, List.map_cons, List.map_nil]); first | done | rfl | (simp only [List.length_drop, List.length_take]; rfl)) ?_; (with_reducible refine (calendar_Deadline.calls kj30 a0 a2 a4 _ _ y330 t333 t334 _ ?side1 ?side2 A46.out).mono ?_); (case side1 => repeat (first | exact (Kd.R_reads' HO332.out).2.2 | (with_reducible refine Kd.C_alloc ?_ _) | (with_reducible refine Kd.C_drewN ?_ _) | (with_reducible refine Kd.C_drew ?_))); (case side2 => exact (Kd.R_reads' HO332.out).2.1); rintro e w' ⟨rfl, ⟨nd, rfl⟩⟩; refine ⟨_, rfl, ?_⟩))
                                          go_ret
                                          exact ⟨by first | rfl | (simp [errW_none, errW_some] <;> rfl) | (simp only [← hji38, ← hji42]; first | rfl | (simp [errW_none, errW_some] <;> rfl)) | (simp [*, errW_none, errW_some] <;> rfl), by repeat (first | (with_reducible first | exact HB.out | apply below_alloc | apply pw_below_drewN | apply below_drew1) | exact HB.out)⟩
                                      · replace c47 := Bool.eq_false_iff.mpr c47
                                        subst c47
                                        have H1 : (some false) = some r := by rw [if_neg (show ¬ (false = true) by decide)] at H; exact H
                                        clear H
                                        have H := H1
                                        clear H1
                                        obtain rfl := Option.some.inj H
                                        try go_wp2
                                        have n0_ := Aside0.mk (below_drew1 HB.out)
                                        clear HB
                                        have HB := n0_
                                        clear n0_
                                        obtain ⟨i075, hi075, _, hsz75, _⟩ := info_parts info3
                                        obtain ⟨hcut75, hA75, hC75⟩ := print_take_of (P := Tryd.prog) (Value.int .i64) 0 22 3 .i64 Tryd.underlying22 hi075 hsz75 A6 c6 l6 (ji38) (of_decide_eq_true (by first | (with_reducible assumption) | assumption)) (of_decide_eq_true (by first | (with_reducible assumption) | assumption)) HC6.out
                                        have HR325 := Aside0.mk (Kd.C_of_reads (h1 := fun _ => rfl) (hA75 _ (Kd.reads_of_C HR6.out)))
                                        have HC325 := Aside0.mk hC75
                                        clear hA75 hC75 hi075 hsz75
                                        obtain ⟨i076, hi076, _, hsz76, _⟩ := info_parts info3
                                        obtain ⟨A76, hcut76, hA76, hC76⟩ := print_drop_of (P := Tryd.prog) (Value.int .i64) 0 22 3 .i64 Tryd.underlying22 hi076 hsz76 A6 c6 l6 (ji42) (of_decide_eq_true (by first | (with_reducible assumption) | assumption)) (of_decide_eq_true (by first | (with_reducible assumption) | assumption)) HC6.out
                                        have HR329 := Aside0.mk (Kd.C_of_reads (h1 := fun _ => rfl) (hA76 _ (Kd.reads_of_C HR6.out)))
                                        have HC329 := Aside0.mk hC76
                                        clear hA76 hC76 hi076 hsz76
                                        refine start_ (n := 11) (S := fun w' => True) (ds := []) #[false, false, false, false, false, false, false, false, false, false, false] (by kernel_rfl) rfl rfl trivial (fun hHeld => ?_); refine with_tabW cohousinglaw03_CalendarOrder.tab17 cohousinglaw03_CalendarOrder.bits17 (fun HT_ HW_ => ?_)
                                        generalize wc.drew = w74 at HB HR325 HR329 hHeld ⊢
                                        refine pure_ (i := 1) (N := some 146) (v := ?_) (a' := ?_) #[false, true, false, false, false, false, false, false, false, false, false] rfl rfl (any_of HT_.out (by kernel_rfl)) (fun _ _ _ h => h) (Or.inl ⟨by rfl, ?_⟩) ?_ ?_
                                        rotate_left
                                        · intro w'
                                          go_simp
                                          with_reducible rfl
                                        rotate_left
                                        · simp only [Act.put, List.setIfInBounds_toArray, List.set_cons_zero, List.set_cons_succ, i64_w, i32_w]
                                          rfl
                                        refine pure_ (i := 2) (N := some 147) (v := ?_) (a' := ?_) #[false, true, true, false, false, false, false, false, false, false, false] rfl rfl (any_of HT_.out (by kernel_rfl)) (fun _ _ _ h => h) (Or.inl ⟨by rfl, ?_⟩) ?_ ?_
                                        rotate_left
                                        · intro w'
                                          go_simp
                                          with_reducible rfl
                                        rotate_left
                                        · simp only [Act.put, List.setIfInBounds_toArray, List.set_cons_zero, List.set_cons_succ, i64_w, i32_w]
                                          rfl
                                        refine pure_ (i := 3) (N := some 148) (v := ?_) (a' := ?_) #[false, true, true, true, false, false, false, false, false, false, false] rfl rfl (any_of HT_.out (by kernel_rfl)) (fun _ _ _ h => h) (Or.inl ⟨by rfl, ?_⟩) ?_ ?_
                                        rotate_left
                                        · intro w'
                                          go_simp
                                          with_reducible rfl
                                        rotate_left
                                        · simp only [Act.put, List.setIfInBounds_toArray, List.set_cons_zero, List.set_cons_succ, i64_w, i32_w]
                                          rfl
                                        refine pure_ (i := 5) (N := some 150) (v := ?_) (a' := ?_) #[false, true, true, true, false, true, false, false, false, false, false] rfl rfl (any_of HT_.out (by kernel_rfl)) (fun _ _ _ h => h) (Or.inl ⟨by rfl, ?_⟩) ?_ ?_
                                        rotate_left
                                        · intro w'
                                          go_simp
                                          with_reducible rfl
                                        rotate_left
                                        · simp only [Act.put, List.setIfInBounds_toArray, List.set_cons_zero, List.set_cons_succ, i64_w, i32_w]
                                          rfl
                                        refine pure_ (i := 6) (N := some 151) (v := ?_) (a' := ?_) #[false, true, true, true, false, true, true, false, false, false, false] rfl rfl (any_of HT_.out (by kernel_rfl)) (fun _ _ _ h => h) (Or.inl ⟨by rfl, ?_⟩) ?_ ?_
                                        rotate_left
                                        · intro w'
                                          go_simp
                                          with_reducible rfl
                                        rotate_left
                                        · simp only [Act.put, List.setIfInBounds_toArray, List.set_cons_zero, List.set_cons_succ, i64_w, i32_w]
                                          rfl
                                        refine pure_ (i := 7) (N := some 152) (v := ?_) (a' := ?_) #[false, true, true, true, false, true, true, true, false, false, false] rfl rfl (any_of HT_.out (by kernel_rfl)) (fun _ _ _ h => h) (Or.inl ⟨by rfl, ?_⟩) ?_ ?_
                                        rotate_left
                                        · intro w'
                                          go_simp
                                          with_reducible rfl
                                        rotate_left
                                        · simp only [Act.put, List.setIfInBounds_toArray, List.set_cons_zero, List.set_cons_succ, i64_w, i32_w]
                                          rfl
                                        refine pure_ (i := 8) (N := some 153) (v := ?_) (a' := ?_) #[false, true, true, true, false, true, true, true, true, false, false] rfl rfl (any_of HT_.out (by kernel_rfl)) (fun _ _ _ h => h) (Or.inl ⟨by rfl, ?_⟩) ?_ ?_
                                        rotate_left
                                        · intro w'
                                          go_simp
                                          with_reducible rfl
                                        rotate_left
                                        · simp only [Act.put, List.setIfInBounds_toArray, List.set_cons_zero, List.set_cons_succ, i64_w, i32_w]
                                          rfl
                                        refine one_ (i := 0) (N := some 145) #[true, true, true, true, false, true, true, true, true, false, false] rfl rfl (one_of HT_.out (by kernel_rfl)) (by decide) (fun K hK => ?_)
                                        refine Kd.R_lit_step (Kd.int .i64) _ 3 ?hg (N := 145) ?hd (xs := ([] : List Int)) (inner := []) (ok := fun _ => True) (okp := fun _ => True) ?hr ?hp (fun _ hk => hk) trivial (Below.refl _ _) (Nat.le_refl _) (by simp) ?_; (case hd => rfl); (case hg => rfl); (case hr => first | (go_simp; done) | (go_simp; rfl)); (case hp => exact (Reps.none _ _))
                                        intro v323 w77 ho78 hb hg_ hnew_
                                        clear hg_ hnew_
                                        (first | rw [← Ny322.out] at ho78 | (simp only [Int.reduceToNat] at ho78; rw [← Ny322.out] at ho78))
                                        have n0_ := Aside0.mk (Kd.R_lower ho78 (below_size (by repeat (first | (with_reducible first | exact HB.out | apply below_alloc | apply pw_below_drewN | apply below_drew1) | exact HB.out))))
                                        have n1_ := Aside0.mk (below_step (by repeat (first | (with_reducible first | exact HB.out | apply below_alloc | apply pw_below_drewN | apply below_drew1) | exact HB.out)) hb)
                                        clear HB
                                        have HO324 := n0_
                                        have HB := n1_
                                        clear n0_ n1_
                                        clear hb ho78
                                        refine hK.out _ _ trivial (fun hHeld => ?_)
                                        clear hK K
                                        refine norm_ (a' := ?_) ?_ ?_
                                        rotate_left
                                        · show Act.put _ (some 145) _ = _
                                          simp only [Act.put, List.setIfInBounds_toArray, List.set_cons_zero, List.set_cons_succ, i64_w, i32_w]
                                          rfl
                                        refine one_ (i := 4) (N := some 149) #[true, true, true, true, true, true, true, true, true, false, false] rfl rfl (one_of HT_.out (by kernel_rfl)) (by decide) (fun K hK => ?_)
                                        refine Kd.R_append_rows_step (Kd.int .i64) (w0 := w) w.heap.size (by rfl) (.tmp 145) (.tmp 148) 22 3 (.int .i64 0) 8 rfl Tryd.underlying22 info3 rfl (by decide) (by omega) v323 y322 (l6.take ((ji38) : Int).toNat) _ _ _ (fun _ => True) (fun _ => False) rfl rfl ?aO ?aR (fun _ _ h => h) (fun _ h => h.elim) ?aF ?aB ?aS ?aL ?_
                                        (case aR => first | (refine row_len_ (show (l6.take ((ji38) : Int).toNat).length = (ji38).toNat from (by rw [List.length_take]; have h_ : ((ji38) : Int) ≤ (l6.length : Int) := of_decide_eq_true (by first | (with_reducible assumption) | assumption); omega)) ?_; repeat (first | exact (Kd.C_below HR325.out HB.out) | (with_reducible refine Kd.C_alloc ?_ _) | (with_reducible refine Kd.C_drewN ?_ _) | (with_reducible refine Kd.C_drew ?_))) | (repeat (first | exact (Kd.C_below HR325.out HB.out) | (with_reducible refine Kd.C_alloc ?_ _) | (with_reducible refine Kd.C_drewN ?_ _) | (with_reducible refine Kd.C_drew ?_))))
                                        (case aB => exact (by repeat (first | (with_reducible first | exact HB.out | apply below_alloc | apply pw_below_drewN | apply below_drew1) | exact HB.out)))
                                        (case aF => exact (fun _ _ => trivial))
                                        (case aO => exact (by (with_reducible repeat (first | apply Kd.R_alloc | apply Kd.R_drewN | apply Kd.R_drew)); exact HO324.out))
                                        (case aS => exact (below_size (by repeat (first | (with_reducible first | exact HB.out | apply below_alloc | apply pw_below_drewN | apply below_drew1) | exact HB.out))))
                                        (case aL => have := LMc41.out; have hlx_ := (show (l6.take ((ji38) : Int).toNat).length = (ji38).toNat from (by rw [List.length_take]; have h_ : ((ji38) : Int) ≤ (l6.length : Int) := of_decide_eq_true (by first | (with_reducible assumption) | assumption); omega)); omega)
                                        intro v327 w79 ho hb hg hat
                                        rw [← Ny326.out] at ho
                                        have n0_ := Aside0.mk (hb)
                                        have n1_ := Aside0.mk (ho)
                                        clear HB
                                        clear HO324
                                        have HB := n0_
                                        have HO328 := n1_
                                        clear n0_ n1_
                                        clear ho hb hg hat
                                        refine hK.out _ _ trivial (fun hHeld => ?_)
                                        clear hK K
                                        refine norm_ (a' := ?_) ?_ ?_
                                        rotate_left
                                        · show Act.put _ (some 149) _ = _
                                          simp only [Act.put, List.setIfInBounds_toArray, List.set_cons_zero, List.set_cons_succ, i64_w, i32_w]
                                          rfl
                                        refine one_ (i := 9) (N := some 154) #[true, true, true, true, true, true, true, true, true, true, false] rfl rfl (one_of HT_.out (by kernel_rfl)) (by decide) (fun K hK => ?_)
                                        refine Kd.R_append_rows_step (Kd.int .i64) (w0 := w) w.heap.size (by rfl) (.tmp 149) (.tmp 153) 22 3 (.int .i64 0) 8 rfl Tryd.underlying22 info3 rfl (by decide) (by omega) v327 y326 (l6.drop ((ji42) : Int).toNat) _ _ _ (fun _ => True) (fun _ => False) rfl rfl ?aO ?aR (fun _ _ h => h) (fun _ h => h.elim) ?aF ?aB ?aS ?aL ?_
                                        (case aR => first | (refine row_len_ (show (l6.drop ((ji42) : Int).toNat).length = (l6.length - (ji42).toNat) from List.length_drop) ?_; repeat (first | exact (Kd.C_below HR329.out HB.out) | (with_reducible refine Kd.C_alloc ?_ _) | (with_reducible refine Kd.C_drewN ?_ _) | (with_reducible refine Kd.C_drew ?_))) | (repeat (first | exact (Kd.C_below HR329.out HB.out) | (with_reducible refine Kd.C_alloc ?_ _) | (with_reducible refine Kd.C_drewN ?_ _) | (with_reducible refine Kd.C_drew ?_))))
                                        (case aB => exact (by repeat (first | (with_reducible first | exact HB.out | apply below_alloc | apply pw_below_drewN | apply below_drew1) | exact HB.out)))
                                        (case aF => exact (fun _ _ => trivial))
                                        (case aO => exact (by (with_reducible repeat (first | apply Kd.R_alloc | apply Kd.R_drewN | apply Kd.R_drew)); exact HO328.out))
                                        (case aS => exact (below_size (by repeat (first | (with_reducible first | exact HB.out | apply below_alloc | apply pw_below_drewN | apply below_drew1) | exact HB.out))))
                                        (case aL => have := LMc45.out; have hlx_ := (show (l6.drop ((ji42) : Int).toNat).length = (l6.length - (ji42).toNat) from List.length_drop); omega)
                                        intro v331 w80 ho hb hg hat
                                        rw [← Ny330.out] at ho
                                        have n0_ := Aside0.mk (hb)
                                        have n1_ := Aside0.mk (ho)
                                        clear HB
                                        clear HO328
                                        have HB := n0_
                                        have HO332 := n1_
                                        clear n0_ n1_
                                        clear ho hb hg hat
                                        refine hK.out _ _ trivial (fun hHeld => ?_)
                                        clear hK K
                                        refine norm_ (a' := ?_) ?_ ?_
                                        rotate_left
                                        · show Act.put _ (some 154) _ = _
                                          simp only [Act.put, List.setIfInBounds_toArray, List.set_cons_zero, List.set_cons_succ, i64_w, i32_w]
                                          rfl
                                        refine pure_ (i := 10) (N := some 25) (v := ?_) (a' := ?_) #[true, true, true, true, true, true, true, true, true, true, true] rfl rfl (any_of HT_.out (by kernel_rfl)) (fun _ _ _ h => h) (Or.inl ⟨by rfl, ?_⟩) ?_ ?_
                                        rotate_left
                                        · intro w'
                                          go_simp
                                          with_reducible rfl
                                        rotate_left
                                        · simp only [Act.put, List.setIfInBounds_toArray, List.set_cons_zero, List.set_cons_succ, i64_w, i32_w]
                                          rfl
                                        refine done_ (done_of HT_.out (by kernel_rfl)) ?_
                                        obtain ⟨Ao81, co81, eo81⟩ := Kd.R_slice HO332.out
                                        subst eo81
                                        try go_wp2_with (first | ((with_reducible refine gate_callee (f := 25) rfl ?_); refine goesL_ (some 160) rfl rfl Tryd.func25 (by kernel_rfl) rfl #[.int .i64 a0, .int .i64 a2, .int .i64 a4, .slice Ao81 y330.length co81] rfl (by (try simp only [List.map_toArray, List.map_cons, List.map_nil]); first | done | rfl | (simp only [List.length_drop, List.length_take]; rfl)) ?_; (with_reducible refine (calendar_Deadline.calls kj30 a0 a2 a4 _ _ y330 t333 t334 _ ?side1 ?side2 A46.out).mono ?_); (case side1 => repeat (first | exact (Kd.R_reads' HO332.out).2.2 | (with_reducible refine Kd.C_alloc ?_ _) | (with_reducible refine Kd.C_drewN ?_ _) | (with_reducible refine Kd.C_drew ?_))); (case side2 => exact (Kd.R_reads' HO332.out).2.1); rintro e w' ⟨rfl, ⟨nd, rfl⟩⟩; refine ⟨_, rfl, ?_⟩))
                                        go_ret
                                        exact ⟨by first | rfl | (simp [errW_none, errW_some] <;> rfl) | (simp only [← hji38, ← hji42]; first | rfl | (simp [errW_none, errW_some] <;> rfl)) | (simp [*, errW_none, errW_some] <;> rfl), by repeat (first | (with_reducible first | exact HB.out | apply below_alloc | apply pw_below_drewN | apply below_drew1) | exact HB.out)⟩
                                    · rw [if_neg c45] at H
                                      exact absurd H (by simp)
                                  · rw [if_neg c44] at H
                                    exact absurd H (by simp)
                                · rw [if_neg c43] at H
                                  exact absurd H (by simp)
                              · rw [if_neg c41] at H
                                exact absurd H (by simp)
                            · rw [if_neg c40] at H
                              exact absurd H (by simp)
                          · rw [if_neg c39] at H
                            exact absurd H (by simp)

/-- THE ONE PURE STATEMENT of cohousinglaw03_CalendarOrder: yours. -/
def cohousinglaw03_CalendarOrder.Pure : Prop := ∀ (a0 : Int) (a1 : Int) (a2 : Int) (a3 : Int) (a4 : Int) (a5 : Int) (l6 : List Int), (Lit.int .i64 a0).wf = true → (Lit.int .i64 a1).wf = true → (Lit.int .i64 a2).wf = true → (Lit.int .i64 a3).wf = true → (Lit.int .i64 a4).wf = true → (Lit.int .i64 a5).wf = true → l6.length ≤ maxLen → l6.length * 8 ≤ 140737488351232 → (∀ x ∈ l6, (Lit.int .i64 x).wf = true) → ∃ k, cohousinglaw03_CalendarOrder.f k a0 a1 a2 a3 a4 a5 l6 = some true
theorem cohousinglaw03_CalendarOrder.walk (P : cohousinglaw03_CalendarOrder.Pure) (a0 : Int) (a1 : Int) (a2 : Int) (a3 : Int) (a4 : Int) (a5 : Int) (a6 : Option Addr) (len6 cap6 : Nat) (z6 : List Int) (w : World) (w0 : (Lit.int .i64 a0).wf = true) (w1 : (Lit.int .i64 a1).wf = true) (w2 : (Lit.int .i64 a2).wf = true) (w3 : (Lit.int .i64 a3).wf = true) (w4 : (Lit.int .i64 a4).wf = true) (w5 : (Lit.int .i64 a5).wf = true) (w6 : (a6 = none ∧ len6 = 0 ∧ cap6 = 0 ∧ z6 = []) ∨ ∃ x, a6 = some x ∧ len6 ≤ cap6 ∧ cap6 ≤ maxLen ∧ z6.length = cap6 ∧ (∀ i, i < z6.length → w.cell? (x.add i) = some (.int .i64 (z6.getD i 0))) ∧ ∀ n ∈ z6, (Lit.int .i64 n).wf = true) (y6 : len6 * 8 ≤ 140737488351232) (HT : TabOK w) :
    Calls Tryd.prog 10 #[.int .i64 a0, .int .i64 a1, .int .i64 a2, .int .i64 a3, .int .i64 a4, .int .i64 a5, .slice a6 len6 cap6] w fun e w' => e = .returned (.bool true) ∧ Below w.heap.size w w' := by
  obtain ⟨l6, rfl, hr6, hm6, hw6, hc6⟩ := ReadsInt.ofRowC w6
  obtain ⟨k, h⟩ := P a0 a1 a2 a3 a4 a5 l6 w0 w1 w2 w3 w4 w5 hm6 y6 hw6
  refine (cohousinglaw03_CalendarOrder.calls k a0 a1 a2 a3 a4 a5 _ _ l6 true w (Kd.C_of_reads (d := (0 : Int)) (h1 := fun _ => rfl) hr6) hc6 HT h).mono ?_
  rintro e w' ⟨rfl, hd⟩
  exact ⟨rfl, hd⟩

end Go.Proofs.YtjkpojedegmciaaDoor.Px
