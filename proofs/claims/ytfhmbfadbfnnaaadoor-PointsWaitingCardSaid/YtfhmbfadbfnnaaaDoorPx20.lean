/- Contracts of Go functions, written by a program of this session's own (wip/tools/myprint.py) out of the translation: each Go function does what the Lean function of its name says. Conditions: as each theorem states. -/
import Derived.Test.YtfhmbfadbfnnaaaDoorPx0
import Derived.Test.YtfhmbfadbfnnaaaDoorPx2
import Derived.Test.YtfhmbfadbfnnaaaDoorPx3
import Derived.Test.YtfhmbfadbfnnaaaDoorPx19
import Derived.Test.YtfhmbfadbfnnaaaDoorGHead
namespace Go.Proofs.YtfhmbfadbfnnaaaDoor.Px
open Go.Proofs.YtfhmbfadbfnnaaaDoor.Given
open Go.RowKit Go.Proofs.YtfhmbfadbfnnaaaDoorW.PrintWords Go.Proofs.YtfhmbfadbfnnaaaDoorW.PrintLast Go.Proofs.YtfhmbfadbfnnaaaDoorW.PrintMore
attribute [local go_sem] max2_int min2_int max_two min_two max_three min_three max_four min_four   -- for this text's walks alone
set_option linter.unusedVariables false
set_option linter.unusedSimpArgs false

/-! ### cohousinglaw21_PointsWaiting: function 9 -/
mutual
def cohousinglaw21_PointsWaiting.j0 : Nat → Int → Int → Bool → Int → Bool → Int → Int → Int → Int → Int → Int → Int → Int → Int → Option (Bool)
  | 0, _, _, _, _, _, _, _, _, _, _, _, _, _, _ => none
  | k + 1, x2, x3, x9, x10, x40, x425000, x425001, x425002, x425003, x426000, x426001, x426002, x426003, x426004 => if x40 = true then (some x9) else ((points_Count.f k x425000 x425001 x425002 x425003 x426000 x426001 x426002 x426003 x426004 x3).bind fun bt429 => (if bt429.2 = 0 then (cohousinglaw21_PointsWaiting.j1 k x2 x9 x10 (decide (bt429.1 < x10)) x425000 x425001 x425002 x425003 x426000 x426001 x426002 x426003 x426004) else (if bt429.2 = 3 then (cohousinglaw21_PointsWaiting.j1 k x2 x9 x10 false x425000 x425001 x425002 x425003 x426000 x426001 x426002 x426003 x426004) else (cohousinglaw21_PointsWaiting.j1 k x2 x9 x10 true x425000 x425001 x425002 x425003 x426000 x426001 x426002 x426003 x426004))))
def cohousinglaw21_PointsWaiting.j1 : Nat → Int → Bool → Int → Bool → Int → Int → Int → Int → Int → Int → Int → Int → Int → Option (Bool)
  | 0, _, _, _, _, _, _, _, _, _, _, _, _, _ => none
  | k + 1, x2, x9, x10, x63, x425000, x425001, x425002, x425003, x426000, x426001, x426002, x426003, x426004 => if x63 = true then (some false) else ((calendar_Date.f k x2).bind fun bt431 => (if bt431.2.2.2 = 0 then ((calendar_Day.f k (wrap64 (bt431.1 + (wrap64 (Int.tdiv bt431.2.1 12)))) (wrap64 ((Int.tmod bt431.2.1 12) + 1)) bt431.2.2.1).bind fun bt435 => (if bt435.2 = 0 then (cohousinglaw21_PointsWaiting.j2 k x9 x10 bt435.1 (decide (bt431.2.2.1 > 28)) x425000 x425001 x425002 x425003 x426000 x426001 x426002 x426003 x426004) else (cohousinglaw21_PointsWaiting.j2 k x9 x10 bt435.1 true x425000 x425001 x425002 x425003 x426000 x426001 x426002 x426003 x426004))) else (some false)))
def cohousinglaw21_PointsWaiting.j2 : Nat → Bool → Int → Int → Bool → Int → Int → Int → Int → Int → Int → Int → Int → Int → Option (Bool)
  | 0, _, _, _, _, _, _, _, _, _, _, _, _, _ => none
  | k + 1, x9, x10, x18, x90, x425000, x425001, x425002, x425003, x426000, x426001, x426002, x426003, x426004 => if x90 = true then (some x9) else ((points_Count.f k x425000 x425001 x425002 x425003 x426000 x426001 x426002 x426003 x426004 x18).bind fun bt437 => (if (wrap64 (x10 + x425000)) > 1000000000 then (if x9 = true then (some (bt437.2 == 3)) else (some false)) else (if x9 = true then (if bt437.2 = 0 then (some (bt437.1 == (wrap64 (x10 + x425000)))) else (some false)) else (some false))))
end
def cohousinglaw21_PointsWaiting.f (k : Nat) (a0_0 a0_1 a0_2 a0_3 a1_0 a1_1 a1_2 a1_3 a1_4 a2 a3 : Int) : Option (Bool) := (cohousinglaw21_head.f k).bind fun t426 => ((points_Count.f k a0_0 a0_1 a0_2 a0_3 a1_0 a1_1 a1_2 a1_3 a1_4 a2).bind fun bt427 => (if bt427.2 = 0 then (if a3 < a2 then (cohousinglaw21_PointsWaiting.j0 k a2 a3 t426 bt427.1 true a0_0 a0_1 a0_2 a0_3 a1_0 a1_1 a1_2 a1_3 a1_4) else (cohousinglaw21_PointsWaiting.j0 k a2 a3 t426 bt427.1 (decide (a3 > 36524)) a0_0 a0_1 a0_2 a0_3 a1_0 a1_1 a1_2 a1_3 a1_4)) else (cohousinglaw21_PointsWaiting.j0 k a2 a3 t426 bt427.1 true a0_0 a0_1 a0_2 a0_3 a1_0 a1_1 a1_2 a1_3 a1_4)))
theorem cohousinglaw21_PointsWaiting.mono_l : ∀ k, (∀ y0 y1 y2 y3 y4 y5 y6 y7 y8 y9 y10 y11 y12 y13, LeO (cohousinglaw21_PointsWaiting.j0 k y0 y1 y2 y3 y4 y5 y6 y7 y8 y9 y10 y11 y12 y13) (cohousinglaw21_PointsWaiting.j0 (k + 1) y0 y1 y2 y3 y4 y5 y6 y7 y8 y9 y10 y11 y12 y13)) ∧ (∀ y0 y1 y2 y3 y4 y5 y6 y7 y8 y9 y10 y11 y12, LeO (cohousinglaw21_PointsWaiting.j1 k y0 y1 y2 y3 y4 y5 y6 y7 y8 y9 y10 y11 y12) (cohousinglaw21_PointsWaiting.j1 (k + 1) y0 y1 y2 y3 y4 y5 y6 y7 y8 y9 y10 y11 y12)) ∧ (∀ y0 y1 y2 y3 y4 y5 y6 y7 y8 y9 y10 y11 y12, LeO (cohousinglaw21_PointsWaiting.j2 k y0 y1 y2 y3 y4 y5 y6 y7 y8 y9 y10 y11 y12) (cohousinglaw21_PointsWaiting.j2 (k + 1) y0 y1 y2 y3 y4 y5 y6 y7 y8 y9 y10 y11 y12))
  | 0 => ⟨fun _ _ _ _ _ _ _ _ _ _ _ _ _ _ r h => by simp [cohousinglaw21_PointsWaiting.j0] at h, fun _ _ _ _ _ _ _ _ _ _ _ _ _ r h => by simp [cohousinglaw21_PointsWaiting.j1] at h, fun _ _ _ _ _ _ _ _ _ _ _ _ _ r h => by simp [cohousinglaw21_PointsWaiting.j2] at h⟩
  | k + 1 => by
    obtain ⟨ih0, ih1, ih2⟩ := cohousinglaw21_PointsWaiting.mono_l k
    refine ⟨?_, ?_, ?_⟩
    · intro y0 y1 y2 y3 y4 y5 y6 y7 y8 y9 y10 y11 y12 y13
      unfold cohousinglaw21_PointsWaiting.j0
      with_reducible (repeat' first | apply ih0 | apply ih1 | apply ih2 | apply calendar_Date.mono | apply calendar_Day.mono | apply cohousinglaw21_head.mono | apply points_Count.mono | apply LeO.refl | apply LeO.none | apply LeO.ite | refine LeO.bind ?_ (fun _ => ?_))
    · intro y0 y1 y2 y3 y4 y5 y6 y7 y8 y9 y10 y11 y12
      unfold cohousinglaw21_PointsWaiting.j1
      with_reducible (repeat' first | apply ih0 | apply ih1 | apply ih2 | apply calendar_Date.mono | apply calendar_Day.mono | apply cohousinglaw21_head.mono | apply points_Count.mono | apply LeO.refl | apply LeO.none | apply LeO.ite | refine LeO.bind ?_ (fun _ => ?_))
    · intro y0 y1 y2 y3 y4 y5 y6 y7 y8 y9 y10 y11 y12
      unfold cohousinglaw21_PointsWaiting.j2
      with_reducible (repeat' first | apply ih0 | apply ih1 | apply ih2 | apply calendar_Date.mono | apply calendar_Day.mono | apply cohousinglaw21_head.mono | apply points_Count.mono | apply LeO.refl | apply LeO.none | apply LeO.ite | refine LeO.bind ?_ (fun _ => ?_))
theorem cohousinglaw21_PointsWaiting.mono : ∀ a0 a1 a2 a3 a4 a5 a6 a7 a8 a9 a10 k, LeO (cohousinglaw21_PointsWaiting.f k a0 a1 a2 a3 a4 a5 a6 a7 a8 a9 a10) (cohousinglaw21_PointsWaiting.f (k + 1) a0 a1 a2 a3 a4 a5 a6 a7 a8 a9 a10) := by
  intro a0 a1 a2 a3 a4 a5 a6 a7 a8 a9 a10 k
  obtain ⟨ih0, ih1, ih2⟩ := cohousinglaw21_PointsWaiting.mono_l k
  unfold cohousinglaw21_PointsWaiting.f
  with_reducible (repeat' first | apply ih0 | apply ih1 | apply ih2 | apply calendar_Date.mono | apply calendar_Day.mono | apply cohousinglaw21_head.mono | apply points_Count.mono | apply LeO.refl | apply LeO.none | apply LeO.ite | refine LeO.bind ?_ (fun _ => ?_))
set_option maxHeartbeats 8000000 in
set_option maxRecDepth 100000 in
theorem cohousinglaw21_PointsWaiting.calls (k : Nat) (a0_0 a0_1 a0_2 a0_3 a1_0 a1_1 a1_2 a1_3 a1_4 a2 a3 : Int) (r : Bool) (w : World) (HT : TabOK w) (h : cohousinglaw21_PointsWaiting.f k a0_0 a0_1 a0_2 a0_3 a1_0 a1_1 a1_2 a1_3 a1_4 a2 a3 = some r) :
    Calls Tryd.prog 9 #[.agg #[.int .i64 a0_0, .int .i64 a0_1, .int .i64 a0_2, .int .i64 a0_3], .agg #[.int .i64 a1_0, .int .i64 a1_1, .int .i64 a1_2, .int .i64 a1_3, .int .i64 a1_4], .int .i64 a2, .int .i64 a3] w fun e w' => e = .returned (.bool r) ∧ Below w.heap.size w w' := by
  have hu23 := Tryd.underlying23
  have hu25 := Tryd.underlying25
  have HTA := Aside0.mk HT
  clear HT
  have HB := Aside0.mk (Below.refl w.heap.size w)
  have H : ((cohousinglaw21_head.f k).bind fun t426 => ((points_Count.f k a0_0 a0_1 a0_2 a0_3 a1_0 a1_1 a1_2 a1_3 a1_4 a2).bind fun bt427 => (if bt427.2 = 0 then (if a3 < a2 then (cohousinglaw21_PointsWaiting.j0 k a2 a3 t426 bt427.1 true a0_0 a0_1 a0_2 a0_3 a1_0 a1_1 a1_2 a1_3 a1_4) else (cohousinglaw21_PointsWaiting.j0 k a2 a3 t426 bt427.1 (decide (a3 > 36524)) a0_0 a0_1 a0_2 a0_3 a1_0 a1_1 a1_2 a1_3 a1_4)) else (cohousinglaw21_PointsWaiting.j0 k a2 a3 t426 bt427.1 true a0_0 a0_1 a0_2 a0_3 a1_0 a1_1 a1_2 a1_3 a1_4)))) = some r := h
  clear h
  replace H := Option.bind_eq_some_iff.mp H
  obtain ⟨t426, A50, H⟩ := H
  replace H : ((points_Count.f k a0_0 a0_1 a0_2 a0_3 a1_0 a1_1 a1_2 a1_3 a1_4 a2).bind fun bt427 => (if bt427.2 = 0 then (if a3 < a2 then (cohousinglaw21_PointsWaiting.j0 k a2 a3 t426 bt427.1 true a0_0 a0_1 a0_2 a0_3 a1_0 a1_1 a1_2 a1_3 a1_4) else (cohousinglaw21_PointsWaiting.j0 k a2 a3 t426 bt427.1 (decide (a3 > 36524)) a0_0 a0_1 a0_2 a0_3 a1_0 a1_1 a1_2 a1_3 a1_4)) else (cohousinglaw21_PointsWaiting.j0 k a2 a3 t426 bt427.1 true a0_0 a0_1 a0_2 a0_3 a1_0 a1_1 a1_2 a1_3 a1_4))) = some r := H
  have A5 := Aside0.mk A50
  clear A50
  replace H := Option.bind_eq_some_iff.mp H
  obtain ⟨⟨t427, t428⟩, A60, H⟩ := H
  replace H : (if t428 = 0 then (if a3 < a2 then (cohousinglaw21_PointsWaiting.j0 k a2 a3 t426 t427 true a0_0 a0_1 a0_2 a0_3 a1_0 a1_1 a1_2 a1_3 a1_4) else (cohousinglaw21_PointsWaiting.j0 k a2 a3 t426 t427 (decide (a3 > 36524)) a0_0 a0_1 a0_2 a0_3 a1_0 a1_1 a1_2 a1_3 a1_4)) else (cohousinglaw21_PointsWaiting.j0 k a2 a3 t426 t427 true a0_0 a0_1 a0_2 a0_3 a1_0 a1_1 a1_2 a1_3 a1_4)) = some r := H
  have A6 := Aside0.mk A60
  clear A60
  have HC7 := Aside0.mk H
  clear H
  go_enter Tryd.func9, Tryd.ntmps9
  go_upto_region 3 with (first | ((with_reducible refine gate_dst (N := 4) rfl ?_); refine qev_ 4 #[.int .i64 a0_0, .int .i64 a0_1, .int .i64 a0_2, .int .i64 a0_3] 23 ?_; intro gb424 hg w8 hbox hb; have BK424 := Aside0.mk (hbox); have GW424 := qga_ hg; have GE424 := qga_ hg; replace HB := qbs_ hb; clear hb hbox hg) | ((with_reducible refine gate_dst (N := 5) rfl ?_); refine qev_ 5 #[.int .i64 a1_0, .int .i64 a1_1, .int .i64 a1_2, .int .i64 a1_3, .int .i64 a1_4] 25 ?_; intro gb425 hg w9 hbox hb; have BK425 := Aside0.mk (hbox); have GW425 := qga_ hg; have GE425 := qga_ hg; replace HB := qbs_ hb; have NB424_425 := Aside0.mk ((by rw [hg]; exact Nat.ne_of_lt (blk_lt (qk_ BK424)) : gb424 ≠ gb425)); have NB425_424 := Aside0.mk ((by rw [hg]; exact Nat.ne_of_gt (blk_lt (qk_ BK424)) : gb425 ≠ gb424)); replace BK424 := qkb_ BK424 hb; clear hb hbox hg) | ((with_reducible refine gate_callee (f := 10) rfl ?_); refine goesL_ (some 22) rfl rfl Tryd.func10 (by kernel_rfl) rfl #[] rfl ql_ ?_; (with_reducible refine (cohousinglaw21_head.calls k  t426 _ ?side1 A5.out).mono ?_); (case side1 => exact TabOK.below HTA.out qb_); rintro e w10 ⟨rfl, hb⟩; refine ⟨_, rfl, ?_⟩; replace BK424 := qkb_ BK424 hb; replace BK425 := qkb_ BK425 hb; replace HB := qbs_ hb; (try clear hb); (try clear hb2); (try clear hk); (try clear hi); have hnb11 := NB424_425.out; have hnc11 := NB425_424.out; obtain ⟨hcz12_0, hcz12_1, hcz12_2, hcz12_3⟩ := qz4_ BK424; obtain ⟨hfz12_0, hfz12_1, hfz12_2, hfz12_3⟩ := qf4_ BK424; obtain ⟨hcz13_0, hcz13_1, hcz13_2, hcz13_3, hcz13_4⟩ := qz5_ BK425; obtain ⟨hfz13_0, hfz13_1, hfz13_2, hfz13_3, hfz13_4⟩ := qf5_ BK425) | ((with_reducible refine gate_callee (f := 11) rfl ?_); refine goesL_ (some 27) rfl rfl Tryd.func11 (by kernel_rfl) rfl #[.agg #[.int .i64 a0_0, .int .i64 a0_1, .int .i64 a0_2, .int .i64 a0_3], .agg #[.int .i64 a1_0, .int .i64 a1_1, .int .i64 a1_2, .int .i64 a1_3, .int .i64 a1_4], .int .i64 a2] rfl ql_ ?_; (with_reducible refine (points_Count.calls k a0_0 a0_1 a0_2 a0_3 a1_0 a1_1 a1_2 a1_3 a1_4 a2 t427 t428 _ ?side1 A6.out).mono ?_); (case side1 => exact TabOK.below HTA.out qb_); rintro e w14 ⟨rfl, hb⟩; refine ⟨_, rfl, ?_⟩; replace BK424 := qkb_ BK424 hb; replace BK425 := qkb_ BK425 hb; replace HB := qbs_ hb; (try clear hb); (try clear hb2); (try clear hk); (try clear hi)))
  (try simp only [Act.put, List.setIfInBounds_toArray, List.set_cons_zero, List.set_cons_succ])
  go_cut [40] (fun v40 wc => ∃ (kq : Nat) (x40_6 : Bool), v40 = .bool x40_6 ∧ Aside0 (cohousinglaw21_PointsWaiting.j0 kq a2 a3 t426 t427 x40_6 a0_0 a0_1 a0_2 a0_3 a1_0 a1_1 a1_2 a1_3 a1_4 = some r) ∧ Aside0 (kq ≤ k) ∧ Aside0 (wc.heap[gb424]? = some (.cells #[.int .i64 a0_0, .int .i64 a0_1, .int .i64 a0_2, .int .i64 a0_3] 23 (0, 0))) ∧ Aside0 (wc.heap[gb425]? = some (.cells #[.int .i64 a1_0, .int .i64 a1_1, .int .i64 a1_2, .int .i64 a1_3, .int .i64 a1_4] 25 (0, 0))) ∧ Aside0 (Below w.heap.size w wc))
  case first =>
    have H := HC7.out
    clear HC7
    by_cases c15 : t428 = 0
    · rw [if_pos c15] at H
      have c15b0 : (t428 == 0) = true := beq_iff_eq.mpr c15
      have c15b1 : (t428 != 0) = false := bne_eq_false_iff_eq.mpr c15
      clear c15
      (first | rw [c15b0] | (simp only [i64_w, i32_w]; rw [c15b0]) | skip)
      by_cases c16 : a3 < a2
      · rw [if_pos c16] at H
        have c16b0 : decide (a3 < a2) = true := decide_eq_true c16
        clear c16
        have H' := Aside0.mk H
        clear H
        go_wp2
        go_meet
        case rel => exact ⟨_, (true), qs_, H', ⟨qo_⟩, ⟨qk_ BK424⟩, ⟨qk_ BK425⟩, ⟨qb_⟩⟩
      · rw [if_neg c16] at H
        have c16b0 : decide (a3 < a2) = false := decide_eq_false c16
        clear c16
        have H' := Aside0.mk H
        clear H
        go_wp2
        go_meet
        case rel => exact ⟨_, (decide (a3 > 36524)), qs_, H', ⟨qo_⟩, ⟨qk_ BK424⟩, ⟨qk_ BK425⟩, ⟨qb_⟩⟩
    · rw [if_neg c15] at H
      have c15b0 : (t428 == 0) = false := beq_eq_false_iff_ne.mpr c15
      have c15b1 : (t428 != 0) = true := bne_iff_ne.mpr c15
      (first | rw [c15b0] | (simp only [i64_w, i32_w]; rw [c15b0]) | skip)
      have H' := Aside0.mk H
      clear H
      go_wp2
      go_meet
      case rel => exact ⟨_, (true), qs_, H', ⟨qo_⟩, ⟨qk_ BK424⟩, ⟨qk_ BK425⟩, ⟨qb_⟩⟩
  case rest =>
    clear HC7
    try clear c1
    try clear p2
    try clear c9
    try clear c10
    try clear c11
    try clear c15
    try clear c15b0
    try clear c15b1
    try clear c16
    try clear c16b0
    try clear hcz12_0 hcz12_1 hcz12_2 hcz12_3
    try clear hcz13_0 hcz13_1 hcz13_2 hcz13_3 hcz13_4
    try clear hfz12_0 hfz12_1 hfz12_2 hfz12_3
    try clear hfz13_0 hfz13_1 hfz13_2 hfz13_3 hfz13_4
    obtain ⟨kq, x40_6, rfl, HA, HJ6, BK424, BK425, HB⟩ := hcut
    cases kq with
    | zero => exact absurd HA.out (by simp [cohousinglaw21_PointsWaiting.j0])
    | succ kj6 =>
      have H := HA.out
      clear HA
      simp only [cohousinglaw21_PointsWaiting.j0] at H
      by_cases c17 : x40_6 = true
      · subst c17
        have H1 : (some t426) = some r := by rw [if_pos rfl] at H; exact H
        clear H
        have H := H1
        clear H1
        obtain rfl := Option.some.inj H
        go_wp2
        go_ret
        exact ⟨qx_, qb_⟩
      · replace c17 := Bool.eq_false_iff.mpr c17
        subst c17
        have H1 : ((points_Count.f kj6 a0_0 a0_1 a0_2 a0_3 a1_0 a1_1 a1_2 a1_3 a1_4 a3).bind fun bt429 => (if bt429.2 = 0 then (cohousinglaw21_PointsWaiting.j1 kj6 a2 t426 t427 (decide (bt429.1 < t427)) a0_0 a0_1 a0_2 a0_3 a1_0 a1_1 a1_2 a1_3 a1_4) else (if bt429.2 = 3 then (cohousinglaw21_PointsWaiting.j1 kj6 a2 t426 t427 false a0_0 a0_1 a0_2 a0_3 a1_0 a1_1 a1_2 a1_3 a1_4) else (cohousinglaw21_PointsWaiting.j1 kj6 a2 t426 t427 true a0_0 a0_1 a0_2 a0_3 a1_0 a1_1 a1_2 a1_3 a1_4)))) = some r := by rw [if_neg (show ¬ (false = true) by decide)] at H; exact H
        clear H
        have H := H1
        clear H1
        replace H := Option.bind_eq_some_iff.mp H
        obtain ⟨⟨t429, t430⟩, A180, H⟩ := H
        replace H : (if t430 = 0 then (cohousinglaw21_PointsWaiting.j1 kj6 a2 t426 t427 (decide (t429 < t427)) a0_0 a0_1 a0_2 a0_3 a1_0 a1_1 a1_2 a1_3 a1_4) else (if t430 = 3 then (cohousinglaw21_PointsWaiting.j1 kj6 a2 t426 t427 false a0_0 a0_1 a0_2 a0_3 a1_0 a1_1 a1_2 a1_3 a1_4) else (cohousinglaw21_PointsWaiting.j1 kj6 a2 t426 t427 true a0_0 a0_1 a0_2 a0_3 a1_0 a1_1 a1_2 a1_3 a1_4))) = some r := H
        have A18 := Aside0.mk A180
        clear A180
        have HC19 := Aside0.mk H
        clear H
        have hnb20 := NB424_425.out
        have hnc20 := NB425_424.out
        obtain ⟨hcz21_0, hcz21_1, hcz21_2, hcz21_3⟩ := qz4_ BK424; obtain ⟨hfz21_0, hfz21_1, hfz21_2, hfz21_3⟩ := qf4_ BK424
        obtain ⟨hcz22_0, hcz22_1, hcz22_2, hcz22_3, hcz22_4⟩ := qz5_ BK425; obtain ⟨hfz22_0, hfz22_1, hfz22_2, hfz22_3, hfz22_4⟩ := qf5_ BK425
        go_upto_region 6 with (first | ((with_reducible refine gate_callee (f := 11) rfl ?_); refine goesL_ (some 46) rfl rfl Tryd.func11 (by kernel_rfl) rfl #[.agg #[.int .i64 a0_0, .int .i64 a0_1, .int .i64 a0_2, .int .i64 a0_3], .agg #[.int .i64 a1_0, .int .i64 a1_1, .int .i64 a1_2, .int .i64 a1_3, .int .i64 a1_4], .int .i64 a3] rfl ql_ ?_; (with_reducible refine (points_Count.calls kj6 a0_0 a0_1 a0_2 a0_3 a1_0 a1_1 a1_2 a1_3 a1_4 a3 t429 t430 _ ?side1 A18.out).mono ?_); (case side1 => exact TabOK.below HTA.out qb_); rintro e w23 ⟨rfl, hb⟩; refine ⟨_, rfl, ?_⟩; replace BK424 := qkb_ BK424 hb; replace BK425 := qkb_ BK425 hb; replace HB := qbs_ hb; (try clear hb); (try clear hb2); (try clear hk); (try clear hi)))
        (try simp only [Act.put, List.setIfInBounds_toArray, List.set_cons_zero, List.set_cons_succ])
        go_cut [63] (fun v63 wc => ∃ (kq : Nat) (x63_18 : Bool), v63 = .bool x63_18 ∧ Aside0 (cohousinglaw21_PointsWaiting.j1 kq a2 t426 t427 x63_18 a0_0 a0_1 a0_2 a0_3 a1_0 a1_1 a1_2 a1_3 a1_4 = some r) ∧ Aside0 (kq ≤ kj6) ∧ Aside0 (wc.heap[gb424]? = some (.cells #[.int .i64 a0_0, .int .i64 a0_1, .int .i64 a0_2, .int .i64 a0_3] 23 (0, 0))) ∧ Aside0 (wc.heap[gb425]? = some (.cells #[.int .i64 a1_0, .int .i64 a1_1, .int .i64 a1_2, .int .i64 a1_3, .int .i64 a1_4] 25 (0, 0))) ∧ Aside0 (Below w.heap.size w wc))
        case first =>
          have H := HC19.out
          clear HC19
          by_cases c24 : t430 = 0
          · rw [if_pos c24] at H
            have c24b0 : (t430 == 0) = true := beq_iff_eq.mpr c24
            have c24b1 : (t430 != 0) = false := bne_eq_false_iff_eq.mpr c24
            clear c24
            (first | rw [c24b0] | (simp only [i64_w, i32_w]; rw [c24b0]) | skip)
            have H' := Aside0.mk H
            clear H
            go_wp2
            go_meet
            case rel => exact ⟨_, (decide (t429 < t427)), qs_, H', ⟨by have := HJ6.out; first | omega | exact Nat.le_refl _⟩, ⟨qk_ BK424⟩, ⟨qk_ BK425⟩, ⟨qb_⟩⟩
          · rw [if_neg c24] at H
            have c24b0 : (t430 == 0) = false := beq_eq_false_iff_ne.mpr c24
            have c24b1 : (t430 != 0) = true := bne_iff_ne.mpr c24
            (first | rw [c24b0] | (simp only [i64_w, i32_w]; rw [c24b0]) | skip)
            by_cases c25 : t430 = 3
            · rw [if_pos c25] at H
              have c25b0 : (t430 == 3) = true := beq_iff_eq.mpr c25
              have c25b1 : (t430 != 3) = false := bne_eq_false_iff_eq.mpr c25
              clear c25
              have H' := Aside0.mk H
              clear H
              go_wp2
              go_meet
              case rel => exact ⟨_, (false), qs_, H', ⟨by have := HJ6.out; first | omega | exact Nat.le_refl _⟩, ⟨qk_ BK424⟩, ⟨qk_ BK425⟩, ⟨qb_⟩⟩
            · rw [if_neg c25] at H
              have c25b0 : (t430 == 3) = false := beq_eq_false_iff_ne.mpr c25
              have c25b1 : (t430 != 3) = true := bne_iff_ne.mpr c25
              have H' := Aside0.mk H
              clear H
              go_wp2
              go_meet
              case rel => exact ⟨_, (true), qs_, H', ⟨by have := HJ6.out; first | omega | exact Nat.le_refl _⟩, ⟨qk_ BK424⟩, ⟨qk_ BK425⟩, ⟨qb_⟩⟩
        case rest =>
          clear HC19
          try clear c1
          try clear c2
          try clear p2
          try clear c9
          try clear c10
          try clear c11
          try clear c15
          try clear c15b0
          try clear c15b1
          try clear c16
          try clear c16b0
          try clear c17
          try clear c20
          try clear c24
          try clear c24b0
          try clear c24b1
          try clear c25
          try clear c25b0
          try clear c25b1
          try clear hcz12_0 hcz12_1 hcz12_2 hcz12_3
          try clear hcz13_0 hcz13_1 hcz13_2 hcz13_3 hcz13_4
          try clear hcz21_0 hcz21_1 hcz21_2 hcz21_3
          try clear hcz22_0 hcz22_1 hcz22_2 hcz22_3 hcz22_4
          try clear hfz12_0 hfz12_1 hfz12_2 hfz12_3
          try clear hfz13_0 hfz13_1 hfz13_2 hfz13_3 hfz13_4
          try clear hfz21_0 hfz21_1 hfz21_2 hfz21_3
          try clear hfz22_0 hfz22_1 hfz22_2 hfz22_3 hfz22_4
          try clear p2
          obtain ⟨kq, x63_18, rfl, HA, HJ18, BK424, BK425, HB⟩ := hcut
          cases kq with
          | zero => exact absurd HA.out (by simp [cohousinglaw21_PointsWaiting.j1])
          | succ kj18 =>
            have H := HA.out
            clear HA
            simp only [cohousinglaw21_PointsWaiting.j1] at H
            by_cases c26 : x63_18 = true
            · subst c26
              have H1 : (some false) = some r := by rw [if_pos rfl] at H; exact H
              clear H
              have H := H1
              clear H1
              obtain rfl := Option.some.inj H
              go_wp2
              go_ret
              exact ⟨qx_, qb_⟩
            · replace c26 := Bool.eq_false_iff.mpr c26
              subst c26
              have H1 : ((calendar_Date.f kj18 a2).bind fun bt431 => (if bt431.2.2.2 = 0 then ((calendar_Day.f kj18 (wrap64 (bt431.1 + (wrap64 (Int.tdiv bt431.2.1 12)))) (wrap64 ((Int.tmod bt431.2.1 12) + 1)) bt431.2.2.1).bind fun bt435 => (if bt435.2 = 0 then (cohousinglaw21_PointsWaiting.j2 kj18 t426 t427 bt435.1 (decide (bt431.2.2.1 > 28)) a0_0 a0_1 a0_2 a0_3 a1_0 a1_1 a1_2 a1_3 a1_4) else (cohousinglaw21_PointsWaiting.j2 kj18 t426 t427 bt435.1 true a0_0 a0_1 a0_2 a0_3 a1_0 a1_1 a1_2 a1_3 a1_4))) else (some false))) = some r := by rw [if_neg (show ¬ (false = true) by decide)] at H; exact H
              clear H
              have H := H1
              clear H1
              replace H := Option.bind_eq_some_iff.mp H
              obtain ⟨⟨t431, t432, t433, t434⟩, A270, H⟩ := H
              replace H : (if t434 = 0 then ((calendar_Day.f kj18 (wrap64 (t431 + (wrap64 (Int.tdiv t432 12)))) (wrap64 ((Int.tmod t432 12) + 1)) t433).bind fun bt435 => (if bt435.2 = 0 then (cohousinglaw21_PointsWaiting.j2 kj18 t426 t427 bt435.1 (decide (t433 > 28)) a0_0 a0_1 a0_2 a0_3 a1_0 a1_1 a1_2 a1_3 a1_4) else (cohousinglaw21_PointsWaiting.j2 kj18 t426 t427 bt435.1 true a0_0 a0_1 a0_2 a0_3 a1_0 a1_1 a1_2 a1_3 a1_4))) else (some false)) = some r := H
              have A27 := Aside0.mk A270
              clear A270
              by_cases c28 : t434 = 0
              · rw [if_pos c28] at H
                have c28b0 : (t434 == 0) = true := beq_iff_eq.mpr c28
                have c28b1 : (t434 != 0) = false := bne_eq_false_iff_eq.mpr c28
                clear c28
                replace H := Option.bind_eq_some_iff.mp H
                obtain ⟨⟨t435, t436⟩, A290, H⟩ := H
                replace H : (if t436 = 0 then (cohousinglaw21_PointsWaiting.j2 kj18 t426 t427 t435 (decide (t433 > 28)) a0_0 a0_1 a0_2 a0_3 a1_0 a1_1 a1_2 a1_3 a1_4) else (cohousinglaw21_PointsWaiting.j2 kj18 t426 t427 t435 true a0_0 a0_1 a0_2 a0_3 a1_0 a1_1 a1_2 a1_3 a1_4)) = some r := H
                have A29 := Aside0.mk A290
                clear A290
                have HC30 := Aside0.mk H
                clear H
                go_upto_region 12 with (first | ((with_reducible refine gate_callee (f := 20) rfl ?_); refine goesL_ (some 66) rfl rfl Tryd.func20 (by kernel_rfl) rfl #[.int .i64 a2] rfl ql_ ?_; (with_reducible refine (calendar_Date.calls kj18 a2 t431 t432 t433 t434 _ ?side1 A27.out).mono ?_); (case side1 => exact TabOK.below HTA.out qb_); rintro e w' ⟨rfl, ⟨nd, rfl⟩⟩; refine ⟨_, rfl, ?_⟩) | ((with_reducible refine gate_callee (f := 21) rfl ?_); refine goesL_ (some 82) rfl rfl Tryd.func21 (by kernel_rfl) rfl #[.int .i64 (wrap64 (t431 + (wrap64 (Int.tdiv t432 12)))), .int .i64 (wrap64 ((Int.tmod t432 12) + 1)), .int .i64 t433] rfl ql_ ?_; (with_reducible refine (calendar_Day.calls kj18 (wrap64 (t431 + (wrap64 (Int.tdiv t432 12)))) (wrap64 ((Int.tmod t432 12) + 1)) t433 t435 t436 _ ?side1 A29.out).mono ?_); (case side1 => exact TabOK.below HTA.out qb_); rintro e w' ⟨rfl, ⟨nd, rfl⟩⟩; refine ⟨_, rfl, ?_⟩))
                (try simp only [Act.put, List.setIfInBounds_toArray, List.set_cons_zero, List.set_cons_succ])
                go_cut [90] (fun v90 wc => ∃ (kq : Nat) (x90_29 : Bool), v90 = .bool x90_29 ∧ Aside0 (cohousinglaw21_PointsWaiting.j2 kq t426 t427 t435 x90_29 a0_0 a0_1 a0_2 a0_3 a1_0 a1_1 a1_2 a1_3 a1_4 = some r) ∧ Aside0 (kq ≤ kj18) ∧ Aside0 (wc.heap[gb424]? = some (.cells #[.int .i64 a0_0, .int .i64 a0_1, .int .i64 a0_2, .int .i64 a0_3] 23 (0, 0))) ∧ Aside0 (wc.heap[gb425]? = some (.cells #[.int .i64 a1_0, .int .i64 a1_1, .int .i64 a1_2, .int .i64 a1_3, .int .i64 a1_4] 25 (0, 0))) ∧ Aside0 (Below w.heap.size w wc))
                case first =>
                  have H := HC30.out
                  clear HC30
                  by_cases c31 : t436 = 0
                  · rw [if_pos c31] at H
                    have c31b0 : (t436 == 0) = true := beq_iff_eq.mpr c31
                    have c31b1 : (t436 != 0) = false := bne_eq_false_iff_eq.mpr c31
                    clear c31
                    (first | rw [c31b0] | (simp only [i64_w, i32_w]; rw [c31b0]) | skip)
                    have H' := Aside0.mk H
                    clear H
                    go_wp2
                    go_meet
                    case rel => exact ⟨_, (decide (t433 > 28)), qs_, H', ⟨by have := HJ6.out; have := HJ18.out; first | omega | exact Nat.le_refl _⟩, ⟨qk_ BK424⟩, ⟨qk_ BK425⟩, ⟨qb_⟩⟩
                  · rw [if_neg c31] at H
                    have c31b0 : (t436 == 0) = false := beq_eq_false_iff_ne.mpr c31
                    have c31b1 : (t436 != 0) = true := bne_iff_ne.mpr c31
                    (first | rw [c31b0] | (simp only [i64_w, i32_w]; rw [c31b0]) | skip)
                    have H' := Aside0.mk H
                    clear H
                    go_wp2
                    go_meet
                    case rel => exact ⟨_, (true), qs_, H', ⟨by have := HJ6.out; have := HJ18.out; first | omega | exact Nat.le_refl _⟩, ⟨qk_ BK424⟩, ⟨qk_ BK425⟩, ⟨qb_⟩⟩
                case rest =>
                  clear HC30
                  try clear c1
                  try clear c2
                  try clear p2
                  try clear c3
                  try clear p6
                  try clear c9
                  try clear c10
                  try clear c11
                  try clear c15
                  try clear c15b0
                  try clear c15b1
                  try clear c16
                  try clear c16b0
                  try clear c17
                  try clear c20
                  try clear c21
                  try clear c24
                  try clear c24b0
                  try clear c24b1
                  try clear c25
                  try clear c25b0
                  try clear c25b1
                  try clear c26
                  try clear c28
                  try clear c28b0
                  try clear c28b1
                  try clear c31
                  try clear c31b0
                  try clear c31b1
                  try clear hcz12_0 hcz12_1 hcz12_2 hcz12_3
                  try clear hcz13_0 hcz13_1 hcz13_2 hcz13_3 hcz13_4
                  try clear hcz21_0 hcz21_1 hcz21_2 hcz21_3
                  try clear hcz22_0 hcz22_1 hcz22_2 hcz22_3 hcz22_4
                  try clear hfz12_0 hfz12_1 hfz12_2 hfz12_3
                  try clear hfz13_0 hfz13_1 hfz13_2 hfz13_3 hfz13_4
                  try clear hfz21_0 hfz21_1 hfz21_2 hfz21_3
                  try clear hfz22_0 hfz22_1 hfz22_2 hfz22_3 hfz22_4
                  try clear p2
                  obtain ⟨kq, x90_29, rfl, HA, HJ29, BK424, BK425, HB⟩ := hcut
                  cases kq with
                  | zero => exact absurd HA.out (by simp [cohousinglaw21_PointsWaiting.j2])
                  | succ kj29 =>
                    have H := HA.out
                    clear HA
                    simp only [cohousinglaw21_PointsWaiting.j2] at H
                    by_cases c32 : x90_29 = true
                    · subst c32
                      have H1 : (some t426) = some r := by rw [if_pos rfl] at H; exact H
                      clear H
                      have H := H1
                      clear H1
                      obtain rfl := Option.some.inj H
                      go_wp2
                      go_ret
                      exact ⟨qx_, qb_⟩
                    · replace c32 := Bool.eq_false_iff.mpr c32
                      subst c32
                      have H1 : ((points_Count.f kj29 a0_0 a0_1 a0_2 a0_3 a1_0 a1_1 a1_2 a1_3 a1_4 t435).bind fun bt437 => (if (wrap64 (t427 + a0_0)) > 1000000000 then (if t426 = true then (some (bt437.2 == 3)) else (some false)) else (if t426 = true then (if bt437.2 = 0 then (some (bt437.1 == (wrap64 (t427 + a0_0)))) else (some false)) else (some false)))) = some r := by rw [if_neg (show ¬ (false = true) by decide)] at H; exact H
                      clear H
                      have H := H1
                      clear H1
                      replace H := Option.bind_eq_some_iff.mp H
                      obtain ⟨⟨t437, t438⟩, A330, H⟩ := H
                      replace H : (if (wrap64 (t427 + a0_0)) > 1000000000 then (if t426 = true then (some (t438 == 3)) else (some false)) else (if t426 = true then (if t438 = 0 then (some (t437 == (wrap64 (t427 + a0_0)))) else (some false)) else (some false))) = some r := H
                      have A33 := Aside0.mk A330
                      clear A330
                      by_cases c34 : (wrap64 (t427 + a0_0)) > 1000000000
                      · rw [if_pos c34] at H
                        have c34b0 : decide (1000000000 < (wrap64 (t427 + a0_0))) = true := decide_eq_true c34
                        clear c34
                        by_cases c35 : t426 = true
                        · subst c35
                          have H1 : (some (t438 == 3)) = some r := by rw [if_pos rfl] at H; exact H
                          clear H
                          have H := H1
                          clear H1
                          obtain rfl := Option.some.inj H
                          have hnb36 := NB424_425.out
                          have hnc36 := NB425_424.out
                          obtain ⟨hcz37_0, hcz37_1, hcz37_2, hcz37_3⟩ := qz4_ BK424; obtain ⟨hfz37_0, hfz37_1, hfz37_2, hfz37_3⟩ := qf4_ BK424
                          obtain ⟨hcz38_0, hcz38_1, hcz38_2, hcz38_3, hcz38_4⟩ := qz5_ BK425; obtain ⟨hfz38_0, hfz38_1, hfz38_2, hfz38_3, hfz38_4⟩ := qf5_ BK425
                          go_wp2_with (first | ((with_reducible refine gate_callee (f := 11) rfl ?_); refine goesL_ (some 96) rfl rfl Tryd.func11 (by kernel_rfl) rfl #[.agg #[.int .i64 a0_0, .int .i64 a0_1, .int .i64 a0_2, .int .i64 a0_3], .agg #[.int .i64 a1_0, .int .i64 a1_1, .int .i64 a1_2, .int .i64 a1_3, .int .i64 a1_4], .int .i64 t435] rfl ql_ ?_; (with_reducible refine (points_Count.calls kj29 a0_0 a0_1 a0_2 a0_3 a1_0 a1_1 a1_2 a1_3 a1_4 t435 t437 t438 _ ?side1 A33.out).mono ?_); (case side1 => exact TabOK.below HTA.out qb_); rintro e w39 ⟨rfl, hb⟩; refine ⟨_, rfl, ?_⟩; replace BK424 := qkb_ BK424 hb; replace BK425 := qkb_ BK425 hb; replace HB := qbs_ hb; (try clear hb); (try clear hb2); (try clear hk); (try clear hi); obtain ⟨hcz40_0, hcz40_1, hcz40_2, hcz40_3⟩ := qz4_ BK424; obtain ⟨hfz40_0, hfz40_1, hfz40_2, hfz40_3⟩ := qf4_ BK424))
                          go_ret
                          exact ⟨qx_, qb_⟩
                        · replace c35 := Bool.eq_false_iff.mpr c35
                          subst c35
                          have H1 : (some false) = some r := by rw [if_neg (show ¬ (false = true) by decide)] at H; exact H
                          clear H
                          have H := H1
                          clear H1
                          obtain rfl := Option.some.inj H
                          have hnb41 := NB424_425.out
                          have hnc41 := NB425_424.out
                          obtain ⟨hcz42_0, hcz42_1, hcz42_2, hcz42_3⟩ := qz4_ BK424; obtain ⟨hfz42_0, hfz42_1, hfz42_2, hfz42_3⟩ := qf4_ BK424
                          obtain ⟨hcz43_0, hcz43_1, hcz43_2, hcz43_3, hcz43_4⟩ := qz5_ BK425; obtain ⟨hfz43_0, hfz43_1, hfz43_2, hfz43_3, hfz43_4⟩ := qf5_ BK425
                          go_wp2_with (first | ((with_reducible refine gate_callee (f := 11) rfl ?_); refine goesL_ (some 96) rfl rfl Tryd.func11 (by kernel_rfl) rfl #[.agg #[.int .i64 a0_0, .int .i64 a0_1, .int .i64 a0_2, .int .i64 a0_3], .agg #[.int .i64 a1_0, .int .i64 a1_1, .int .i64 a1_2, .int .i64 a1_3, .int .i64 a1_4], .int .i64 t435] rfl ql_ ?_; (with_reducible refine (points_Count.calls kj29 a0_0 a0_1 a0_2 a0_3 a1_0 a1_1 a1_2 a1_3 a1_4 t435 t437 t438 _ ?side1 A33.out).mono ?_); (case side1 => exact TabOK.below HTA.out qb_); rintro e w44 ⟨rfl, hb⟩; refine ⟨_, rfl, ?_⟩; replace BK424 := qkb_ BK424 hb; replace BK425 := qkb_ BK425 hb; replace HB := qbs_ hb; (try clear hb); (try clear hb2); (try clear hk); (try clear hi); obtain ⟨hcz45_0, hcz45_1, hcz45_2, hcz45_3⟩ := qz4_ BK424; obtain ⟨hfz45_0, hfz45_1, hfz45_2, hfz45_3⟩ := qf4_ BK424))
                          go_ret
                          exact ⟨qx_, qb_⟩
                      · rw [if_neg c34] at H
                        have c34b0 : decide (1000000000 < (wrap64 (t427 + a0_0))) = false := decide_eq_false c34
                        clear c34
                        by_cases c46 : t426 = true
                        · subst c46
                          have H1 : (if t438 = 0 then (some (t437 == (wrap64 (t427 + a0_0)))) else (some false)) = some r := by rw [if_pos rfl] at H; exact H
                          clear H
                          have H := H1
                          clear H1
                          by_cases c47 : t438 = 0
                          · rw [if_pos c47] at H
                            have c47b0 : (t438 == 0) = true := beq_iff_eq.mpr c47
                            have c47b1 : (t438 != 0) = false := bne_eq_false_iff_eq.mpr c47
                            clear c47
                            obtain rfl := Option.some.inj H
                            have hnb48 := NB424_425.out
                            have hnc48 := NB425_424.out
                            obtain ⟨hcz49_0, hcz49_1, hcz49_2, hcz49_3⟩ := qz4_ BK424; obtain ⟨hfz49_0, hfz49_1, hfz49_2, hfz49_3⟩ := qf4_ BK424
                            obtain ⟨hcz50_0, hcz50_1, hcz50_2, hcz50_3, hcz50_4⟩ := qz5_ BK425; obtain ⟨hfz50_0, hfz50_1, hfz50_2, hfz50_3, hfz50_4⟩ := qf5_ BK425
                            go_wp2_with (first | ((with_reducible refine gate_callee (f := 11) rfl ?_); refine goesL_ (some 96) rfl rfl Tryd.func11 (by kernel_rfl) rfl #[.agg #[.int .i64 a0_0, .int .i64 a0_1, .int .i64 a0_2, .int .i64 a0_3], .agg #[.int .i64 a1_0, .int .i64 a1_1, .int .i64 a1_2, .int .i64 a1_3, .int .i64 a1_4], .int .i64 t435] rfl ql_ ?_; (with_reducible refine (points_Count.calls kj29 a0_0 a0_1 a0_2 a0_3 a1_0 a1_1 a1_2 a1_3 a1_4 t435 t437 t438 _ ?side1 A33.out).mono ?_); (case side1 => exact TabOK.below HTA.out qb_); rintro e w51 ⟨rfl, hb⟩; refine ⟨_, rfl, ?_⟩; replace BK424 := qkb_ BK424 hb; replace BK425 := qkb_ BK425 hb; replace HB := qbs_ hb; (try clear hb); (try clear hb2); (try clear hk); (try clear hi); obtain ⟨hcz52_0, hcz52_1, hcz52_2, hcz52_3⟩ := qz4_ BK424; obtain ⟨hfz52_0, hfz52_1, hfz52_2, hfz52_3⟩ := qf4_ BK424))
                            go_ret
                            exact ⟨qx_, qb_⟩
                          · rw [if_neg c47] at H
                            have c47b0 : (t438 == 0) = false := beq_eq_false_iff_ne.mpr c47
                            have c47b1 : (t438 != 0) = true := bne_iff_ne.mpr c47
                            obtain rfl := Option.some.inj H
                            have hnb53 := NB424_425.out
                            have hnc53 := NB425_424.out
                            obtain ⟨hcz54_0, hcz54_1, hcz54_2, hcz54_3⟩ := qz4_ BK424; obtain ⟨hfz54_0, hfz54_1, hfz54_2, hfz54_3⟩ := qf4_ BK424
                            obtain ⟨hcz55_0, hcz55_1, hcz55_2, hcz55_3, hcz55_4⟩ := qz5_ BK425; obtain ⟨hfz55_0, hfz55_1, hfz55_2, hfz55_3, hfz55_4⟩ := qf5_ BK425
                            go_wp2_with (first | ((with_reducible refine gate_callee (f := 11) rfl ?_); refine goesL_ (some 96) rfl rfl Tryd.func11 (by kernel_rfl) rfl #[.agg #[.int .i64 a0_0, .int .i64 a0_1, .int .i64 a0_2, .int .i64 a0_3], .agg #[.int .i64 a1_0, .int .i64 a1_1, .int .i64 a1_2, .int .i64 a1_3, .int .i64 a1_4], .int .i64 t435] rfl ql_ ?_; (with_reducible refine (points_Count.calls kj29 a0_0 a0_1 a0_2 a0_3 a1_0 a1_1 a1_2 a1_3 a1_4 t435 t437 t438 _ ?side1 A33.out).mono ?_); (case side1 => exact TabOK.below HTA.out qb_); rintro e w56 ⟨rfl, hb⟩; refine ⟨_, rfl, ?_⟩; replace BK424 := qkb_ BK424 hb; replace BK425 := qkb_ BK425 hb; replace HB := qbs_ hb; (try clear hb); (try clear hb2); (try clear hk); (try clear hi); obtain ⟨hcz57_0, hcz57_1, hcz57_2, hcz57_3⟩ := qz4_ BK424; obtain ⟨hfz57_0, hfz57_1, hfz57_2, hfz57_3⟩ := qf4_ BK424))
                            go_ret
                            exact ⟨qx_, qb_⟩
                        · replace c46 := Bool.eq_false_iff.mpr c46
                          subst c46
                          have H1 : (some false) = some r := by rw [if_neg (show ¬ (false = true) by decide)] at H; exact H
                          clear H
                          have H := H1
                          clear H1
                          obtain rfl := Option.some.inj H
                          have hnb58 := NB424_425.out
                          have hnc58 := NB425_424.out
                          obtain ⟨hcz59_0, hcz59_1, hcz59_2, hcz59_3⟩ := qz4_ BK424; obtain ⟨hfz59_0, hfz59_1, hfz59_2, hfz59_3⟩ := qf4_ BK424
                          obtain ⟨hcz60_0, hcz60_1, hcz60_2, hcz60_3, hcz60_4⟩ := qz5_ BK425; obtain ⟨hfz60_0, hfz60_1, hfz60_2, hfz60_3, hfz60_4⟩ := qf5_ BK425
                          go_wp2_with (first | ((with_reducible refine gate_callee (f := 11) rfl ?_); refine goesL_ (some 96) rfl rfl Tryd.func11 (by kernel_rfl) rfl #[.agg #[.int .i64 a0_0, .int .i64 a0_1, .int .i64 a0_2, .int .i64 a0_3], .agg #[.int .i64 a1_0, .int .i64 a1_1, .int .i64 a1_2, .int .i64 a1_3, .int .i64 a1_4], .int .i64 t435] rfl ql_ ?_; (with_reducible refine (points_Count.calls kj29 a0_0 a0_1 a0_2 a0_3 a1_0 a1_1 a1_2 a1_3 a1_4 t435 t437 t438 _ ?side1 A33.out).mono ?_); (case side1 => exact TabOK.below HTA.out qb_); rintro e w61 ⟨rfl, hb⟩; refine ⟨_, rfl, ?_⟩; replace BK424 := qkb_ BK424 hb; replace BK425 := qkb_ BK425 hb; replace HB := qbs_ hb; (try clear hb); (try clear hb2); (try clear hk); (try clear hi); obtain ⟨hcz62_0, hcz62_1, hcz62_2, hcz62_3⟩ := qz4_ BK424; obtain ⟨hfz62_0, hfz62_1, hfz62_2, hfz62_3⟩ := qf4_ BK424))
                          go_ret
                          exact ⟨qx_, qb_⟩
              · rw [if_neg c28] at H
                have c28b0 : (t434 == 0) = false := beq_eq_false_iff_ne.mpr c28
                have c28b1 : (t434 != 0) = true := bne_iff_ne.mpr c28
                obtain rfl := Option.some.inj H
                go_wp2_with (first | ((with_reducible refine gate_callee (f := 20) rfl ?_); refine goesL_ (some 66) rfl rfl Tryd.func20 (by kernel_rfl) rfl #[.int .i64 a2] rfl ql_ ?_; (with_reducible refine (calendar_Date.calls kj18 a2 t431 t432 t433 t434 _ ?side1 A27.out).mono ?_); (case side1 => exact TabOK.below HTA.out qb_); rintro e w' ⟨rfl, ⟨nd, rfl⟩⟩; refine ⟨_, rfl, ?_⟩))
                go_ret
                exact ⟨qx_, qb_⟩

end Go.Proofs.YtfhmbfadbfnnaaaDoor.Px
