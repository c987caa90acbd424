/- Contracts of Go functions, written by a program of this session's own (wip/tools/myprint.py) out of the translation: each Go function does what the Lean function of its name says. Conditions: as each theorem states. -/
import Derived.Test.YtfhmbfadbfnnaaaDoorPx0
import Derived.Test.YtfhmbfadbfnnaaaDoorPx6
import Derived.Test.YtfhmbfadbfnnaaaDoorPx10
import Derived.Test.YtfhmbfadbfnnaaaDoorPx14
import Derived.Test.YtfhmbfadbfnnaaaDoorGHead
namespace Go.Proofs.YtfhmbfadbfnnaaaDoor.Px
open Go.Proofs.YtfhmbfadbfnnaaaDoor.Given
open Go.RowKit Go.Proofs.YtfhmbfadbfnnaaaDoorW.PrintWords Go.Proofs.YtfhmbfadbfnnaaaDoorW.PrintLast Go.Proofs.YtfhmbfadbfnnaaaDoorW.PrintMore
attribute [local go_sem] max2_int min2_int max_two min_two max_three min_three max_four min_four   -- for this text's walks alone
set_option linter.unusedVariables false
set_option linter.unusedSimpArgs false

/-! ### cohousinglaw21_PointsLots: function 8 -/
mutual
def cohousinglaw21_PointsLots.j0 : Nat → List (S25) → Int → List Int → List Int → Bool → List Int → Bool → Int → Int → Int → Int → Option (Bool)
  | 0, _, _, _, _, _, _, _, _, _, _, _ => none
  | k + 1, x1, x2, x3, x4, x11, x12, x36, x399000, x399001, x399002, x399003 => if x36 = true then (some x11) else ((points_Order.f k x399000 x399001 x399002 x399003 x1 x2 x3).bind fun bt405 => ((points_Order.f k x399000 x399001 x399002 x399003 x1 x2 x4).bind fun bt409 => (if bt405.2 = 0 then (if bt409.2 = 0 then (cohousinglaw21_PointsLots.j1 k x11 x12 bt405.1 bt409.1 ((bt405.1.length : Int) != (bt409.1.length : Int))) else (cohousinglaw21_PointsLots.j1 k x11 x12 bt405.1 bt409.1 true)) else (cohousinglaw21_PointsLots.j1 k x11 x12 bt405.1 bt409.1 true))))
def cohousinglaw21_PointsLots.j1 : Nat → Bool → List Int → List Int → List Int → Bool → Option (Bool)
  | 0, _, _, _, _, _ => none
  | k + 1, x11, x12, x14, x16, x66 => if x66 = true then (some false) else (cohousinglaw21_PointsLots.l0 k x11 x12 x14 x16 (x14.length : Int) 0)
def cohousinglaw21_PointsLots.l0 : Nat → Bool → List Int → List Int → List Int → Int → Int → Option (Bool)
  | 0, _, _, _, _, _, _ => none
  | k + 1, x11, x12, x14, x16, x68, x69 => if x69 < x68 then (if 0 ≤ x69 then (if x69 < (x14.length : Int) then (if (rd x14 x69) < 0 then (cohousinglaw21_PointsLots.j3 k x11 x12 x14 x16 x68 x69 true) else (if (rd x14 x69) ≥ (x12.length : Int) then (cohousinglaw21_PointsLots.j3 k x11 x12 x14 x16 x68 x69 true) else (if x69 < (x16.length : Int) then (if (rd x16 x69) < 0 then (cohousinglaw21_PointsLots.j3 k x11 x12 x14 x16 x68 x69 true) else (if (rd x16 x69) ≥ (x12.length : Int) then (cohousinglaw21_PointsLots.j3 k x11 x12 x14 x16 x68 x69 true) else (if 0 ≤ (rd x14 x69) then (if (rd x14 x69) < (x12.length : Int) then (if 0 ≤ (rd x16 x69) then (if (rd x16 x69) < (x12.length : Int) then (cohousinglaw21_PointsLots.j3 k x11 x12 x14 x16 x68 x69 ((rd x12 (rd x14 x69)) != (rd x12 (rd x16 x69)))) else (none)) else (none)) else (none)) else (none)))) else (none)))) else (none)) else (none)) else (some x11)
def cohousinglaw21_PointsLots.j3 : Nat → Bool → List Int → List Int → List Int → Int → Int → Bool → Option (Bool)
  | 0, _, _, _, _, _, _, _ => none
  | k + 1, x11, x12, x14, x16, x68, x69, x118 => if x118 = true then (some false) else (cohousinglaw21_PointsLots.l0 k x11 x12 x14 x16 x68 (wrap64 (x69 + 1)))
end
def cohousinglaw21_PointsLots.f (k : Nat) (a0_0 a0_1 a0_2 a0_3 : Int) (l1 : List (S25)) (a2 : Int) (l3 l4 : List Int) : Option (Bool) := (cohousinglaw21_head.f k).bind fun t399 => ((cohousinglaw21_usable.f k a0_0 a0_1 a0_2 a0_3 l1 a2 l3).bind fun bt400 => (if bt400.2 = true then ((cohousingref21_Lots.f k l4 (l1.length : Int)).bind fun t404 => (cohousinglaw21_PointsLots.j0 k l1 a2 l3 l4 t399 bt400.1 (!t404) a0_0 a0_1 a0_2 a0_3)) else (cohousinglaw21_PointsLots.j0 k l1 a2 l3 l4 t399 bt400.1 true a0_0 a0_1 a0_2 a0_3)))
theorem cohousinglaw21_PointsLots.mono_l : ∀ k, (∀ y0 y1 y2 y3 y4 y5 y6 y7 y8 y9 y10, LeO (cohousinglaw21_PointsLots.j0 k y0 y1 y2 y3 y4 y5 y6 y7 y8 y9 y10) (cohousinglaw21_PointsLots.j0 (k + 1) y0 y1 y2 y3 y4 y5 y6 y7 y8 y9 y10)) ∧ (∀ y0 y1 y2 y3 y4, LeO (cohousinglaw21_PointsLots.j1 k y0 y1 y2 y3 y4) (cohousinglaw21_PointsLots.j1 (k + 1) y0 y1 y2 y3 y4)) ∧ (∀ y0 y1 y2 y3 y4 y5, LeO (cohousinglaw21_PointsLots.l0 k y0 y1 y2 y3 y4 y5) (cohousinglaw21_PointsLots.l0 (k + 1) y0 y1 y2 y3 y4 y5)) ∧ (∀ y0 y1 y2 y3 y4 y5 y6, LeO (cohousinglaw21_PointsLots.j3 k y0 y1 y2 y3 y4 y5 y6) (cohousinglaw21_PointsLots.j3 (k + 1) y0 y1 y2 y3 y4 y5 y6))
  | 0 => ⟨fun _ _ _ _ _ _ _ _ _ _ _ r h => by simp [cohousinglaw21_PointsLots.j0] at h, fun _ _ _ _ _ r h => by simp [cohousinglaw21_PointsLots.j1] at h, fun _ _ _ _ _ _ r h => by simp [cohousinglaw21_PointsLots.l0] at h, fun _ _ _ _ _ _ _ r h => by simp [cohousinglaw21_PointsLots.j3] at h⟩
  | k + 1 => by
    obtain ⟨ih0, ih1, ih2, ih3⟩ := cohousinglaw21_PointsLots.mono_l k
    refine ⟨?_, ?_, ?_, ?_⟩
    · intro y0 y1 y2 y3 y4 y5 y6 y7 y8 y9 y10
      unfold cohousinglaw21_PointsLots.j0
      with_reducible (repeat' first | apply ih0 | apply ih1 | apply ih2 | apply ih3 | apply cohousinglaw21_head.mono | apply cohousinglaw21_usable.mono | apply cohousingref21_Lots.mono | apply points_Order.mono | apply LeO.refl | apply LeO.none | apply LeO.ite | refine LeO.bind ?_ (fun _ => ?_))
    · intro y0 y1 y2 y3 y4
      unfold cohousinglaw21_PointsLots.j1
      with_reducible (repeat' first | apply ih0 | apply ih1 | apply ih2 | apply ih3 | apply cohousinglaw21_head.mono | apply cohousinglaw21_usable.mono | apply cohousingref21_Lots.mono | apply points_Order.mono | apply LeO.refl | apply LeO.none | apply LeO.ite | refine LeO.bind ?_ (fun _ => ?_))
    · intro y0 y1 y2 y3 y4 y5
      unfold cohousinglaw21_PointsLots.l0
      with_reducible (repeat' first | apply ih0 | apply ih1 | apply ih2 | apply ih3 | apply cohousinglaw21_head.mono | apply cohousinglaw21_usable.mono | apply cohousingref21_Lots.mono | apply points_Order.mono | apply LeO.refl | apply LeO.none | apply LeO.ite | refine LeO.bind ?_ (fun _ => ?_))
    · intro y0 y1 y2 y3 y4 y5 y6
      unfold cohousinglaw21_PointsLots.j3
      with_reducible (repeat' first | apply ih0 | apply ih1 | apply ih2 | apply ih3 | apply cohousinglaw21_head.mono | apply cohousinglaw21_usable.mono | apply cohousingref21_Lots.mono | apply points_Order.mono | apply LeO.refl | apply LeO.none | apply LeO.ite | refine LeO.bind ?_ (fun _ => ?_))
theorem cohousinglaw21_PointsLots.mono : ∀ a0 a1 a2 a3 a4 a5 a6 a7 k, LeO (cohousinglaw21_PointsLots.f k a0 a1 a2 a3 a4 a5 a6 a7) (cohousinglaw21_PointsLots.f (k + 1) a0 a1 a2 a3 a4 a5 a6 a7) := by
  intro a0 a1 a2 a3 a4 a5 a6 a7 k
  obtain ⟨ih0, ih1, ih2, ih3⟩ := cohousinglaw21_PointsLots.mono_l k
  unfold cohousinglaw21_PointsLots.f
  with_reducible (repeat' first | apply ih0 | apply ih1 | apply ih2 | apply ih3 | apply cohousinglaw21_head.mono | apply cohousinglaw21_usable.mono | apply cohousingref21_Lots.mono | apply points_Order.mono | apply LeO.refl | apply LeO.none | apply LeO.ite | refine LeO.bind ?_ (fun _ => ?_))
set_option maxHeartbeats 8000000 in
set_option maxRecDepth 100000 in
theorem cohousinglaw21_PointsLots.calls (k : Nat) (a0_0 a0_1 a0_2 a0_3 : Int) (A1 : Option Addr) (c1 : Nat) (l1 : List (S25)) (a2 : Int) (A3 : Option Addr) (c3 : Nat) (l3 : List Int) (A4 : Option Addr) (c4 : Nat) (l4 : List Int) (r : Bool) (w : World) (hr1 : Kd.C k25 w A1 l1.length l1) (hc1 : l1.length ≤ c1) (hr3 : Kd.C (Kd.int .i64) w A3 l3.length l3) (hc3 : l3.length ≤ c3) (hr4 : Kd.C (Kd.int .i64) w A4 l4.length l4) (hc4 : l4.length ≤ c4) (HT : TabOK w) (h : cohousinglaw21_PointsLots.f k a0_0 a0_1 a0_2 a0_3 l1 a2 l3 l4 = some r) :
    Calls Tryd.prog 8 #[.agg #[.int .i64 a0_0, .int .i64 a0_1, .int .i64 a0_2, .int .i64 a0_3], .slice A1 l1.length c1, .int .i64 a2, .slice A3 l3.length c3, .slice A4 l4.length c4] w fun e w' => e = .returned (.bool r) ∧ Below w.heap.size w w' := by
  have hu23 := Tryd.underlying23
  have HTA := Aside0.mk HT
  clear HT
  have HR1 := Aside0.mk hr1
  have HC1 := Aside0.mk hc1
  clear hr1 hc1
  have HR3 := Aside0.mk hr3
  have HC3 := Aside0.mk hc3
  clear hr3 hc3
  have HR4 := Aside0.mk hr4
  have HC4 := Aside0.mk hc4
  clear hr4 hc4
  have HB := Aside0.mk (Below.refl w.heap.size w)
  have H : ((cohousinglaw21_head.f k).bind fun t399 => ((cohousinglaw21_usable.f k a0_0 a0_1 a0_2 a0_3 l1 a2 l3).bind fun bt400 => (if bt400.2 = true then ((cohousingref21_Lots.f k l4 (l1.length : Int)).bind fun t404 => (cohousinglaw21_PointsLots.j0 k l1 a2 l3 l4 t399 bt400.1 (!t404) a0_0 a0_1 a0_2 a0_3)) else (cohousinglaw21_PointsLots.j0 k l1 a2 l3 l4 t399 bt400.1 true a0_0 a0_1 a0_2 a0_3)))) = some r := h
  clear h
  replace H := Option.bind_eq_some_iff.mp H
  obtain ⟨t399, A60, H⟩ := H
  replace H : ((cohousinglaw21_usable.f k a0_0 a0_1 a0_2 a0_3 l1 a2 l3).bind fun bt400 => (if bt400.2 = true then ((cohousingref21_Lots.f k l4 (l1.length : Int)).bind fun t404 => (cohousinglaw21_PointsLots.j0 k l1 a2 l3 l4 t399 bt400.1 (!t404) a0_0 a0_1 a0_2 a0_3)) else (cohousinglaw21_PointsLots.j0 k l1 a2 l3 l4 t399 bt400.1 true a0_0 a0_1 a0_2 a0_3))) = some r := H
  have A6 := Aside0.mk A60
  clear A60
  replace H := Option.bind_eq_some_iff.mp H
  obtain ⟨⟨t400, t403⟩, A70, H⟩ := H
  replace H : (if t403 = true then ((cohousingref21_Lots.f k l4 (l1.length : Int)).bind fun t404 => (cohousinglaw21_PointsLots.j0 k l1 a2 l3 l4 t399 t400 (!t404) a0_0 a0_1 a0_2 a0_3)) else (cohousinglaw21_PointsLots.j0 k l1 a2 l3 l4 t399 t400 true a0_0 a0_1 a0_2 a0_3)) = some r := H
  have A7 := Aside0.mk A70
  clear A70
  have HC8 := Aside0.mk H
  clear H
  go_enter Tryd.func8, Tryd.ntmps8
  go_upto_region 3 with (first | ((with_reducible refine gate_dst (N := 5) rfl ?_); (try (refine gate_guard (by rfl) ?_; dsimp only)); refine qev_ 5 #[.int .i64 a0_0, .int .i64 a0_1, .int .i64 a0_2, .int .i64 a0_3] 23 ?_; intro gb398 hg w9 hbox hb; have BK398 := Aside0.mk (hbox); have GW398 := qga_ hg; have GE398 := qga_ hg; replace HB := qbs_ hb; clear hb hbox hg) | (go_at_call 10; (with_reducible refine (cohousinglaw21_head.calls k  t399 _ ?side1 A6.out).mono ?_); (case side1 => exact TabOK.below HTA.out qb_); rintro e w10 ⟨rfl, hb⟩; replace BK398 := qkb_ BK398 hb; replace HB := qbs_ hb; (try clear hb); (try clear hb2); (try clear hk); (try clear hi); obtain ⟨hcz11_0, hcz11_1, hcz11_2, hcz11_3⟩ := qz4_ BK398; obtain ⟨hfz11_0, hfz11_1, hfz11_2, hfz11_3⟩ := qf4_ BK398) | (go_at_call 17; (with_reducible refine (cohousinglaw21_usable.calls k a0_0 a0_1 a0_2 a0_3 _ _ l1 a2 _ _ l3 t400 t403 _ ?side1 ?side2 ?side3 ?side4 ?side5 A7.out).mono ?_); (case side1 => exact qc_ HR1); (case side2 => exact HC1.out); (case side3 => exact qc_ HR3); (case side4 => exact HC3.out); (case side5 => exact TabOK.below HTA.out qb_); rintro e w12 ⟨v401, rfl, ho0, hb⟩; have HO402 := Aside0.mk (Kd.R_lower ho0 (below_size qb_)); replace BK398 := qkb_ BK398 hb; replace HB := qbs_ hb; (try clear hb); (try clear hb2); (try clear hk); (try clear hi); (try clear ho0)))
  repeat (go_quiet (first | ((with_reducible refine gate_dst (N := 5) rfl ?_); (try (refine gate_guard (by rfl) ?_; dsimp only)); refine qev_ 5 #[.int .i64 a0_0, .int .i64 a0_1, .int .i64 a0_2, .int .i64 a0_3] 23 ?_; intro gb398 hg w9 hbox hb; have BK398 := Aside0.mk (hbox); have GW398 := qga_ hg; have GE398 := qga_ hg; replace HB := qbs_ hb; clear hb hbox hg) | (go_at_call 10; (with_reducible refine (cohousinglaw21_head.calls k  t399 _ ?side1 A6.out).mono ?_); (case side1 => exact TabOK.below HTA.out qb_); rintro e w10 ⟨rfl, hb⟩; replace BK398 := qkb_ BK398 hb; replace HB := qbs_ hb; (try clear hb); (try clear hb2); (try clear hk); (try clear hi); obtain ⟨hcz11_0, hcz11_1, hcz11_2, hcz11_3⟩ := qz4_ BK398; obtain ⟨hfz11_0, hfz11_1, hfz11_2, hfz11_3⟩ := qf4_ BK398) | (go_at_call 17; (with_reducible refine (cohousinglaw21_usable.calls k a0_0 a0_1 a0_2 a0_3 _ _ l1 a2 _ _ l3 t400 t403 _ ?side1 ?side2 ?side3 ?side4 ?side5 A7.out).mono ?_); (case side1 => exact qc_ HR1); (case side2 => exact HC1.out); (case side3 => exact qc_ HR3); (case side4 => exact HC3.out); (case side5 => exact TabOK.below HTA.out qb_); rintro e w12 ⟨v401, rfl, ho0, hb⟩; have HO402 := Aside0.mk (Kd.R_lower ho0 (below_size qb_)); replace BK398 := qkb_ BK398 hb; replace HB := qbs_ hb; (try clear hb); (try clear hb2); (try clear hk); (try clear hi); (try clear ho0))); go_upto_region 3 with (first | ((with_reducible refine gate_dst (N := 5) rfl ?_); (try (refine gate_guard (by rfl) ?_; dsimp only)); refine qev_ 5 #[.int .i64 a0_0, .int .i64 a0_1, .int .i64 a0_2, .int .i64 a0_3] 23 ?_; intro gb398 hg w9 hbox hb; have BK398 := Aside0.mk (hbox); have GW398 := qga_ hg; have GE398 := qga_ hg; replace HB := qbs_ hb; clear hb hbox hg) | (go_at_call 10; (with_reducible refine (cohousinglaw21_head.calls k  t399 _ ?side1 A6.out).mono ?_); (case side1 => exact TabOK.below HTA.out qb_); rintro e w10 ⟨rfl, hb⟩; replace BK398 := qkb_ BK398 hb; replace HB := qbs_ hb; (try clear hb); (try clear hb2); (try clear hk); (try clear hi); obtain ⟨hcz11_0, hcz11_1, hcz11_2, hcz11_3⟩ := qz4_ BK398; obtain ⟨hfz11_0, hfz11_1, hfz11_2, hfz11_3⟩ := qf4_ BK398) | (go_at_call 17; (with_reducible refine (cohousinglaw21_usable.calls k a0_0 a0_1 a0_2 a0_3 _ _ l1 a2 _ _ l3 t400 t403 _ ?side1 ?side2 ?side3 ?side4 ?side5 A7.out).mono ?_); (case side1 => exact qc_ HR1); (case side2 => exact HC1.out); (case side3 => exact qc_ HR3); (case side4 => exact HC3.out); (case side5 => exact TabOK.below HTA.out qb_); rintro e w12 ⟨v401, rfl, ho0, hb⟩; have HO402 := Aside0.mk (Kd.R_lower ho0 (below_size qb_)); replace BK398 := qkb_ BK398 hb; replace HB := qbs_ hb; (try clear hb); (try clear hb2); (try clear hk); (try clear hi); (try clear ho0))))
  (try simp only [Act.put, List.setIfInBounds_toArray, List.set_cons_zero, List.set_cons_succ])
  go_cut [36] (fun v36 wc => ∃ (kq : Nat) (x36_7 : Bool), v36 = .bool x36_7 ∧ Aside0 (cohousinglaw21_PointsLots.j0 kq l1 a2 l3 l4 t399 t400 x36_7 a0_0 a0_1 a0_2 a0_3 = some r) ∧ Aside0 (kq ≤ k) ∧ Aside0 (Kd.R (Kd.int .i64) 3 wc w.heap.size (fun _ => True) v401 t400) ∧ Aside0 (wc.heap[gb398]? = some (.cells #[.int .i64 a0_0, .int .i64 a0_1, .int .i64 a0_2, .int .i64 a0_3] 23 (0, 0))) ∧ Aside0 (Below w.heap.size w wc))
  case first =>
    have H := HC8.out
    clear HC8
    by_cases c13 : t403 = true
    · subst c13
      have H1 : ((cohousingref21_Lots.f k l4 (l1.length : Int)).bind fun t404 => (cohousinglaw21_PointsLots.j0 k l1 a2 l3 l4 t399 t400 (!t404) a0_0 a0_1 a0_2 a0_3)) = some r := by rw [if_pos rfl] at H; exact H
      clear H
      have H := H1
      clear H1
      replace H := Option.bind_eq_some_iff.mp H
      obtain ⟨t404, A140, H⟩ := H
      replace H : (cohousinglaw21_PointsLots.j0 k l1 a2 l3 l4 t399 t400 (!t404) a0_0 a0_1 a0_2 a0_3) = some r := H
      have A14 := Aside0.mk A140
      clear A140
      have H' := Aside0.mk H
      clear H
      go_wp2_with (first | (go_at_call 19; (with_reducible refine (cohousingref21_Lots.calls k _ _ l4 (l1.length : Int) t404 _ ?side1 ?side2 A14.out).mono ?_); (case side1 => exact qc_ HR4); (case side2 => exact HC4.out); rintro e w' ⟨rfl, ⟨nd, rfl⟩⟩; (try exact qw_)))
      repeat (go_quiet (first | (go_at_call 19; (with_reducible refine (cohousingref21_Lots.calls k _ _ l4 (l1.length : Int) t404 _ ?side1 ?side2 A14.out).mono ?_); (case side1 => exact qc_ HR4); (case side2 => exact HC4.out); rintro e w' ⟨rfl, ⟨nd, rfl⟩⟩; (try exact qw_))); try go_wp2_with (first | (go_at_call 19; (with_reducible refine (cohousingref21_Lots.calls k _ _ l4 (l1.length : Int) t404 _ ?side1 ?side2 A14.out).mono ?_); (case side1 => exact qc_ HR4); (case side2 => exact HC4.out); rintro e w' ⟨rfl, ⟨nd, rfl⟩⟩; (try exact qw_))))
      go_meet
      case rel => exact ⟨_, (!t404), qs_, H', ⟨qo_⟩, ⟨by (with_reducible repeat (first | apply Kd.R_alloc | apply Kd.R_drewN | apply Kd.R_drew)); exact HO402.out⟩, ⟨qk_ BK398⟩, ⟨qb_⟩⟩
    · replace c13 := Bool.eq_false_iff.mpr c13
      subst c13
      have H1 : (cohousinglaw21_PointsLots.j0 k l1 a2 l3 l4 t399 t400 true a0_0 a0_1 a0_2 a0_3) = some r := by rw [if_neg (show ¬ (false = true) by decide)] at H; exact H
      clear H
      have H := H1
      clear H1
      have H' := Aside0.mk H
      clear H
      go_wp2
      repeat (go_quiet (fail); try go_wp2)
      go_meet
      case rel => exact ⟨_, (true), qs_, H', ⟨qo_⟩, ⟨by (with_reducible repeat (first | apply Kd.R_alloc | apply Kd.R_drewN | apply Kd.R_drew)); exact HO402.out⟩, ⟨qk_ BK398⟩, ⟨qb_⟩⟩
  case rest =>
    clear HC8
    try clear c1
    try clear p2
    try clear c3
    try clear c4
    try clear c8
    try clear c13
    try clear hcz11_0 hcz11_1 hcz11_2 hcz11_3
    try clear hfz11_0 hfz11_1 hfz11_2 hfz11_3
    obtain ⟨kq, x36_7, rfl, HA, HJ7, HO_12, BK398, HB⟩ := hcut
    cases kq with
    | zero => exact absurd HA.out (by simp [cohousinglaw21_PointsLots.j0])
    | succ kj7 =>
      have H := HA.out
      clear HA
      simp only [cohousinglaw21_PointsLots.j0] at H
      by_cases c15 : x36_7 = true
      · subst c15
        have H1 : (some t399) = some r := by rw [if_pos rfl] at H; exact H
        clear H
        have H := H1
        clear H1
        obtain rfl := Option.some.inj H
        go_wp2
        repeat (go_quiet (fail); try go_wp2)
        go_ret
        exact ⟨qx_, qb_⟩
      · replace c15 := Bool.eq_false_iff.mpr c15
        subst c15
        have H1 : ((points_Order.f kj7 a0_0 a0_1 a0_2 a0_3 l1 a2 l3).bind fun bt405 => ((points_Order.f kj7 a0_0 a0_1 a0_2 a0_3 l1 a2 l4).bind fun bt409 => (if bt405.2 = 0 then (if bt409.2 = 0 then (cohousinglaw21_PointsLots.j1 kj7 t399 t400 bt405.1 bt409.1 ((bt405.1.length : Int) != (bt409.1.length : Int))) else (cohousinglaw21_PointsLots.j1 kj7 t399 t400 bt405.1 bt409.1 true)) else (cohousinglaw21_PointsLots.j1 kj7 t399 t400 bt405.1 bt409.1 true)))) = some r := by rw [if_neg (show ¬ (false = true) by decide)] at H; exact H
        clear H
        have H := H1
        clear H1
        replace H := Option.bind_eq_some_iff.mp H
        obtain ⟨⟨t405, t408⟩, A160, H⟩ := H
        replace H : ((points_Order.f kj7 a0_0 a0_1 a0_2 a0_3 l1 a2 l4).bind fun bt409 => (if t408 = 0 then (if bt409.2 = 0 then (cohousinglaw21_PointsLots.j1 kj7 t399 t400 t405 bt409.1 ((t405.length : Int) != (bt409.1.length : Int))) else (cohousinglaw21_PointsLots.j1 kj7 t399 t400 t405 bt409.1 true)) else (cohousinglaw21_PointsLots.j1 kj7 t399 t400 t405 bt409.1 true))) = some r := H
        have A16 := Aside0.mk A160
        clear A160
        replace H := Option.bind_eq_some_iff.mp H
        obtain ⟨⟨t409, t412⟩, A170, H⟩ := H
        replace H : (if t408 = 0 then (if t412 = 0 then (cohousinglaw21_PointsLots.j1 kj7 t399 t400 t405 t409 ((t405.length : Int) != (t409.length : Int))) else (cohousinglaw21_PointsLots.j1 kj7 t399 t400 t405 t409 true)) else (cohousinglaw21_PointsLots.j1 kj7 t399 t400 t405 t409 true)) = some r := H
        have A17 := Aside0.mk A170
        clear A170
        have HC18 := Aside0.mk H
        clear H
        obtain ⟨hcz19_0, hcz19_1, hcz19_2, hcz19_3⟩ := qz4_ BK398; obtain ⟨hfz19_0, hfz19_1, hfz19_2, hfz19_3⟩ := qf4_ BK398
        go_upto_region 7 with (first | (go_at_call 13; (with_reducible refine (points_Order.calls kj7 a0_0 a0_1 a0_2 a0_3 _ _ l1 a2 _ _ l3 t405 t408 _ ?side1 ?side2 ?side3 ?side4 ?side5 A16.out).mono ?_); (case side1 => exact qc_ HR1); (case side2 => exact HC1.out); (case side3 => exact qc_ HR3); (case side4 => exact HC3.out); (case side5 => exact TabOK.below HTA.out qb_); rintro e w20 ⟨v406, rfl, ho0, hb⟩; have HO407 := Aside0.mk (Kd.R_lower (Kd.R_new' ho0 (Kd.R_lt (qr_ HO_12))) (below_size qb_)); replace HO_12 := qel_ HO_12 ho0 hb; replace BK398 := qkb_ BK398 hb; replace HB := qbs_ hb; (try clear hb); (try clear hb2); (try clear hk); (try clear hi); (try clear ho0); obtain ⟨hcz21_0, hcz21_1, hcz21_2, hcz21_3⟩ := qz4_ BK398; obtain ⟨hfz21_0, hfz21_1, hfz21_2, hfz21_3⟩ := qf4_ BK398) | (go_at_call 13; (with_reducible refine (points_Order.calls kj7 a0_0 a0_1 a0_2 a0_3 _ _ l1 a2 _ _ l4 t409 t412 _ ?side1 ?side2 ?side3 ?side4 ?side5 A17.out).mono ?_); (case side1 => exact qc_ HR1); (case side2 => exact HC1.out); (case side3 => exact qc_ HR4); (case side4 => exact HC4.out); (case side5 => exact TabOK.below HTA.out qb_); rintro e w22 ⟨v410, rfl, ho0, hb⟩; have HO411 := Aside0.mk (Kd.R_lower (Kd.R_new' (Kd.R_new' ho0 (Kd.R_lt (qr_ HO_12))) (Kd.R_lt (qr_ HO407))) (below_size qb_)); replace HO_12 := qel_ HO_12 ho0 hb; replace HO407 := qel_ HO407 ho0 hb; replace BK398 := qkb_ BK398 hb; replace HB := qbs_ hb; (try clear hb); (try clear hb2); (try clear hk); (try clear hi); (try clear ho0)))
        repeat (go_quiet (first | (go_at_call 13; (with_reducible refine (points_Order.calls kj7 a0_0 a0_1 a0_2 a0_3 _ _ l1 a2 _ _ l3 t405 t408 _ ?side1 ?side2 ?side3 ?side4 ?side5 A16.out).mono ?_); (case side1 => exact qc_ HR1); (case side2 => exact HC1.out); (case side3 => exact qc_ HR3); (case side4 => exact HC3.out); (case side5 => exact TabOK.below HTA.out qb_); rintro e w20 ⟨v406, rfl, ho0, hb⟩; have HO407 := Aside0.mk (Kd.R_lower (Kd.R_new' ho0 (Kd.R_lt (qr_ HO_12))) (below_size qb_)); replace HO_12 := qel_ HO_12 ho0 hb; replace BK398 := qkb_ BK398 hb; replace HB := qbs_ hb; (try clear hb); (try clear hb2); (try clear hk); (try clear hi); (try clear ho0); obtain ⟨hcz21_0, hcz21_1, hcz21_2, hcz21_3⟩ := qz4_ BK398; obtain ⟨hfz21_0, hfz21_1, hfz21_2, hfz21_3⟩ := qf4_ BK398) | (go_at_call 13; (with_reducible refine (points_Order.calls kj7 a0_0 a0_1 a0_2 a0_3 _ _ l1 a2 _ _ l4 t409 t412 _ ?side1 ?side2 ?side3 ?side4 ?side5 A17.out).mono ?_); (case side1 => exact qc_ HR1); (case side2 => exact HC1.out); (case side3 => exact qc_ HR4); (case side4 => exact HC4.out); (case side5 => exact TabOK.below HTA.out qb_); rintro e w22 ⟨v410, rfl, ho0, hb⟩; have HO411 := Aside0.mk (Kd.R_lower (Kd.R_new' (Kd.R_new' ho0 (Kd.R_lt (qr_ HO_12))) (Kd.R_lt (qr_ HO407))) (below_size qb_)); replace HO_12 := qel_ HO_12 ho0 hb; replace HO407 := qel_ HO407 ho0 hb; replace BK398 := qkb_ BK398 hb; replace HB := qbs_ hb; (try clear hb); (try clear hb2); (try clear hk); (try clear hi); (try clear ho0))); go_upto_region 7 with (first | (go_at_call 13; (with_reducible refine (points_Order.calls kj7 a0_0 a0_1 a0_2 a0_3 _ _ l1 a2 _ _ l3 t405 t408 _ ?side1 ?side2 ?side3 ?side4 ?side5 A16.out).mono ?_); (case side1 => exact qc_ HR1); (case side2 => exact HC1.out); (case side3 => exact qc_ HR3); (case side4 => exact HC3.out); (case side5 => exact TabOK.below HTA.out qb_); rintro e w20 ⟨v406, rfl, ho0, hb⟩; have HO407 := Aside0.mk (Kd.R_lower (Kd.R_new' ho0 (Kd.R_lt (qr_ HO_12))) (below_size qb_)); replace HO_12 := qel_ HO_12 ho0 hb; replace BK398 := qkb_ BK398 hb; replace HB := qbs_ hb; (try clear hb); (try clear hb2); (try clear hk); (try clear hi); (try clear ho0); obtain ⟨hcz21_0, hcz21_1, hcz21_2, hcz21_3⟩ := qz4_ BK398; obtain ⟨hfz21_0, hfz21_1, hfz21_2, hfz21_3⟩ := qf4_ BK398) | (go_at_call 13; (with_reducible refine (points_Order.calls kj7 a0_0 a0_1 a0_2 a0_3 _ _ l1 a2 _ _ l4 t409 t412 _ ?side1 ?side2 ?side3 ?side4 ?side5 A17.out).mono ?_); (case side1 => exact qc_ HR1); (case side2 => exact HC1.out); (case side3 => exact qc_ HR4); (case side4 => exact HC4.out); (case side5 => exact TabOK.below HTA.out qb_); rintro e w22 ⟨v410, rfl, ho0, hb⟩; have HO411 := Aside0.mk (Kd.R_lower (Kd.R_new' (Kd.R_new' ho0 (Kd.R_lt (qr_ HO_12))) (Kd.R_lt (qr_ HO407))) (below_size qb_)); replace HO_12 := qel_ HO_12 ho0 hb; replace HO407 := qel_ HO407 ho0 hb; replace BK398 := qkb_ BK398 hb; replace HB := qbs_ hb; (try clear hb); (try clear hb2); (try clear hk); (try clear hi); (try clear ho0))))
        (try simp only [Act.put, List.setIfInBounds_toArray, List.set_cons_zero, List.set_cons_succ])
        go_cut [66] (fun v66 wc => ∃ (kq : Nat) (x66_17 : Bool), v66 = .bool x66_17 ∧ Aside0 (cohousinglaw21_PointsLots.j1 kq t399 t400 t405 t409 x66_17 = some r) ∧ Aside0 (kq ≤ kj7) ∧ Aside0 (Kd.R (Kd.int .i64) 3 wc w.heap.size (fun k_ => some k_ ≠ (v406 : Value).ownBlock ∧ some k_ ≠ (v410 : Value).ownBlock) v401 t400) ∧ Aside0 (Kd.R (Kd.int .i64) 3 wc w.heap.size (fun k_ => some k_ ≠ (v401 : Value).ownBlock ∧ some k_ ≠ (v410 : Value).ownBlock) v406 t405) ∧ Aside0 (Kd.R (Kd.int .i64) 3 wc w.heap.size (fun k_ => some k_ ≠ (v401 : Value).ownBlock ∧ some k_ ≠ (v406 : Value).ownBlock) v410 t409) ∧ Aside0 (wc.heap[gb398]? = some (.cells #[.int .i64 a0_0, .int .i64 a0_1, .int .i64 a0_2, .int .i64 a0_3] 23 (0, 0))) ∧ Aside0 (Below w.heap.size w wc))
        case first =>
          have H := HC18.out
          clear HC18
          by_cases c23 : t408 = 0
          · rw [if_pos c23] at H
            have c23b0 : (t408 == 0) = true := beq_iff_eq.mpr c23
            have c23b1 : (t408 != 0) = false := bne_eq_false_iff_eq.mpr c23
            clear c23
            (first | rw [c23b0] | (simp only [i64_w, i32_w]; rw [c23b0]) | skip)
            by_cases c24 : t412 = 0
            · rw [if_pos c24] at H
              have c24b0 : (t412 == 0) = true := beq_iff_eq.mpr c24
              have c24b1 : (t412 != 0) = false := bne_eq_false_iff_eq.mpr c24
              clear c24
              have H' := Aside0.mk H
              clear H
              obtain ⟨Ao25, co25, eo25⟩ := Kd.R_slice HO407.out
              subst eo25
              obtain ⟨Ao26, co26, eo26⟩ := Kd.R_slice HO411.out
              subst eo26
              go_wp2
              repeat (go_quiet (fail); try go_wp2)
              go_meet
              case rel => exact ⟨_, (((t405.length : Int) != (t409.length : Int))), qs_, H', ⟨by have := HJ7.out; first | omega | exact Nat.le_refl _⟩, ⟨by (with_reducible repeat (first | apply Kd.R_alloc | apply Kd.R_drewN | apply Kd.R_drew)); exact Kd.R_mono HO_12.out (fun _ hk => ⟨hk.1.2, hk.2⟩)⟩, ⟨by (with_reducible repeat (first | apply Kd.R_alloc | apply Kd.R_drewN | apply Kd.R_drew)); exact Kd.R_mono HO407.out (fun _ hk => ⟨hk.1.2, hk.2⟩)⟩, ⟨by (with_reducible repeat (first | apply Kd.R_alloc | apply Kd.R_drewN | apply Kd.R_drew)); exact Kd.R_mono HO411.out (fun _ hk => ⟨hk.1.2, hk.2⟩)⟩, ⟨qk_ BK398⟩, ⟨qb_⟩⟩
            · rw [if_neg c24] at H
              have c24b0 : (t412 == 0) = false := beq_eq_false_iff_ne.mpr c24
              have c24b1 : (t412 != 0) = true := bne_iff_ne.mpr c24
              have H' := Aside0.mk H
              clear H
              go_wp2
              repeat (go_quiet (fail); try go_wp2)
              go_meet
              case rel => exact ⟨_, (true), qs_, H', ⟨by have := HJ7.out; first | omega | exact Nat.le_refl _⟩, ⟨by (with_reducible repeat (first | apply Kd.R_alloc | apply Kd.R_drewN | apply Kd.R_drew)); exact Kd.R_mono HO_12.out (fun _ hk => ⟨hk.1.2, hk.2⟩)⟩, ⟨by (with_reducible repeat (first | apply Kd.R_alloc | apply Kd.R_drewN | apply Kd.R_drew)); exact Kd.R_mono HO407.out (fun _ hk => ⟨hk.1.2, hk.2⟩)⟩, ⟨by (with_reducible repeat (first | apply Kd.R_alloc | apply Kd.R_drewN | apply Kd.R_drew)); exact Kd.R_mono HO411.out (fun _ hk => ⟨hk.1.2, hk.2⟩)⟩, ⟨qk_ BK398⟩, ⟨qb_⟩⟩
          · rw [if_neg c23] at H
            have c23b0 : (t408 == 0) = false := beq_eq_false_iff_ne.mpr c23
            have c23b1 : (t408 != 0) = true := bne_iff_ne.mpr c23
            (first | rw [c23b0] | (simp only [i64_w, i32_w]; rw [c23b0]) | skip)
            have H' := Aside0.mk H
            clear H
            go_wp2
            repeat (go_quiet (fail); try go_wp2)
            go_meet
            case rel => exact ⟨_, (true), qs_, H', ⟨by have := HJ7.out; first | omega | exact Nat.le_refl _⟩, ⟨by (with_reducible repeat (first | apply Kd.R_alloc | apply Kd.R_drewN | apply Kd.R_drew)); exact Kd.R_mono HO_12.out (fun _ hk => ⟨hk.1.2, hk.2⟩)⟩, ⟨by (with_reducible repeat (first | apply Kd.R_alloc | apply Kd.R_drewN | apply Kd.R_drew)); exact Kd.R_mono HO407.out (fun _ hk => ⟨hk.1.2, hk.2⟩)⟩, ⟨by (with_reducible repeat (first | apply Kd.R_alloc | apply Kd.R_drewN | apply Kd.R_drew)); exact Kd.R_mono HO411.out (fun _ hk => ⟨hk.1.2, hk.2⟩)⟩, ⟨qk_ BK398⟩, ⟨qb_⟩⟩
        case rest =>
          clear HC18
          try clear c1
          try clear c2
          try clear p2
          try clear c3
          try clear c4
          try clear c8
          try clear c13
          try clear c15
          try clear c23
          try clear c23b0
          try clear c23b1
          try clear c24
          try clear c24b0
          try clear c24b1
          try clear hcz11_0 hcz11_1 hcz11_2 hcz11_3
          try clear hcz19_0 hcz19_1 hcz19_2 hcz19_3
          try clear hcz21_0 hcz21_1 hcz21_2 hcz21_3
          try clear hfz11_0 hfz11_1 hfz11_2 hfz11_3
          try clear hfz19_0 hfz19_1 hfz19_2 hfz19_3
          try clear hfz21_0 hfz21_1 hfz21_2 hfz21_3
          try clear p2
          obtain ⟨kq, x66_17, rfl, HA, HJ17, HO_12, HO_14, HO_16, BK398, HB⟩ := hcut
          cases kq with
          | zero => exact absurd HA.out (by simp [cohousinglaw21_PointsLots.j1])
          | succ kj17 =>
            have H := HA.out
            clear HA
            simp only [cohousinglaw21_PointsLots.j1] at H
            by_cases c27 : x66_17 = true
            · subst c27
              have H1 : (some false) = some r := by rw [if_pos rfl] at H; exact H
              clear H
              have H := H1
              clear H1
              obtain rfl := Option.some.inj H
              go_wp2
              repeat (go_quiet (fail); try go_wp2)
              go_ret
              exact ⟨qx_, qb_⟩
            · replace c27 := Bool.eq_false_iff.mpr c27
              subst c27
              have H1 : (cohousinglaw21_PointsLots.l0 kj17 t399 t400 t405 t409 (t405.length : Int) 0) = some r := by rw [if_neg (show ¬ (false = true) by decide)] at H; exact H
              clear H
              have H := H1
              clear H1
              have H' := Aside0.mk H
              clear H
              obtain ⟨Ao28, co28, eo28⟩ := Kd.R_slice HO_14.out
              subst eo28
              go_wp2
              repeat (go_quiet (fail); try go_wp2)
              go_loopg [69] kj17 (fun kq v69 w' => ∃ (x69_3 : Int), v69 = .int .i64 x69_3 ∧ Aside0 (cohousinglaw21_PointsLots.l0 kq t399 t400 t405 t409 (t405.length : Int) x69_3 = some r) ∧ Aside0 (kq ≤ kj17) ∧ Aside0 (Kd.R (Kd.int .i64) 3 w' w.heap.size (fun k_ => some k_ ≠ ((.slice Ao28 t405.length co28) : Value).ownBlock ∧ some k_ ≠ (v410 : Value).ownBlock) v401 t400) ∧ Aside0 (Kd.R (Kd.int .i64) 3 w' w.heap.size (fun k_ => some k_ ≠ (v401 : Value).ownBlock ∧ some k_ ≠ (v410 : Value).ownBlock) (.slice Ao28 t405.length co28) t405) ∧ Aside0 (Kd.R (Kd.int .i64) 3 w' w.heap.size (fun k_ => some k_ ≠ (v401 : Value).ownBlock ∧ some k_ ≠ ((.slice Ao28 t405.length co28) : Value).ownBlock) v410 t409) ∧ Aside0 (w'.heap[gb398]? = some (.cells #[.int .i64 a0_0, .int .i64 a0_1, .int .i64 a0_2, .int .i64 a0_3] 23 (0, 0))) ∧ Aside0 (Below w.heap.size w w'))
              case atStart => exact ⟨(0), qs_, H', ⟨Nat.le_refl _⟩, ⟨by (with_reducible repeat (first | apply Kd.R_alloc | apply Kd.R_drewN | apply Kd.R_drew)); exact HO_12.out⟩, ⟨by (with_reducible repeat (first | apply Kd.R_alloc | apply Kd.R_drewN | apply Kd.R_drew)); exact HO_14.out⟩, ⟨by (with_reducible repeat (first | apply Kd.R_alloc | apply Kd.R_drewN | apply Kd.R_drew)); exact HO_16.out⟩, ⟨qk_ BK398⟩, ⟨qb_⟩⟩
              case round =>
                clear H'
                try clear c1
                try clear c2
                try clear p2
                try clear c3
                try clear c4
                try clear c8
                try clear c13
                try clear c15
                try clear c23
                try clear c23b0
                try clear c23b1
                try clear c24
                try clear c24b0
                try clear c24b1
                try clear c27
                try clear hcz11_0 hcz11_1 hcz11_2 hcz11_3
                try clear hcz19_0 hcz19_1 hcz19_2 hcz19_3
                try clear hcz21_0 hcz21_1 hcz21_2 hcz21_3
                try clear hfz11_0 hfz11_1 hfz11_2 hfz11_3
                try clear hfz19_0 hfz19_1 hfz19_2 hfz19_3
                try clear hfz21_0 hfz21_1 hfz21_2 hfz21_3
                try clear p2
                obtain ⟨x69_3, rfl, HA, HK3, HO_12, HO_14, HO_16, BK398, HB⟩ := hrel
                cases gk with
                | zero => exact absurd HA.out (by simp [cohousinglaw21_PointsLots.l0])
                | succ k3 =>
                  have H := HA.out
                  clear HA
                  simp only [cohousinglaw21_PointsLots.l0] at H
                  by_cases c29 : x69_3 < (t405.length : Int)
                  · rw [if_pos c29] at H
                    have c29b0 : decide (x69_3 < (t405.length : Int)) = true := decide_eq_true c29
                    clear c29
                    have HC30 := Aside0.mk H
                    clear H
                    go_upto_region 12 with (fail)
                    repeat (go_quiet (fail); go_upto_region 12 with (fail))
                    go_cut [118] (fun v118 wc => ∃ (kq : Nat) (x118_29 : Bool), v118 = .bool x118_29 ∧ Aside0 (cohousinglaw21_PointsLots.j3 kq t399 t400 t405 t409 (t405.length : Int) x69_3 x118_29 = some r) ∧ Aside0 (kq ≤ k3) ∧ Aside0 (Kd.R (Kd.int .i64) 3 wc w.heap.size (fun k_ => some k_ ≠ ((.slice Ao28 t405.length co28) : Value).ownBlock ∧ some k_ ≠ (v410 : Value).ownBlock) v401 t400) ∧ Aside0 (Kd.R (Kd.int .i64) 3 wc w.heap.size (fun k_ => some k_ ≠ (v401 : Value).ownBlock ∧ some k_ ≠ (v410 : Value).ownBlock) (.slice Ao28 t405.length co28) t405) ∧ Aside0 (Kd.R (Kd.int .i64) 3 wc w.heap.size (fun k_ => some k_ ≠ (v401 : Value).ownBlock ∧ some k_ ≠ ((.slice Ao28 t405.length co28) : Value).ownBlock) v410 t409) ∧ Aside0 (wc.heap[gb398]? = some (.cells #[.int .i64 a0_0, .int .i64 a0_1, .int .i64 a0_2, .int .i64 a0_3] 23 (0, 0))) ∧ Aside0 (Below w.heap.size w wc))
                    case first =>
                      have H := HC30.out
                      clear HC30
                      by_cases c31 : 0 ≤ x69_3
                      · rw [if_pos c31] at H
                        have c31b0 : decide (0 ≤ x69_3) = true := decide_eq_true c31
                        clear c31
                        (first | rw [c31b0] | (simp only [i64_w, i32_w]; rw [c31b0]) | skip)
                        by_cases c32 : x69_3 < (t405.length : Int)
                        · rw [if_pos c32] at H
                          have c32b0 : decide (x69_3 < (t405.length : Int)) = true := decide_eq_true c32
                          clear c32
                          by_cases c33 : (rd t405 x69_3) < 0
                          · rw [if_pos c33] at H
                            have c33b0 : decide ((rd t405 x69_3) < 0) = true := decide_eq_true c33
                            clear c33
                            have H' := Aside0.mk H
                            clear H
                            have p413 : 0 ≤ (x69_3 : Int) := of_decide_eq_true qa_
                            have q413 : x69_3 < (t405.length : Int) := of_decide_eq_true qa_
                            obtain ⟨ad413, e413, hx413_0⟩ := Kd.at_int (Kd.R_reads' HO_14.out).2.2 x69_3 p413 q413
                            cases e413
                            replace p413 := eq_true p413
                            replace q413 := eq_true q413
                            go_wp2
                            repeat (go_quiet (fail); try go_wp2)
                            go_meet
                            case rel => exact ⟨_, (true), qs_, H', ⟨by have := HJ7.out; have := HJ17.out; have := HK3.out; first | omega | exact Nat.le_refl _⟩, ⟨by (with_reducible repeat (first | apply Kd.R_alloc | apply Kd.R_drewN | apply Kd.R_drew)); exact HO_12.out⟩, ⟨by (with_reducible repeat (first | apply Kd.R_alloc | apply Kd.R_drewN | apply Kd.R_drew)); exact HO_14.out⟩, ⟨by (with_reducible repeat (first | apply Kd.R_alloc | apply Kd.R_drewN | apply Kd.R_drew)); exact HO_16.out⟩, ⟨qk_ BK398⟩, ⟨qb_⟩⟩
                          · rw [if_neg c33] at H
                            have c33b0 : decide ((rd t405 x69_3) < 0) = false := decide_eq_false c33
                            clear c33
                            by_cases c34 : (rd t405 x69_3) ≥ (t400.length : Int)
                            · rw [if_pos c34] at H
                              have c34b0 : decide ((t400.length : Int) ≤ (rd t405 x69_3)) = true := decide_eq_true c34
                              clear c34
                              have H' := Aside0.mk H
                              clear H
                              have p413 : 0 ≤ (x69_3 : Int) := of_decide_eq_true qa_
                              have q413 : x69_3 < (t405.length : Int) := of_decide_eq_true qa_
                              obtain ⟨ad413, e413, hx413_0⟩ := Kd.at_int (Kd.R_reads' HO_14.out).2.2 x69_3 p413 q413
                              cases e413
                              replace p413 := eq_true p413
                              replace q413 := eq_true q413
                              have p414 : 0 ≤ (x69_3 : Int) := of_decide_eq_true qa_
                              have q414 : x69_3 < (t405.length : Int) := of_decide_eq_true qa_
                              obtain ⟨ad414, e414, hx414_0⟩ := Kd.at_int (Kd.R_reads' HO_14.out).2.2 x69_3 p414 q414
                              obtain rfl : ad413 = ad414 := (by injection e414)
                              replace p414 := eq_true p414
                              replace q414 := eq_true q414
                              obtain ⟨Ao35, co35, eo35⟩ := Kd.R_slice HO_12.out
                              subst eo35
                              go_wp2
                              repeat (go_quiet (fail); try go_wp2)
                              go_meet
                              case rel => exact ⟨_, (true), qs_, H', ⟨by have := HJ7.out; have := HJ17.out; have := HK3.out; first | omega | exact Nat.le_refl _⟩, ⟨by (with_reducible repeat (first | apply Kd.R_alloc | apply Kd.R_drewN | apply Kd.R_drew)); exact HO_12.out⟩, ⟨by (with_reducible repeat (first | apply Kd.R_alloc | apply Kd.R_drewN | apply Kd.R_drew)); exact HO_14.out⟩, ⟨by (with_reducible repeat (first | apply Kd.R_alloc | apply Kd.R_drewN | apply Kd.R_drew)); exact HO_16.out⟩, ⟨qk_ BK398⟩, ⟨qb_⟩⟩
                            · rw [if_neg c34] at H
                              have c34b0 : decide ((t400.length : Int) ≤ (rd t405 x69_3)) = false := decide_eq_false c34
                              clear c34
                              by_cases c36 : x69_3 < (t409.length : Int)
                              · rw [if_pos c36] at H
                                have c36b0 : decide (x69_3 < (t409.length : Int)) = true := decide_eq_true c36
                                clear c36
                                by_cases c37 : (rd t409 x69_3) < 0
                                · rw [if_pos c37] at H
                                  have c37b0 : decide ((rd t409 x69_3) < 0) = true := decide_eq_true c37
                                  clear c37
                                  have H' := Aside0.mk H
                                  clear H
                                  have p413 : 0 ≤ (x69_3 : Int) := of_decide_eq_true qa_
                                  have q413 : x69_3 < (t405.length : Int) := of_decide_eq_true qa_
                                  obtain ⟨ad413, e413, hx413_0⟩ := Kd.at_int (Kd.R_reads' HO_14.out).2.2 x69_3 p413 q413
                                  cases e413
                                  replace p413 := eq_true p413
                                  replace q413 := eq_true q413
                                  have p414 : 0 ≤ (x69_3 : Int) := of_decide_eq_true qa_
                                  have q414 : x69_3 < (t405.length : Int) := of_decide_eq_true qa_
                                  obtain ⟨ad414, e414, hx414_0⟩ := Kd.at_int (Kd.R_reads' HO_14.out).2.2 x69_3 p414 q414
                                  obtain rfl : ad413 = ad414 := (by injection e414)
                                  replace p414 := eq_true p414
                                  replace q414 := eq_true q414
                                  obtain ⟨Ao38, co38, eo38⟩ := Kd.R_slice HO_12.out
                                  subst eo38
                                  obtain ⟨Ao39, co39, eo39⟩ := Kd.R_slice HO_16.out
                                  subst eo39
                                  have p415 : 0 ≤ (x69_3 : Int) := of_decide_eq_true qa_
                                  have q415 : x69_3 < (t409.length : Int) := of_decide_eq_true qa_
                                  obtain ⟨ad415, e415, hx415_0⟩ := Kd.at_int (Kd.R_reads' HO_16.out).2.2 x69_3 p415 q415
                                  cases e415
                                  replace p415 := eq_true p415
                                  replace q415 := eq_true q415
                                  go_wp2
                                  repeat (go_quiet (fail); try go_wp2)
                                  go_meet
                                  case rel => exact ⟨_, (true), qs_, H', ⟨by have := HJ7.out; have := HJ17.out; have := HK3.out; first | omega | exact Nat.le_refl _⟩, ⟨by (with_reducible repeat (first | apply Kd.R_alloc | apply Kd.R_drewN | apply Kd.R_drew)); exact HO_12.out⟩, ⟨by (with_reducible repeat (first | apply Kd.R_alloc | apply Kd.R_drewN | apply Kd.R_drew)); exact HO_14.out⟩, ⟨by (with_reducible repeat (first | apply Kd.R_alloc | apply Kd.R_drewN | apply Kd.R_drew)); exact HO_16.out⟩, ⟨qk_ BK398⟩, ⟨qb_⟩⟩
                                · rw [if_neg c37] at H
                                  have c37b0 : decide ((rd t409 x69_3) < 0) = false := decide_eq_false c37
                                  clear c37
                                  by_cases c40 : (rd t409 x69_3) ≥ (t400.length : Int)
                                  · rw [if_pos c40] at H
                                    have c40b0 : decide ((t400.length : Int) ≤ (rd t409 x69_3)) = true := decide_eq_true c40
                                    clear c40
                                    have H' := Aside0.mk H
                                    clear H
                                    have p413 : 0 ≤ (x69_3 : Int) := of_decide_eq_true qa_
                                    have q413 : x69_3 < (t405.length : Int) := of_decide_eq_true qa_
                                    obtain ⟨ad413, e413, hx413_0⟩ := Kd.at_int (Kd.R_reads' HO_14.out).2.2 x69_3 p413 q413
                                    cases e413
                                    replace p413 := eq_true p413
                                    replace q413 := eq_true q413
                                    have p414 : 0 ≤ (x69_3 : Int) := of_decide_eq_true qa_
                                    have q414 : x69_3 < (t405.length : Int) := of_decide_eq_true qa_
                                    obtain ⟨ad414, e414, hx414_0⟩ := Kd.at_int (Kd.R_reads' HO_14.out).2.2 x69_3 p414 q414
                                    obtain rfl : ad413 = ad414 := (by injection e414)
                                    replace p414 := eq_true p414
                                    replace q414 := eq_true q414
                                    obtain ⟨Ao41, co41, eo41⟩ := Kd.R_slice HO_12.out
                                    subst eo41
                                    obtain ⟨Ao42, co42, eo42⟩ := Kd.R_slice HO_16.out
                                    subst eo42
                                    have p415 : 0 ≤ (x69_3 : Int) := of_decide_eq_true qa_
                                    have q415 : x69_3 < (t409.length : Int) := of_decide_eq_true qa_
                                    obtain ⟨ad415, e415, hx415_0⟩ := Kd.at_int (Kd.R_reads' HO_16.out).2.2 x69_3 p415 q415
                                    cases e415
                                    replace p415 := eq_true p415
                                    replace q415 := eq_true q415
                                    have p416 : 0 ≤ (x69_3 : Int) := of_decide_eq_true qa_
                                    have q416 : x69_3 < (t409.length : Int) := of_decide_eq_true qa_
                                    obtain ⟨ad416, e416, hx416_0⟩ := Kd.at_int (Kd.R_reads' HO_16.out).2.2 x69_3 p416 q416
                                    obtain rfl : ad415 = ad416 := (by injection e416)
                                    replace p416 := eq_true p416
                                    replace q416 := eq_true q416
                                    go_wp2
                                    repeat (go_quiet (fail); try go_wp2)
                                    go_meet
                                    case rel => exact ⟨_, (true), qs_, H', ⟨by have := HJ7.out; have := HJ17.out; have := HK3.out; first | omega | exact Nat.le_refl _⟩, ⟨by (with_reducible repeat (first | apply Kd.R_alloc | apply Kd.R_drewN | apply Kd.R_drew)); exact HO_12.out⟩, ⟨by (with_reducible repeat (first | apply Kd.R_alloc | apply Kd.R_drewN | apply Kd.R_drew)); exact HO_14.out⟩, ⟨by (with_reducible repeat (first | apply Kd.R_alloc | apply Kd.R_drewN | apply Kd.R_drew)); exact HO_16.out⟩, ⟨qk_ BK398⟩, ⟨qb_⟩⟩
                                  · rw [if_neg c40] at H
                                    have c40b0 : decide ((t400.length : Int) ≤ (rd t409 x69_3)) = false := decide_eq_false c40
                                    clear c40
                                    by_cases c43 : 0 ≤ (rd t405 x69_3)
                                    · rw [if_pos c43] at H
                                      have c43b0 : decide (0 ≤ (rd t405 x69_3)) = true := decide_eq_true c43
                                      clear c43
                                      by_cases c44 : (rd t405 x69_3) < (t400.length : Int)
                                      · rw [if_pos c44] at H
                                        have c44b0 : decide ((rd t405 x69_3) < (t400.length : Int)) = true := decide_eq_true c44
                                        clear c44
                                        by_cases c45 : 0 ≤ (rd t409 x69_3)
                                        · rw [if_pos c45] at H
                                          have c45b0 : decide (0 ≤ (rd t409 x69_3)) = true := decide_eq_true c45
                                          clear c45
                                          by_cases c46 : (rd t409 x69_3) < (t400.length : Int)
                                          · rw [if_pos c46] at H
                                            have c46b0 : decide ((rd t409 x69_3) < (t400.length : Int)) = true := decide_eq_true c46
                                            clear c46
                                            have H' := Aside0.mk H
                                            clear H
                                            have p413 : 0 ≤ (x69_3 : Int) := of_decide_eq_true qa_
                                            have q413 : x69_3 < (t405.length : Int) := of_decide_eq_true qa_
                                            obtain ⟨ad413, e413, hx413_0⟩ := Kd.at_int (Kd.R_reads' HO_14.out).2.2 x69_3 p413 q413
                                            cases e413
                                            replace p413 := eq_true p413
                                            replace q413 := eq_true q413
                                            have p414 : 0 ≤ (x69_3 : Int) := of_decide_eq_true qa_
                                            have q414 : x69_3 < (t405.length : Int) := of_decide_eq_true qa_
                                            obtain ⟨ad414, e414, hx414_0⟩ := Kd.at_int (Kd.R_reads' HO_14.out).2.2 x69_3 p414 q414
                                            obtain rfl : ad413 = ad414 := (by injection e414)
                                            replace p414 := eq_true p414
                                            replace q414 := eq_true q414
                                            obtain ⟨Ao47, co47, eo47⟩ := Kd.R_slice HO_12.out
                                            subst eo47
                                            obtain ⟨Ao48, co48, eo48⟩ := Kd.R_slice HO_16.out
                                            subst eo48
                                            have p415 : 0 ≤ (x69_3 : Int) := of_decide_eq_true qa_
                                            have q415 : x69_3 < (t409.length : Int) := of_decide_eq_true qa_
                                            obtain ⟨ad415, e415, hx415_0⟩ := Kd.at_int (Kd.R_reads' HO_16.out).2.2 x69_3 p415 q415
                                            cases e415
                                            replace p415 := eq_true p415
                                            replace q415 := eq_true q415
                                            have p416 : 0 ≤ (x69_3 : Int) := of_decide_eq_true qa_
                                            have q416 : x69_3 < (t409.length : Int) := of_decide_eq_true qa_
                                            obtain ⟨ad416, e416, hx416_0⟩ := Kd.at_int (Kd.R_reads' HO_16.out).2.2 x69_3 p416 q416
                                            obtain rfl : ad415 = ad416 := (by injection e416)
                                            replace p416 := eq_true p416
                                            replace q416 := eq_true q416
                                            have p417 : 0 ≤ (x69_3 : Int) := of_decide_eq_true qa_
                                            have q417 : x69_3 < (t405.length : Int) := of_decide_eq_true qa_
                                            obtain ⟨ad417, e417, hx417_0⟩ := Kd.at_int (Kd.R_reads' HO_14.out).2.2 x69_3 p417 q417
                                            obtain rfl : ad413 = ad417 := (by injection e417)
                                            replace p417 := eq_true p417
                                            replace q417 := eq_true q417
                                            have p418 : 0 ≤ ((rd t405 x69_3) : Int) := of_decide_eq_true qa_
                                            have q418 : (rd t405 x69_3) < (t400.length : Int) := of_decide_eq_true qa_
                                            obtain ⟨ad418, e418, hx418_0⟩ := Kd.at_int (Kd.R_reads' HO_12.out).2.2 (rd t405 x69_3) p418 q418
                                            cases e418
                                            replace p418 := eq_true p418
                                            replace q418 := eq_true q418
                                            have p419 : 0 ≤ (x69_3 : Int) := of_decide_eq_true qa_
                                            have q419 : x69_3 < (t409.length : Int) := of_decide_eq_true qa_
                                            obtain ⟨ad419, e419, hx419_0⟩ := Kd.at_int (Kd.R_reads' HO_16.out).2.2 x69_3 p419 q419
                                            obtain rfl : ad415 = ad419 := (by injection e419)
                                            replace p419 := eq_true p419
                                            replace q419 := eq_true q419
                                            have p420 : 0 ≤ ((rd t409 x69_3) : Int) := of_decide_eq_true qa_
                                            have q420 : (rd t409 x69_3) < (t400.length : Int) := of_decide_eq_true qa_
                                            obtain ⟨ad420, e420, hx420_0⟩ := Kd.at_int (Kd.R_reads' HO_12.out).2.2 (rd t409 x69_3) p420 q420
                                            obtain rfl : ad418 = ad420 := (by injection e420)
                                            replace p420 := eq_true p420
                                            replace q420 := eq_true q420
                                            go_wp2
                                            repeat (go_quiet (fail); try go_wp2)
                                            go_meet
                                            case rel => exact ⟨_, (((rd t400 (rd t405 x69_3)) != (rd t400 (rd t409 x69_3)))), qs_, H', ⟨by have := HJ7.out; have := HJ17.out; have := HK3.out; first | omega | exact Nat.le_refl _⟩, ⟨by (with_reducible repeat (first | apply Kd.R_alloc | apply Kd.R_drewN | apply Kd.R_drew)); exact HO_12.out⟩, ⟨by (with_reducible repeat (first | apply Kd.R_alloc | apply Kd.R_drewN | apply Kd.R_drew)); exact HO_14.out⟩, ⟨by (with_reducible repeat (first | apply Kd.R_alloc | apply Kd.R_drewN | apply Kd.R_drew)); exact HO_16.out⟩, ⟨qk_ BK398⟩, ⟨qb_⟩⟩
                                          · rw [if_neg c46] at H
                                            exact absurd H (by simp)
                                        · rw [if_neg c45] at H
                                          exact absurd H (by simp)
                                      · rw [if_neg c44] at H
                                        exact absurd H (by simp)
                                    · rw [if_neg c43] at H
                                      exact absurd H (by simp)
                              · rw [if_neg c36] at H
                                exact absurd H (by simp)
                        · rw [if_neg c32] at H
                          exact absurd H (by simp)
                      · rw [if_neg c31] at H
                        exact absurd H (by simp)
                    case rest =>
                      clear HC30
                      try clear c1
                      try clear c2
                      try clear p2
                      try clear c3
                      try clear c4
                      try clear p4
                      try clear q4
                      try clear hx4
                      try clear c8
                      try clear c13
                      try clear c15
                      try clear c23
                      try clear c23b0
                      try clear c23b1
                      try clear c24
                      try clear c24b0
                      try clear c24b1
                      try clear c27
                      try clear c29
                      try clear c29b0
                      try clear c31
                      try clear c31b0
                      try clear c32
                      try clear c32b0
                      try clear c33
                      try clear c33b0
                      try clear c34
                      try clear c34b0
                      try clear c36
                      try clear c36b0
                      try clear c37
                      try clear c37b0
                      try clear c40
                      try clear c40b0
                      try clear p41
                      try clear q41
                      try clear hx41
                      try clear p42
                      try clear q42
                      try clear hx42
                      try clear c43
                      try clear c43b0
                      try clear c44
                      try clear c44b0
                      try clear c45
                      try clear c45b0
                      try clear c46
                      try clear c46b0
                      try clear hcz11_0 hcz11_1 hcz11_2 hcz11_3
                      try clear hcz19_0 hcz19_1 hcz19_2 hcz19_3
                      try clear hcz21_0 hcz21_1 hcz21_2 hcz21_3
                      try clear hfz11_0 hfz11_1 hfz11_2 hfz11_3
                      try clear hfz19_0 hfz19_1 hfz19_2 hfz19_3
                      try clear hfz21_0 hfz21_1 hfz21_2 hfz21_3
                      try clear hx413_0
                      try clear hx414_0
                      try clear hx415_0
                      try clear hx416_0
                      try clear hx417_0
                      try clear hx418_0
                      try clear hx419_0
                      try clear hx420_0
                      try clear p2
                      try clear p413
                      try clear p414
                      try clear p415
                      try clear p416
                      try clear p417
                      try clear p418
                      try clear p419
                      try clear p420
                      try clear q413
                      try clear q414
                      try clear q415
                      try clear q416
                      try clear q417
                      try clear q418
                      try clear q419
                      try clear q420
                      obtain ⟨kq, x118_29, rfl, HA, HJ29, HO_12, HO_14, HO_16, BK398, HB⟩ := hcut
                      cases kq with
                      | zero => exact absurd HA.out (by simp [cohousinglaw21_PointsLots.j3])
                      | succ kj29 =>
                        have H := HA.out
                        clear HA
                        simp only [cohousinglaw21_PointsLots.j3] at H
                        by_cases c49 : x118_29 = true
                        · subst c49
                          have H1 : (some false) = some r := by rw [if_pos rfl] at H; exact H
                          clear H
                          have H := H1
                          clear H1
                          obtain rfl := Option.some.inj H
                          go_wp2
                          repeat (go_quiet (fail); try go_wp2)
                          go_ret
                          exact ⟨qx_, qb_⟩
                        · replace c49 := Bool.eq_false_iff.mpr c49
                          subst c49
                          have H1 : (cohousinglaw21_PointsLots.l0 kj29 t399 t400 t405 t409 (t405.length : Int) (wrap64 (x69_3 + 1))) = some r := by rw [if_neg (show ¬ (false = true) by decide)] at H; exact H
                          clear H
                          have H := H1
                          clear H1
                          have H' := Aside0.mk H
                          clear H
                          go_wp2
                          repeat (go_quiet (fail); try go_wp2)
                          go_roundg kj29
                          case measure => have := HJ7.out; have := HJ17.out; have := HK3.out; have := HJ29.out; omega
                          case rel => exact ⟨(wrap64 (x69_3 + 1)), qs_, H', ⟨by have := HJ7.out; have := HJ17.out; have := HK3.out; have := HJ29.out; omega⟩, ⟨by (with_reducible repeat (first | apply Kd.R_alloc | apply Kd.R_drewN | apply Kd.R_drew)); exact HO_12.out⟩, ⟨by (with_reducible repeat (first | apply Kd.R_alloc | apply Kd.R_drewN | apply Kd.R_drew)); exact HO_14.out⟩, ⟨by (with_reducible repeat (first | apply Kd.R_alloc | apply Kd.R_drewN | apply Kd.R_drew)); exact HO_16.out⟩, ⟨qk_ BK398⟩, ⟨qb_⟩⟩
                  · rw [if_neg c29] at H
                    have c29b0 : decide (x69_3 < (t405.length : Int)) = false := decide_eq_false c29
                    clear c29
                    obtain rfl := Option.some.inj H
                    go_wp2
                    repeat (go_quiet (fail); try go_wp2)
                    go_ret
                    exact ⟨qx_, qb_⟩

end Go.Proofs.YtfhmbfadbfnnaaaDoor.Px
