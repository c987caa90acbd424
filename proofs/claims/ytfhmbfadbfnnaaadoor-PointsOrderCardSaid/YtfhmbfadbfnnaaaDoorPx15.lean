/- Contracts of Go functions, written by a program of this session's own (wip/tools/myprint.py) out of the translation: each Go function does what the Lean function of its name says. Conditions: as each theorem states. -/
import Derived.Test.YtfhmbfadbfnnaaaDoorPx0
import Derived.Test.YtfhmbfadbfnnaaaDoorPx6
import Derived.Test.YtfhmbfadbfnnaaaDoorPx14
import Derived.Test.YtfhmbfadbfnnaaaDoorGHead
namespace Go.Proofs.YtfhmbfadbfnnaaaDoor.Px
open Go.Proofs.YtfhmbfadbfnnaaaDoor.Given
open Go.RowKit Go.Proofs.YtfhmbfadbfnnaaaDoorW.PrintWords Go.Proofs.YtfhmbfadbfnnaaaDoorW.PrintLast Go.Proofs.YtfhmbfadbfnnaaaDoorW.PrintMore
attribute [local go_sem] max2_int min2_int max_two min_two max_three min_three max_four min_four   -- for this text's walks alone
set_option linter.unusedVariables false
set_option linter.unusedSimpArgs false

/-! ### cohousinglaw21_PointsOrder: function 5 -/
mutual
def cohousinglaw21_PointsOrder.j0 : Nat → List (S25) → List Int → Bool → List Int → List Int → Bool → Option (Bool)
  | 0, _, _, _, _, _, _ => none
  | k + 1, x1, x3, x9, x10, x12, x46 => if x46 = true then (some false) else (cohousinglaw21_PointsOrder.l0 k x1 x3 x9 x10 x12 x12 (x12.length : Int) 0 ([] : List (Int × Bool)))
def cohousinglaw21_PointsOrder.l0 : Nat → List (S25) → List Int → Bool → List Int → List Int → List Int → Int → Int → List (Int × Bool) → Option (Bool)
  | 0, _, _, _, _, _, _, _, _, _ => none
  | k + 1, x1, x3, x9, x10, x12, x48, x49, x50, x313000 => if x50 < x49 then (if 0 ≤ x50 then (if x50 < (x48.length : Int) then (if (rd x48 x50) < 0 then (cohousinglaw21_PointsOrder.j2 k x1 x3 x9 x10 x12 x50 (rd x48 x50) x48 x49 x50 true x313000) else (if (rd x48 x50) ≥ (x1.length : Int) then (cohousinglaw21_PointsOrder.j2 k x1 x3 x9 x10 x12 x50 (rd x48 x50) x48 x49 x50 true x313000) else (cohousinglaw21_PointsOrder.j2 k x1 x3 x9 x10 x12 x50 (rd x48 x50) x48 x49 x50 (mgetB x313000 (rd x48 x50)) x313000))) else (none)) else (none)) else (some x9)
def cohousinglaw21_PointsOrder.j2 : Nat → List (S25) → List Int → Bool → List Int → List Int → Int → Int → List Int → Int → Int → Bool → List (Int × Bool) → Option (Bool)
  | 0, _, _, _, _, _, _, _, _, _, _, _, _ => none
  | k + 1, x1, x3, x9, x10, x12, x15, x16, x48, x49, x50, x67, x313000 => if x67 = true then (some false) else (if x15 = 0 then (cohousinglaw21_PointsOrder.l0 k x1 x3 x9 x10 x12 x48 x49 (wrap64 (x50 + 1)) (mput x313000 x16 true)) else (if 0 ≤ (wrap64 (x15 - 1)) then (if (wrap64 (x15 - 1)) < (x12.length : Int) then (if 0 ≤ (rd x12 (wrap64 (x15 - 1))) then (if (rd x12 (wrap64 (x15 - 1))) < (x10.length : Int) then (if 0 ≤ x16 then (if x16 < (x10.length : Int) then (if (rd x10 (rd x12 (wrap64 (x15 - 1)))) < (rd x10 x16) then (cohousinglaw21_PointsOrder.j3 k x1 x3 x9 x10 x12 x48 x49 x50 true (mput x313000 x16 true)) else (if (rd x10 (rd x12 (wrap64 (x15 - 1)))) = (rd x10 x16) then ((cohousinglaw21_at.f k x3 (wrap64 ((rd x12 (wrap64 (x15 - 1))) + 1))).bind fun t319 => ((cohousinglaw21_at.f k x3 (wrap64 (x16 + 1))).bind fun t320 => (cohousinglaw21_PointsOrder.j3 k x1 x3 x9 x10 x12 x48 x49 x50 (decide (t319 > t320)) (mput x313000 x16 true)))) else (cohousinglaw21_PointsOrder.j3 k x1 x3 x9 x10 x12 x48 x49 x50 false (mput x313000 x16 true)))) else (none)) else (none)) else (none)) else (none)) else (none)) else (none)))
def cohousinglaw21_PointsOrder.j3 : Nat → List (S25) → List Int → Bool → List Int → List Int → List Int → Int → Int → Bool → List (Int × Bool) → Option (Bool)
  | 0, _, _, _, _, _, _, _, _, _, _ => none
  | k + 1, x1, x3, x9, x10, x12, x48, x49, x50, x107, x313000 => if x107 = true then (some false) else (cohousinglaw21_PointsOrder.l0 k x1 x3 x9 x10 x12 x48 x49 (wrap64 (x50 + 1)) x313000)
end
def cohousinglaw21_PointsOrder.f (k : Nat) (a0_0 a0_1 a0_2 a0_3 : Int) (l1 : List (S25)) (a2 : Int) (l3 : List Int) : Option (Bool) := (cohousinglaw21_head.f k).bind fun t303 => ((cohousinglaw21_usable.f k a0_0 a0_1 a0_2 a0_3 l1 a2 l3).bind fun bt304 => (if bt304.2 = true then ((points_Order.f k a0_0 a0_1 a0_2 a0_3 l1 a2 l3).bind fun bt308 => (if bt308.2 = 0 then (cohousinglaw21_PointsOrder.j0 k l1 l3 t303 bt304.1 bt308.1 ((bt308.1.length : Int) != (l1.length : Int))) else (cohousinglaw21_PointsOrder.j0 k l1 l3 t303 bt304.1 bt308.1 true))) else (some t303)))
theorem cohousinglaw21_PointsOrder.mono_l : ∀ k, (∀ y0 y1 y2 y3 y4 y5, LeO (cohousinglaw21_PointsOrder.j0 k y0 y1 y2 y3 y4 y5) (cohousinglaw21_PointsOrder.j0 (k + 1) y0 y1 y2 y3 y4 y5)) ∧ (∀ y0 y1 y2 y3 y4 y5 y6 y7 y8, LeO (cohousinglaw21_PointsOrder.l0 k y0 y1 y2 y3 y4 y5 y6 y7 y8) (cohousinglaw21_PointsOrder.l0 (k + 1) y0 y1 y2 y3 y4 y5 y6 y7 y8)) ∧ (∀ y0 y1 y2 y3 y4 y5 y6 y7 y8 y9 y10 y11, LeO (cohousinglaw21_PointsOrder.j2 k y0 y1 y2 y3 y4 y5 y6 y7 y8 y9 y10 y11) (cohousinglaw21_PointsOrder.j2 (k + 1) y0 y1 y2 y3 y4 y5 y6 y7 y8 y9 y10 y11)) ∧ (∀ y0 y1 y2 y3 y4 y5 y6 y7 y8 y9, LeO (cohousinglaw21_PointsOrder.j3 k y0 y1 y2 y3 y4 y5 y6 y7 y8 y9) (cohousinglaw21_PointsOrder.j3 (k + 1) y0 y1 y2 y3 y4 y5 y6 y7 y8 y9))
  | 0 => ⟨fun _ _ _ _ _ _ r h => by simp [cohousinglaw21_PointsOrder.j0] at h, fun _ _ _ _ _ _ _ _ _ r h => by simp [cohousinglaw21_PointsOrder.l0] at h, fun _ _ _ _ _ _ _ _ _ _ _ _ r h => by simp [cohousinglaw21_PointsOrder.j2] at h, fun _ _ _ _ _ _ _ _ _ _ r h => by simp [cohousinglaw21_PointsOrder.j3] at h⟩
  | k + 1 => by
    obtain ⟨ih0, ih1, ih2, ih3⟩ := cohousinglaw21_PointsOrder.mono_l k
    refine ⟨?_, ?_, ?_, ?_⟩
    · intro y0 y1 y2 y3 y4 y5
      unfold cohousinglaw21_PointsOrder.j0
      with_reducible (repeat' first | apply ih0 | apply ih1 | apply ih2 | apply ih3 | apply cohousinglaw21_at.mono | apply cohousinglaw21_head.mono | apply cohousinglaw21_usable.mono | apply points_Order.mono | apply LeO.refl | apply LeO.none | apply LeO.ite | refine LeO.bind ?_ (fun _ => ?_))
    · intro y0 y1 y2 y3 y4 y5 y6 y7 y8
      unfold cohousinglaw21_PointsOrder.l0
      with_reducible (repeat' first | apply ih0 | apply ih1 | apply ih2 | apply ih3 | apply cohousinglaw21_at.mono | apply cohousinglaw21_head.mono | apply cohousinglaw21_usable.mono | apply points_Order.mono | apply LeO.refl | apply LeO.none | apply LeO.ite | refine LeO.bind ?_ (fun _ => ?_))
    · intro y0 y1 y2 y3 y4 y5 y6 y7 y8 y9 y10 y11
      unfold cohousinglaw21_PointsOrder.j2
      with_reducible (repeat' first | apply ih0 | apply ih1 | apply ih2 | apply ih3 | apply cohousinglaw21_at.mono | apply cohousinglaw21_head.mono | apply cohousinglaw21_usable.mono | apply points_Order.mono | apply LeO.refl | apply LeO.none | apply LeO.ite | refine LeO.bind ?_ (fun _ => ?_))
    · intro y0 y1 y2 y3 y4 y5 y6 y7 y8 y9
      unfold cohousinglaw21_PointsOrder.j3
      with_reducible (repeat' first | apply ih0 | apply ih1 | apply ih2 | apply ih3 | apply cohousinglaw21_at.mono | apply cohousinglaw21_head.mono | apply cohousinglaw21_usable.mono | apply points_Order.mono | apply LeO.refl | apply LeO.none | apply LeO.ite | refine LeO.bind ?_ (fun _ => ?_))
theorem cohousinglaw21_PointsOrder.mono : ∀ a0 a1 a2 a3 a4 a5 a6 k, LeO (cohousinglaw21_PointsOrder.f k a0 a1 a2 a3 a4 a5 a6) (cohousinglaw21_PointsOrder.f (k + 1) a0 a1 a2 a3 a4 a5 a6) := by
  intro a0 a1 a2 a3 a4 a5 a6 k
  obtain ⟨ih0, ih1, ih2, ih3⟩ := cohousinglaw21_PointsOrder.mono_l k
  unfold cohousinglaw21_PointsOrder.f
  with_reducible (repeat' first | apply ih0 | apply ih1 | apply ih2 | apply ih3 | apply cohousinglaw21_at.mono | apply cohousinglaw21_head.mono | apply cohousinglaw21_usable.mono | apply points_Order.mono | apply LeO.refl | apply LeO.none | apply LeO.ite | refine LeO.bind ?_ (fun _ => ?_))
def cohousinglaw21_PointsOrder.T17 : Bool × List (List Nat × List Nat) := (true, [([], []), ([], []), ([0, 1], [0, 1]), ([2], [2]), ([], []), ([], []), ([4, 5], [4, 5]), ([6], [6]), ([3, 7], [3, 7]), ([8], [8]), ([9], [9]), ([9], [9]), ([10, 11, 9], [9, 10, 11]), ([12, 9], [9, 12]), ([9], [9]), ([9], [9]), ([14, 15, 9], [9, 14, 15]), ([16, 9], [9, 16]), ([13, 17, 9], [9, 13, 17]), ([18, 9, 9], [9, 18]), ([19], [19]), ([19], [19]), ([21, 19], [19, 21]), ([20, 22, 19, 19], [19, 20, 22]), ([19], [19]), ([19], [19]), ([25, 19], [19, 25]), ([24, 26, 23, 19], [19, 24, 26]), ([23, 27, 19], [19, 23, 27]), ([19, 28, 9], [9, 19, 28]), ([9, 29], [9, 29])])
def cohousinglaw21_PointsOrder.B17 : List Nat := [0, 0, 3, 7, 0, 0, 48, 112, 255, 511, 1023, 1023, 4095, 8191, 1023, 1023, 50175, 115711, 262143, 524287, 1048575, 1048575, 3145727, 8388607, 1048575, 1048575, 34603007, 134217727, 268435455, 536870911, 1073741823]
theorem cohousinglaw21_PointsOrder.tab17 : rtab .any (opsOf Tryd.f5 17) = cohousinglaw21_PointsOrder.T17 := by kernel_rfl
theorem cohousinglaw21_PointsOrder.bits17 : waitsOk cohousinglaw21_PointsOrder.T17.2 cohousinglaw21_PointsOrder.B17 = true := by kernel_rfl
set_option maxHeartbeats 8000000 in
set_option maxRecDepth 100000 in
theorem cohousinglaw21_PointsOrder.calls (k : Nat) (a0_0 a0_1 a0_2 a0_3 : Int) (A1 : Option Addr) (c1 : Nat) (l1 : List (S25)) (a2 : Int) (A3 : Option Addr) (c3 : Nat) (l3 : List Int) (r : Bool) (w : World) (hr1 : Kd.C k25 w A1 l1.length l1) (hc1 : l1.length ≤ c1) (hr3 : Kd.C (Kd.int .i64) w A3 l3.length l3) (hc3 : l3.length ≤ c3) (HT : TabOK w) (h : cohousinglaw21_PointsOrder.f k a0_0 a0_1 a0_2 a0_3 l1 a2 l3 = some r) :
    Calls Tryd.prog 5 #[.agg #[.int .i64 a0_0, .int .i64 a0_1, .int .i64 a0_2, .int .i64 a0_3], .slice A1 l1.length c1, .int .i64 a2, .slice A3 l3.length c3] w fun e w' => e = .returned (.bool r) ∧ Below w.heap.size w w' := by
  have hu23 := Tryd.underlying23
  have HTA := Aside0.mk HT
  clear HT
  have HR1 := Aside0.mk hr1
  have HC1 := Aside0.mk hc1
  clear hr1 hc1
  have HR3 := Aside0.mk hr3
  have HC3 := Aside0.mk hc3
  clear hr3 hc3
  have HB := Aside0.mk (Below.refl w.heap.size w)
  have H : ((cohousinglaw21_head.f k).bind fun t303 => ((cohousinglaw21_usable.f k a0_0 a0_1 a0_2 a0_3 l1 a2 l3).bind fun bt304 => (if bt304.2 = true then ((points_Order.f k a0_0 a0_1 a0_2 a0_3 l1 a2 l3).bind fun bt308 => (if bt308.2 = 0 then (cohousinglaw21_PointsOrder.j0 k l1 l3 t303 bt304.1 bt308.1 ((bt308.1.length : Int) != (l1.length : Int))) else (cohousinglaw21_PointsOrder.j0 k l1 l3 t303 bt304.1 bt308.1 true))) else (some t303)))) = some r := h
  clear h
  replace H := Option.bind_eq_some_iff.mp H
  obtain ⟨t303, A50, H⟩ := H
  replace H : ((cohousinglaw21_usable.f k a0_0 a0_1 a0_2 a0_3 l1 a2 l3).bind fun bt304 => (if bt304.2 = true then ((points_Order.f k a0_0 a0_1 a0_2 a0_3 l1 a2 l3).bind fun bt308 => (if bt308.2 = 0 then (cohousinglaw21_PointsOrder.j0 k l1 l3 t303 bt304.1 bt308.1 ((bt308.1.length : Int) != (l1.length : Int))) else (cohousinglaw21_PointsOrder.j0 k l1 l3 t303 bt304.1 bt308.1 true))) else (some t303))) = some r := H
  have A5 := Aside0.mk A50
  clear A50
  replace H := Option.bind_eq_some_iff.mp H
  obtain ⟨⟨t304, t307⟩, A60, H⟩ := H
  replace H : (if t307 = true then ((points_Order.f k a0_0 a0_1 a0_2 a0_3 l1 a2 l3).bind fun bt308 => (if bt308.2 = 0 then (cohousinglaw21_PointsOrder.j0 k l1 l3 t303 t304 bt308.1 ((bt308.1.length : Int) != (l1.length : Int))) else (cohousinglaw21_PointsOrder.j0 k l1 l3 t303 t304 bt308.1 true))) else (some t303)) = some r := H
  have A6 := Aside0.mk A60
  clear A60
  by_cases c7 : t307 = true
  · subst c7
    have H1 : ((points_Order.f k a0_0 a0_1 a0_2 a0_3 l1 a2 l3).bind fun bt308 => (if bt308.2 = 0 then (cohousinglaw21_PointsOrder.j0 k l1 l3 t303 t304 bt308.1 ((bt308.1.length : Int) != (l1.length : Int))) else (cohousinglaw21_PointsOrder.j0 k l1 l3 t303 t304 bt308.1 true))) = some r := by rw [if_pos rfl] at H; exact H
    clear H
    have H := H1
    clear H1
    replace H := Option.bind_eq_some_iff.mp H
    obtain ⟨⟨t308, t311⟩, A80, H⟩ := H
    replace H : (if t311 = 0 then (cohousinglaw21_PointsOrder.j0 k l1 l3 t303 t304 t308 ((t308.length : Int) != (l1.length : Int))) else (cohousinglaw21_PointsOrder.j0 k l1 l3 t303 t304 t308 true)) = some r := H
    have A8 := Aside0.mk A80
    clear A80
    have HC9 := Aside0.mk H
    clear H
    go_enter Tryd.func5, Tryd.ntmps5
    go_upto_region 6 with (first | ((with_reducible refine gate_dst (N := 4) rfl ?_); (try (refine gate_guard (by rfl) ?_; dsimp only)); refine qev_ 4 #[.int .i64 a0_0, .int .i64 a0_1, .int .i64 a0_2, .int .i64 a0_3] 23 ?_; intro gb302 hg w10 hbox hb; have BK302 := Aside0.mk (hbox); have GW302 := qga_ hg; have GE302 := qga_ hg; replace HB := qbs_ hb; clear hb hbox hg) | ((with_reducible refine gate_callee (f := 10) rfl ?_); refine goesL_ (some 18) rfl rfl Tryd.func10 (by kernel_rfl) rfl #[] rfl ql_ ?_; (with_reducible refine (cohousinglaw21_head.calls k  t303 _ ?side1 A5.out).mono ?_); (case side1 => exact TabOK.below HTA.out qb_); rintro e w11 ⟨rfl, hb⟩; refine ⟨_, rfl, ?_⟩; replace BK302 := qkb_ BK302 hb; replace HB := qbs_ hb; (try clear hb); (try clear hb2); (try clear hk); (try clear hi); obtain ⟨hcz12_0, hcz12_1, hcz12_2, hcz12_3⟩ := qz4_ BK302; obtain ⟨hfz12_0, hfz12_1, hfz12_2, hfz12_3⟩ := qf4_ BK302) | ((with_reducible refine gate_callee (f := 17) rfl ?_); refine goesL_ (some 24) rfl rfl Tryd.func17 (by kernel_rfl) rfl #[.agg #[.int .i64 a0_0, .int .i64 a0_1, .int .i64 a0_2, .int .i64 a0_3], .slice A1 l1.length c1, .int .i64 a2, .slice A3 l3.length c3] rfl ql_ ?_; (with_reducible refine (cohousinglaw21_usable.calls k a0_0 a0_1 a0_2 a0_3 _ _ l1 a2 _ _ l3 t304 true _ ?side1 ?side2 ?side3 ?side4 ?side5 A6.out).mono ?_); (case side1 => exact qc_ HR1); (case side2 => exact HC1.out); (case side3 => exact qc_ HR3); (case side4 => exact HC3.out); (case side5 => exact TabOK.below HTA.out qb_); rintro e w13 ⟨v305, rfl, ho0, hb⟩; refine ⟨_, rfl, ?_⟩; have HO306 := Aside0.mk (Kd.R_lower ho0 (below_size qb_)); replace BK302 := qkb_ BK302 hb; replace HB := qbs_ hb; (try clear hb); (try clear hb2); (try clear hk); (try clear hi); (try clear ho0); obtain ⟨hcz14_0, hcz14_1, hcz14_2, hcz14_3⟩ := qz4_ BK302; obtain ⟨hfz14_0, hfz14_1, hfz14_2, hfz14_3⟩ := qf4_ BK302) | ((with_reducible refine gate_callee (f := 13) rfl ?_); refine goesL_ (some 35) rfl rfl Tryd.func13 (by kernel_rfl) rfl #[.agg #[.int .i64 a0_0, .int .i64 a0_1, .int .i64 a0_2, .int .i64 a0_3], .slice A1 l1.length c1, .int .i64 a2, .slice A3 l3.length c3] rfl ql_ ?_; (with_reducible refine (points_Order.calls k a0_0 a0_1 a0_2 a0_3 _ _ l1 a2 _ _ l3 t308 t311 _ ?side1 ?side2 ?side3 ?side4 ?side5 A8.out).mono ?_); (case side1 => exact qc_ HR1); (case side2 => exact HC1.out); (case side3 => exact qc_ HR3); (case side4 => exact HC3.out); (case side5 => exact TabOK.below HTA.out qb_); rintro e w15 ⟨v309, rfl, ho0, hb⟩; refine ⟨_, rfl, ?_⟩; have HO310 := Aside0.mk (Kd.R_lower (Kd.R_new' ho0 (Kd.R_lt (qr_ HO306))) (below_size qb_)); replace HO306 := qel_ HO306 ho0 hb; replace BK302 := qkb_ BK302 hb; replace HB := qbs_ hb; (try clear hb); (try clear hb2); (try clear hk); (try clear hi); (try clear ho0)))
    (try simp only [Act.put, List.setIfInBounds_toArray, List.set_cons_zero, List.set_cons_succ])
    go_cut [46] (fun v46 wc => ∃ (kq : Nat) (x46_8 : Bool), v46 = .bool x46_8 ∧ Aside0 (cohousinglaw21_PointsOrder.j0 kq l1 l3 t303 t304 t308 x46_8 = some r) ∧ Aside0 (kq ≤ k) ∧ Aside0 (Kd.R (Kd.int .i64) 3 wc w.heap.size (fun k_ => some k_ ≠ (v309 : Value).ownBlock) v305 t304) ∧ Aside0 (Kd.R (Kd.int .i64) 3 wc w.heap.size (fun k_ => some k_ ≠ (v305 : Value).ownBlock) v309 t308) ∧ Aside0 (wc.heap[gb302]? = some (.cells #[.int .i64 a0_0, .int .i64 a0_1, .int .i64 a0_2, .int .i64 a0_3] 23 (0, 0))) ∧ Aside0 (Below w.heap.size w wc))
    case first =>
      have H := HC9.out
      clear HC9
      by_cases c16 : t311 = 0
      · rw [if_pos c16] at H
        have c16b0 : (t311 == 0) = true := beq_iff_eq.mpr c16
        have c16b1 : (t311 != 0) = false := bne_eq_false_iff_eq.mpr c16
        clear c16
        (first | rw [c16b0] | (simp only [i64_w, i32_w]; rw [c16b0]) | skip)
        have H' := Aside0.mk H
        clear H
        obtain ⟨Ao17, co17, eo17⟩ := Kd.R_slice HO310.out
        subst eo17
        go_wp2
        go_meet
        case rel => exact ⟨_, (((t308.length : Int) != (l1.length : Int))), qs_, H', ⟨qo_⟩, ⟨by (with_reducible repeat (first | apply Kd.R_alloc | apply Kd.R_drewN | apply Kd.R_drew)); exact Kd.R_mono HO306.out (fun _ hk => hk.2)⟩, ⟨by (with_reducible repeat (first | apply Kd.R_alloc | apply Kd.R_drewN | apply Kd.R_drew)); exact Kd.R_mono HO310.out (fun _ hk => hk.2)⟩, ⟨qk_ BK302⟩, ⟨qb_⟩⟩
      · rw [if_neg c16] at H
        have c16b0 : (t311 == 0) = false := beq_eq_false_iff_ne.mpr c16
        have c16b1 : (t311 != 0) = true := bne_iff_ne.mpr c16
        (first | rw [c16b0] | (simp only [i64_w, i32_w]; rw [c16b0]) | skip)
        have H' := Aside0.mk H
        clear H
        go_wp2
        go_meet
        case rel => exact ⟨_, (true), qs_, H', ⟨qo_⟩, ⟨by (with_reducible repeat (first | apply Kd.R_alloc | apply Kd.R_drewN | apply Kd.R_drew)); exact Kd.R_mono HO306.out (fun _ hk => hk.2)⟩, ⟨by (with_reducible repeat (first | apply Kd.R_alloc | apply Kd.R_drewN | apply Kd.R_drew)); exact Kd.R_mono HO310.out (fun _ hk => hk.2)⟩, ⟨qk_ BK302⟩, ⟨qb_⟩⟩
    case rest =>
      clear HC9
      try clear c1
      try clear p2
      try clear c3
      try clear c5
      try clear c7
      try clear c10
      try clear c13
      try clear c16
      try clear c16b0
      try clear c16b1
      try clear c17
      try clear hcz12_0 hcz12_1 hcz12_2 hcz12_3
      try clear hcz14_0 hcz14_1 hcz14_2 hcz14_3
      try clear hfz12_0 hfz12_1 hfz12_2 hfz12_3
      try clear hfz14_0 hfz14_1 hfz14_2 hfz14_3
      obtain ⟨kq, x46_8, rfl, HA, HJ8, HO_10, HO_12, BK302, HB⟩ := hcut
      cases kq with
      | zero => exact absurd HA.out (by simp [cohousinglaw21_PointsOrder.j0])
      | succ kj8 =>
        have H := HA.out
        clear HA
        simp only [cohousinglaw21_PointsOrder.j0] at H
        by_cases c18 : x46_8 = true
        · subst c18
          have H1 : (some false) = some r := by rw [if_pos rfl] at H; exact H
          clear H
          have H := H1
          clear H1
          obtain rfl := Option.some.inj H
          go_wp2
          go_ret
          exact ⟨qx_, qb_⟩
        · replace c18 := Bool.eq_false_iff.mpr c18
          subst c18
          have H1 : (cohousinglaw21_PointsOrder.l0 kj8 l1 l3 t303 t304 t308 t308 (t308.length : Int) 0 ([] : List (Int × Bool))) = some r := by rw [if_neg (show ¬ (false = true) by decide)] at H; exact H
          clear H
          have H := H1
          clear H1
          have H' := Aside0.mk H
          clear H
          go_wp2_with (first | ((with_reducible refine gate_dst (N := 47) rfl ?_); (try (refine gate_guard (by rfl) ?_; dsimp only)); refine map_event (Value.bool) ?hg (N := 47) ?hd (T := 41) ?ho ?_; (case hg => rfl); (case hd => rfl); (case ho => rfl); intro gb312 hg w19 hbox hb; replace HO_10 := qrb_ HO_10 hb; replace HO_12 := qrb_ HO_12 hb; have BK312 := Aside0.mk (hbox); have GW312 := qga_ hg; have GE312 := qga_ hg; replace HB := qbs_ hb; have NB302_312 := Aside0.mk ((by rw [hg]; exact Nat.ne_of_lt (blk_lt (qk_ BK302)) : gb302 ≠ gb312)); have NB312_302 := Aside0.mk ((by rw [hg]; exact Nat.ne_of_gt (blk_lt (qk_ BK302)) : gb312 ≠ gb302)); replace BK302 := qkb_ BK302 hb; clear hb hbox hg; obtain ⟨Ao20, co20, eo20⟩ := Kd.R_slice HO_12.out; subst eo20))
          go_loopg [50] kj8 (fun kq v50 w' => ∃ (x50_2 : Int) (x313000_2 : List (Int × Bool)), v50 = .int .i64 x50_2 ∧ Aside0 (cohousinglaw21_PointsOrder.l0 kq l1 l3 t303 t304 t308 t308 (t308.length : Int) x50_2 x313000_2 = some r) ∧ Aside0 (kq ≤ kj8) ∧ Aside0 (Kd.R (Kd.int .i64) 3 w' w.heap.size (fun k_ => some k_ ≠ ((.slice Ao20 t308.length co20) : Value).ownBlock ∧ some k_ ≠ ((.slice Ao20 t308.length co20) : Value).ownBlock) v305 t304) ∧ Aside0 (Kd.R (Kd.int .i64) 3 w' w.heap.size (fun k_ => some k_ ≠ (v305 : Value).ownBlock) (.slice Ao20 t308.length co20) t308) ∧ Aside0 (Kd.R (Kd.int .i64) 3 w' w.heap.size (fun k_ => some k_ ≠ (v305 : Value).ownBlock) (.slice Ao20 t308.length co20) t308) ∧ Aside0 (w'.heap[gb302]? = some (.cells #[.int .i64 a0_0, .int .i64 a0_1, .int .i64 a0_2, .int .i64 a0_3] 23 (0, 0))) ∧ Aside0 (w'.heap[gb312]? = some (mapObj (Value.bool) x313000_2)) ∧ Aside0 (Below w.heap.size w w'))
          case atStart => exact ⟨(0), (([] : List (Int × Bool))), qs_, H', ⟨Nat.le_refl _⟩, ⟨by (with_reducible repeat (first | apply Kd.R_alloc | apply Kd.R_drewN | apply Kd.R_drew)); exact Kd.R_mono HO_10.out (fun _ hk => ⟨hk, hk⟩)⟩, ⟨by (with_reducible repeat (first | apply Kd.R_alloc | apply Kd.R_drewN | apply Kd.R_drew)); exact HO_12.out⟩, ⟨by (with_reducible repeat (first | apply Kd.R_alloc | apply Kd.R_drewN | apply Kd.R_drew)); exact HO_12.out⟩, ⟨qk_ BK302⟩, ⟨qk_ BK312⟩, ⟨qb_⟩⟩
          case round =>
            clear H'
            try clear c1
            try clear p2
            try clear c3
            try clear c5
            try clear c7
            try clear c10
            try clear c13
            try clear c16
            try clear c16b0
            try clear c16b1
            try clear c17
            try clear c18
            try clear hcz12_0 hcz12_1 hcz12_2 hcz12_3
            try clear hcz14_0 hcz14_1 hcz14_2 hcz14_3
            try clear hfz12_0 hfz12_1 hfz12_2 hfz12_3
            try clear hfz14_0 hfz14_1 hfz14_2 hfz14_3
            try clear p2
            obtain ⟨x50_2, x313000_2, rfl, HA, HK2, HO_10, HO_12, HO_48, BK302, BK312, HB⟩ := hrel
            cases gk with
            | zero => exact absurd HA.out (by simp [cohousinglaw21_PointsOrder.l0])
            | succ k2 =>
              have H := HA.out
              clear HA
              simp only [cohousinglaw21_PointsOrder.l0] at H
              by_cases c21 : x50_2 < (t308.length : Int)
              · rw [if_pos c21] at H
                have c21b0 : decide (x50_2 < (t308.length : Int)) = true := decide_eq_true c21
                clear c21
                by_cases c22 : 0 ≤ x50_2
                · rw [if_pos c22] at H
                  have c22b0 : decide (0 ≤ x50_2) = true := decide_eq_true c22
                  clear c22
                  by_cases c23 : x50_2 < (t308.length : Int)
                  · rw [if_pos c23] at H
                    have c23b0 : decide (x50_2 < (t308.length : Int)) = true := decide_eq_true c23
                    clear c23
                    have HC24 := Aside0.mk H
                    clear H
                    have p313 : 0 ≤ (x50_2 : Int) := of_decide_eq_true qa_
                    have q313 : x50_2 < (t308.length : Int) := of_decide_eq_true qa_
                    obtain ⟨ad313, e313, hx313_0⟩ := Kd.at_int (Kd.R_reads' HO_48.out).2.2 x50_2 p313 q313
                    cases e313
                    replace p313 := eq_true p313
                    replace q313 := eq_true q313
                    go_upto_region 12 with (fail)
                    go_cut [67] (fun v67 wc => ∃ (kq : Nat) (x67_23 : Bool), v67 = .bool x67_23 ∧ Aside0 (cohousinglaw21_PointsOrder.j2 kq l1 l3 t303 t304 t308 x50_2 (rd t308 x50_2) t308 (t308.length : Int) x50_2 x67_23 x313000_2 = some r) ∧ Aside0 (kq ≤ k2) ∧ Aside0 (Kd.R (Kd.int .i64) 3 wc w.heap.size (fun k_ => some k_ ≠ ((.slice (some ad313) t308.length co20) : Value).ownBlock ∧ some k_ ≠ ((.slice (some ad313) t308.length co20) : Value).ownBlock) v305 t304) ∧ Aside0 (Kd.R (Kd.int .i64) 3 wc w.heap.size (fun k_ => some k_ ≠ (v305 : Value).ownBlock) (.slice (some ad313) t308.length co20) t308) ∧ Aside0 (Kd.R (Kd.int .i64) 3 wc w.heap.size (fun k_ => some k_ ≠ (v305 : Value).ownBlock) (.slice (some ad313) t308.length co20) t308) ∧ Aside0 (wc.heap[gb302]? = some (.cells #[.int .i64 a0_0, .int .i64 a0_1, .int .i64 a0_2, .int .i64 a0_3] 23 (0, 0))) ∧ Aside0 (wc.heap[gb312]? = some (mapObj (Value.bool) x313000_2)) ∧ Aside0 (Below w.heap.size w wc))
                    case first =>
                      have H := HC24.out
                      clear HC24
                      by_cases c25 : (rd t308 x50_2) < 0
                      · rw [if_pos c25] at H
                        have c25b0 : decide ((rd t308 x50_2) < 0) = true := decide_eq_true c25
                        clear c25
                        (first | rw [c25b0] | (simp only [i64_w, i32_w]; rw [c25b0]) | skip)
                        have H' := Aside0.mk H
                        clear H
                        go_wp2
                        go_meet
                        case rel => exact ⟨_, (true), qs_, H', ⟨by have := HJ8.out; have := HK2.out; first | omega | exact Nat.le_refl _⟩, ⟨by (with_reducible repeat (first | apply Kd.R_alloc | apply Kd.R_drewN | apply Kd.R_drew)); exact HO_10.out⟩, ⟨by (with_reducible repeat (first | apply Kd.R_alloc | apply Kd.R_drewN | apply Kd.R_drew)); exact HO_12.out⟩, ⟨by (with_reducible repeat (first | apply Kd.R_alloc | apply Kd.R_drewN | apply Kd.R_drew)); exact HO_48.out⟩, ⟨qk_ BK302⟩, ⟨qk_ BK312⟩, ⟨qb_⟩⟩
                      · rw [if_neg c25] at H
                        have c25b0 : decide ((rd t308 x50_2) < 0) = false := decide_eq_false c25
                        clear c25
                        (first | rw [c25b0] | (simp only [i64_w, i32_w]; rw [c25b0]) | skip)
                        by_cases c26 : (rd t308 x50_2) ≥ (l1.length : Int)
                        · rw [if_pos c26] at H
                          have c26b0 : decide ((l1.length : Int) ≤ (rd t308 x50_2)) = true := decide_eq_true c26
                          clear c26
                          have H' := Aside0.mk H
                          clear H
                          go_wp2
                          go_meet
                          case rel => exact ⟨_, (true), qs_, H', ⟨by have := HJ8.out; have := HK2.out; first | omega | exact Nat.le_refl _⟩, ⟨by (with_reducible repeat (first | apply Kd.R_alloc | apply Kd.R_drewN | apply Kd.R_drew)); exact HO_10.out⟩, ⟨by (with_reducible repeat (first | apply Kd.R_alloc | apply Kd.R_drewN | apply Kd.R_drew)); exact HO_12.out⟩, ⟨by (with_reducible repeat (first | apply Kd.R_alloc | apply Kd.R_drewN | apply Kd.R_drew)); exact HO_48.out⟩, ⟨qk_ BK302⟩, ⟨qk_ BK312⟩, ⟨qb_⟩⟩
                        · rw [if_neg c26] at H
                          have c26b0 : decide ((l1.length : Int) ≤ (rd t308 x50_2)) = false := decide_eq_false c26
                          clear c26
                          have H' := Aside0.mk H
                          clear H
                          go_wp2_with (first | ((with_reducible refine gate_dst (N := 66) rfl ?_); (try (refine gate_guard (by rfl) ?_; dsimp only)); refine mlookB_event rfl (N := 66) rfl rfl (M := x313000_2) (k := rd t308 x50_2) Tryd.underlying41 Tryd.underlying3 (zero_bool _) (qk_ BK312) rfl ?hx ?_; (case hx => first | rfl | (go_simp; done) | (go_simp; rfl))))
                          go_meet
                          case rel => exact ⟨_, (mgetB x313000_2 (rd t308 x50_2)), qs_, H', ⟨by have := HJ8.out; have := HK2.out; first | omega | exact Nat.le_refl _⟩, ⟨by (with_reducible repeat (first | apply Kd.R_alloc | apply Kd.R_drewN | apply Kd.R_drew)); exact HO_10.out⟩, ⟨by (with_reducible repeat (first | apply Kd.R_alloc | apply Kd.R_drewN | apply Kd.R_drew)); exact HO_12.out⟩, ⟨by (with_reducible repeat (first | apply Kd.R_alloc | apply Kd.R_drewN | apply Kd.R_drew)); exact HO_48.out⟩, ⟨qk_ BK302⟩, ⟨qk_ BK312⟩, ⟨qb_⟩⟩
                    case rest =>
                      clear HC24
                      try clear c1
                      try clear c2
                      try clear p2
                      try clear c3
                      try clear p3
                      try clear q3
                      try clear hx3
                      try clear c5
                      try clear c7
                      try clear c10
                      try clear c13
                      try clear c16
                      try clear c16b0
                      try clear c16b1
                      try clear c17
                      try clear c18
                      try clear c21
                      try clear c21b0
                      try clear c22
                      try clear c22b0
                      try clear c23
                      try clear c23b0
                      try clear c25
                      try clear c25b0
                      try clear c26
                      try clear c26b0
                      try clear hcz12_0 hcz12_1 hcz12_2 hcz12_3
                      try clear hcz14_0 hcz14_1 hcz14_2 hcz14_3
                      try clear hfz12_0 hfz12_1 hfz12_2 hfz12_3
                      try clear hfz14_0 hfz14_1 hfz14_2 hfz14_3
                      try clear hx313_0
                      try clear p2
                      try clear p313
                      try clear q313
                      obtain ⟨kq, x67_23, rfl, HA, HJ23, HO_10, HO_12, HO_48, BK302, BK312, HB⟩ := hcut
                      cases kq with
                      | zero => exact absurd HA.out (by simp [cohousinglaw21_PointsOrder.j2])
                      | succ kj23 =>
                        have H := HA.out
                        clear HA
                        simp only [cohousinglaw21_PointsOrder.j2] at H
                        by_cases c27 : x67_23 = true
                        · subst c27
                          have H1 : (some false) = some r := by rw [if_pos rfl] at H; exact H
                          clear H
                          have H := H1
                          clear H1
                          obtain rfl := Option.some.inj H
                          go_wp2
                          go_ret
                          exact ⟨qx_, qb_⟩
                        · replace c27 := Bool.eq_false_iff.mpr c27
                          subst c27
                          have H1 : (if x50_2 = 0 then (cohousinglaw21_PointsOrder.l0 kj23 l1 l3 t303 t304 t308 t308 (t308.length : Int) (wrap64 (x50_2 + 1)) (mput x313000_2 (rd t308 x50_2) true)) else (if 0 ≤ (wrap64 (x50_2 - 1)) then (if (wrap64 (x50_2 - 1)) < (t308.length : Int) then (if 0 ≤ (rd t308 (wrap64 (x50_2 - 1))) then (if (rd t308 (wrap64 (x50_2 - 1))) < (t304.length : Int) then (if 0 ≤ (rd t308 x50_2) then (if (rd t308 x50_2) < (t304.length : Int) then (if (rd t304 (rd t308 (wrap64 (x50_2 - 1)))) < (rd t304 (rd t308 x50_2)) then (cohousinglaw21_PointsOrder.j3 kj23 l1 l3 t303 t304 t308 t308 (t308.length : Int) x50_2 true (mput x313000_2 (rd t308 x50_2) true)) else (if (rd t304 (rd t308 (wrap64 (x50_2 - 1)))) = (rd t304 (rd t308 x50_2)) then ((cohousinglaw21_at.f kj23 l3 (wrap64 ((rd t308 (wrap64 (x50_2 - 1))) + 1))).bind fun t319 => ((cohousinglaw21_at.f kj23 l3 (wrap64 ((rd t308 x50_2) + 1))).bind fun t320 => (cohousinglaw21_PointsOrder.j3 kj23 l1 l3 t303 t304 t308 t308 (t308.length : Int) x50_2 (decide (t319 > t320)) (mput x313000_2 (rd t308 x50_2) true)))) else (cohousinglaw21_PointsOrder.j3 kj23 l1 l3 t303 t304 t308 t308 (t308.length : Int) x50_2 false (mput x313000_2 (rd t308 x50_2) true)))) else (none)) else (none)) else (none)) else (none)) else (none)) else (none))) = some r := by rw [if_neg (show ¬ (false = true) by decide)] at H; exact H
                          clear H
                          have H := H1
                          clear H1
                          by_cases c28 : x50_2 = 0
                          · rw [if_pos c28] at H
                            have c28b0 : (x50_2 == 0) = true := beq_iff_eq.mpr c28
                            have c28b1 : (x50_2 != 0) = false := bne_eq_false_iff_eq.mpr c28
                            clear c28
                            have H' := Aside0.mk H
                            clear H
                            go_wp2_with (first | ((with_reducible refine gate_mput (t := 41) (p := 68) rfl ?_); refine mput_event rfl rfl (M := x313000_2) (k := (rd t308 x50_2)) (y := true) Tryd.underlying41 Tryd.underlying3 (qk_ BK312) rfl ?hx ?hv ?_; (case hx => first | rfl | (go_simp; done) | (go_simp; rfl)); (case hv => first | rfl | (go_simp; done) | (go_simp; rfl)); intro w29 hM hg; replace HO_10 := Aside0.mk (R_mapped (qr_ HO_10) (qk_ BK312) hg); replace HO_12 := Aside0.mk (R_mapped (qr_ HO_12) (qk_ BK312) hg); replace HO_48 := Aside0.mk (R_mapped (qr_ HO_48) (qk_ BK312) hg); replace BK302 := Aside0.mk (blk_grown (g := gb302) (o := .cells #[.int .i64 a0_0, .int .i64 a0_1, .int .i64 a0_2, .int .i64 a0_3] 23 (0, 0)) (qk_ BK302) hg (fun h_ => NB302_312.out (Option.some.inj h_))); replace BK312 := Aside0.mk (hM); replace HB := Aside0.mk (below_mapped qb_ hg GE312.out); clear hg hM))
                            go_roundg kj23
                            case measure => have := HJ8.out; have := HK2.out; have := HJ23.out; omega
                            case rel => exact ⟨(wrap64 (x50_2 + 1)), (mput x313000_2 (rd t308 x50_2) true), qs_, H', ⟨by have := HJ8.out; have := HK2.out; have := HJ23.out; omega⟩, ⟨by (with_reducible repeat (first | apply Kd.R_alloc | apply Kd.R_drewN | apply Kd.R_drew)); exact HO_10.out⟩, ⟨by (with_reducible repeat (first | apply Kd.R_alloc | apply Kd.R_drewN | apply Kd.R_drew)); exact HO_12.out⟩, ⟨by (with_reducible repeat (first | apply Kd.R_alloc | apply Kd.R_drewN | apply Kd.R_drew)); exact HO_48.out⟩, ⟨qk_ BK302⟩, ⟨qk_ BK312⟩, ⟨qb_⟩⟩
                          · rw [if_neg c28] at H
                            have c28b0 : (x50_2 == 0) = false := beq_eq_false_iff_ne.mpr c28
                            have c28b1 : (x50_2 != 0) = true := bne_iff_ne.mpr c28
                            obtain ⟨ji30, hji30⟩ : ∃ j_ : Int, (wrap64 (x50_2 - 1)) = j_ := ⟨_, rfl⟩
                            replace H : (if 0 ≤ (ji30) then (if (ji30) < (t308.length : Int) then (if 0 ≤ (rd t308 (ji30)) then (if (rd t308 (ji30)) < (t304.length : Int) then (if 0 ≤ (rd t308 x50_2) then (if (rd t308 x50_2) < (t304.length : Int) then (if (rd t304 (rd t308 (ji30))) < (rd t304 (rd t308 x50_2)) then (cohousinglaw21_PointsOrder.j3 kj23 l1 l3 t303 t304 t308 t308 (t308.length : Int) x50_2 true (mput x313000_2 (rd t308 x50_2) true)) else (if (rd t304 (rd t308 (ji30))) = (rd t304 (rd t308 x50_2)) then ((cohousinglaw21_at.f kj23 l3 (wrap64 ((rd t308 (ji30)) + 1))).bind fun t319 => ((cohousinglaw21_at.f kj23 l3 (wrap64 ((rd t308 x50_2) + 1))).bind fun t320 => (cohousinglaw21_PointsOrder.j3 kj23 l1 l3 t303 t304 t308 t308 (t308.length : Int) x50_2 (decide (t319 > t320)) (mput x313000_2 (rd t308 x50_2) true)))) else (cohousinglaw21_PointsOrder.j3 kj23 l1 l3 t303 t304 t308 t308 (t308.length : Int) x50_2 false (mput x313000_2 (rd t308 x50_2) true)))) else (none)) else (none)) else (none)) else (none)) else (none)) else (none)) = some r := by first | (rw [hji30] at H; exact H) | (simp only [hji30] at H ⊢; exact H)
                            have hji30w : (IntKind.i64.wrap (x50_2 - 1)) = ji30 := (i64_w _).trans hji30
                            by_cases c31 : 0 ≤ (ji30)
                            · rw [if_pos c31] at H
                              have c31b0 : decide (0 ≤ (ji30)) = true := decide_eq_true c31
                              clear c31
                              by_cases c32 : (ji30) < (t308.length : Int)
                              · rw [if_pos c32] at H
                                have c32b0 : decide ((ji30) < (t308.length : Int)) = true := decide_eq_true c32
                                clear c32
                                have HC33 := Aside0.mk H
                                clear H
                                go_upto_region 17 with (first | ((with_reducible refine gate_mput (t := 41) (p := 68) rfl ?_); refine mput_event rfl rfl (M := x313000_2) (k := (rd t308 x50_2)) (y := true) Tryd.underlying41 Tryd.underlying3 (qk_ BK312) rfl ?hx ?hv ?_; (case hx => first | rfl | (go_simp; done) | (go_simp; rfl)); (case hv => first | rfl | (go_simp; done) | (go_simp; rfl)); intro w34 hM hg; replace HO_10 := Aside0.mk (R_mapped (qr_ HO_10) (qk_ BK312) hg); replace HO_12 := Aside0.mk (R_mapped (qr_ HO_12) (qk_ BK312) hg); replace HO_48 := Aside0.mk (R_mapped (qr_ HO_48) (qk_ BK312) hg); replace BK302 := Aside0.mk (blk_grown (g := gb302) (o := .cells #[.int .i64 a0_0, .int .i64 a0_1, .int .i64 a0_2, .int .i64 a0_3] 23 (0, 0)) (qk_ BK302) hg (fun h_ => NB302_312.out (Option.some.inj h_))); replace BK312 := Aside0.mk (hM); replace HB := Aside0.mk (below_mapped qb_ hg GE312.out); clear hg hM; have p314 : 0 ≤ ((ji30) : Int) := of_decide_eq_true qa_; have q314 : (ji30) < (t308.length : Int) := of_decide_eq_true qa_; obtain ⟨ad314, e314, hx314_0⟩ := Kd.at_int (Kd.R_reads' HO_12.out).2.2 (ji30) p314 q314; obtain rfl : ad313 = ad314 := (by injection e314); replace p314 := eq_true p314; replace q314 := eq_true q314))
                                (try simp only [Act.put, List.setIfInBounds_toArray, List.set_cons_zero, List.set_cons_succ])
                                go_cut [107] (fun v107 wc => ∃ (kq : Nat) (x107_32 : Bool), v107 = .bool x107_32 ∧ Aside0 (cohousinglaw21_PointsOrder.j3 kq l1 l3 t303 t304 t308 t308 (t308.length : Int) x50_2 x107_32 (mput x313000_2 (rd t308 x50_2) true) = some r) ∧ Aside0 (kq ≤ kj23) ∧ Aside0 (Kd.R (Kd.int .i64) 3 wc w.heap.size (fun k_ => some k_ ≠ ((.slice (some ad313) t308.length co20) : Value).ownBlock ∧ some k_ ≠ ((.slice (some ad313) t308.length co20) : Value).ownBlock) v305 t304) ∧ Aside0 (Kd.R (Kd.int .i64) 3 wc w.heap.size (fun k_ => some k_ ≠ (v305 : Value).ownBlock) (.slice (some ad313) t308.length co20) t308) ∧ Aside0 (Kd.R (Kd.int .i64) 3 wc w.heap.size (fun k_ => some k_ ≠ (v305 : Value).ownBlock) (.slice (some ad313) t308.length co20) t308) ∧ Aside0 (wc.heap[gb302]? = some (.cells #[.int .i64 a0_0, .int .i64 a0_1, .int .i64 a0_2, .int .i64 a0_3] 23 (0, 0))) ∧ Aside0 (wc.heap[gb312]? = some (mapObj (Value.bool) (mput x313000_2 (rd t308 x50_2) true))) ∧ Aside0 (Below w.heap.size w wc))
                                case first =>
                                  have H := HC33.out
                                  clear HC33
                                  by_cases c35 : 0 ≤ (rd t308 (ji30))
                                  · rw [if_pos c35] at H
                                    have c35b0 : decide (0 ≤ (rd t308 (ji30))) = true := decide_eq_true c35
                                    clear c35
                                    (first | rw [c35b0] | (simp only [i64_w, i32_w]; rw [c35b0]) | skip)
                                    by_cases c36 : (rd t308 (ji30)) < (t304.length : Int)
                                    · rw [if_pos c36] at H
                                      have c36b0 : decide ((rd t308 (ji30)) < (t304.length : Int)) = true := decide_eq_true c36
                                      clear c36
                                      by_cases c37 : 0 ≤ (rd t308 x50_2)
                                      · rw [if_pos c37] at H
                                        have c37b0 : decide (0 ≤ (rd t308 x50_2)) = true := decide_eq_true c37
                                        clear c37
                                        by_cases c38 : (rd t308 x50_2) < (t304.length : Int)
                                        · rw [if_pos c38] at H
                                          have c38b0 : decide ((rd t308 x50_2) < (t304.length : Int)) = true := decide_eq_true c38
                                          clear c38
                                          by_cases c39 : (rd t304 (rd t308 (ji30))) < (rd t304 (rd t308 x50_2))
                                          · rw [if_pos c39] at H
                                            have c39b0 : decide ((rd t304 (rd t308 (ji30))) < (rd t304 (rd t308 x50_2))) = true := decide_eq_true c39
                                            clear c39
                                            have H' := Aside0.mk H
                                            clear H
                                            try go_wp2
                                            replace HO_10 := Aside0.mk (Kd.R_drew HO_10.out)
                                            replace HO_12 := Aside0.mk (Kd.R_drew HO_12.out)
                                            replace HO_48 := Aside0.mk (Kd.R_drew HO_48.out)
                                            replace BK302 := Aside0.mk (blk_drew BK302.out)
                                            replace BK312 := Aside0.mk (blk_drew BK312.out)
                                            replace HB := Aside0.mk (below_drew1 HB.out)
                                            obtain ⟨Ao41, co41, eo41⟩ := Kd.R_slice HO_10.out
                                            (first | subst eo41 | (injection eo41 with f1_ f2_ f3_; have f4_ := f1_.symm; have f5_ := f3_.symm; clear f1_ f2_ f3_; subst f4_; subst f5_))
                                            have p315 : 0 ≤ ((rd t308 (ji30)) : Int) := of_decide_eq_true qa_
                                            have q315 : (rd t308 (ji30)) < (t304.length : Int) := of_decide_eq_true qa_
                                            obtain ⟨ad315, e315, hx315_0⟩ := Kd.at_int (Kd.R_reads' HO_10.out).2.2 (rd t308 (ji30)) p315 q315
                                            cases e315
                                            replace p315 := eq_true p315
                                            replace q315 := eq_true q315
                                            have p316 : 0 ≤ ((rd t308 x50_2) : Int) := of_decide_eq_true qa_
                                            have q316 : (rd t308 x50_2) < (t304.length : Int) := of_decide_eq_true qa_
                                            obtain ⟨ad316, e316, hx316_0⟩ := Kd.at_int (Kd.R_reads' HO_10.out).2.2 (rd t308 x50_2) p316 q316
                                            obtain rfl : ad315 = ad316 := (by injection e316)
                                            replace p316 := eq_true p316
                                            replace q316 := eq_true q316
                                            refine start_ (n := 31) (S := fun w' => w'.cell? (ad315.add ((rd t308 (ji30))).toNat) = some (.int .i64 (rd t304 (rd t308 (ji30)))) ∧ w'.cell? (ad315.add ((rd t308 x50_2)).toNat) = some (.int .i64 (rd t304 (rd t308 x50_2)))) (ds := []) #[i_,i_,i_,i_,i_,i_,i_,i_,i_,i_,i_,i_,i_,i_,i_,i_,i_,i_,i_,i_,i_,i_,i_,i_,i_,i_,i_,i_,i_,i_,i_] (by kernel_rfl) rfl rfl ⟨hx315_0, hx316_0⟩ (fun hHeld => ?_); refine with_tabW cohousinglaw21_PointsOrder.tab17 cohousinglaw21_PointsOrder.bits17 (fun HT_ HW_ => ?_)
                                            generalize w34.drew = w40 at HO_10 HO_12 HO_48 BK302 BK312 HB hx315_0 hx316_0 hHeld ⊢
                                            refine qpu_ 0 (some 77) #[o_,i_,i_,i_,i_,i_,i_,i_,i_,i_,i_,i_,i_,i_,i_,i_,i_,i_,i_,i_,i_,i_,i_,i_,i_,i_,i_,i_,i_,i_,i_] ?_
                                            refine qpu_ 1 (some 78) #[o_,o_,i_,i_,i_,i_,i_,i_,i_,i_,i_,i_,i_,i_,i_,i_,i_,i_,i_,i_,i_,i_,i_,i_,i_,i_,i_,i_,i_,i_,i_] ?_
                                            refine qpu_ 2 (some 79) #[o_,o_,o_,i_,i_,i_,i_,i_,i_,i_,i_,i_,i_,i_,i_,i_,i_,i_,i_,i_,i_,i_,i_,i_,i_,i_,i_,i_,i_,i_,i_] ?_
                                            refine qpu_ 4 (some 81) #[o_,o_,o_,i_,o_,i_,i_,i_,i_,i_,i_,i_,i_,i_,i_,i_,i_,i_,i_,i_,i_,i_,i_,i_,i_,i_,i_,i_,i_,i_,i_] ?_
                                            refine qpu_ 5 (some 82) #[o_,o_,o_,i_,o_,o_,i_,i_,i_,i_,i_,i_,i_,i_,i_,i_,i_,i_,i_,i_,i_,i_,i_,i_,i_,i_,i_,i_,i_,i_,i_] ?_
                                            refine qpu_ 6 (some 83) #[o_,o_,o_,i_,o_,o_,o_,i_,i_,i_,i_,i_,i_,i_,i_,i_,i_,i_,i_,i_,i_,i_,i_,i_,i_,i_,i_,i_,i_,i_,i_] ?_
                                            refine take_ (i := 3) (N := some 80) (v := ?_) (a' := ?_) #[o_,o_,o_,o_,o_,o_,o_,i_,i_,i_,i_,i_,i_,i_,i_,i_,i_,i_,i_,i_,i_,i_,i_,i_,i_,i_,i_,i_,i_,i_,i_] rfl rfl (take_ofW HT_.out HW_.out (by kernel_rfl)) (fun _ _ _ h => h) (Or.inl ⟨by rfl, ?_⟩) hHeld ?_ ?_
                                            rotate_left
                                            · rintro w' ⟨s0, s1⟩
                                              go_simp
                                              with_reducible rfl
                                            rotate_left
                                            · exact qp_
                                            refine take_ (i := 7) (N := some 84) (v := ?_) (a' := ?_) #[o_,o_,o_,o_,o_,o_,o_,o_,i_,i_,i_,i_,i_,i_,i_,i_,i_,i_,i_,i_,i_,i_,i_,i_,i_,i_,i_,i_,i_,i_,i_] rfl rfl (take_ofW HT_.out HW_.out (by kernel_rfl)) (fun _ _ _ h => h) (Or.inl ⟨by rfl, ?_⟩) hHeld ?_ ?_
                                            rotate_left
                                            · rintro w' ⟨s0, s1⟩
                                              go_simp
                                              with_reducible rfl
                                            rotate_left
                                            · exact qp_
                                            refine qpu_ 8 (some 85) #[o_,o_,o_,o_,o_,o_,o_,o_,o_,i_,i_,i_,i_,i_,i_,i_,i_,i_,i_,i_,i_,i_,i_,i_,i_,i_,i_,i_,i_,i_,i_] ?_
                                            refine qpu_ 9 (some 86) #[o_,o_,o_,o_,o_,o_,o_,o_,o_,o_,i_,i_,i_,i_,i_,i_,i_,i_,i_,i_,i_,i_,i_,i_,i_,i_,i_,i_,i_,i_,i_] ?_
                                            refine qpv_ 10 (some 87) #[o_,o_,o_,o_,o_,o_,o_,o_,o_,o_,o_,i_,i_,i_,i_,i_,i_,i_,i_,i_,i_,i_,i_,i_,i_,i_,i_,i_,i_,i_,i_] ?_
                                            refine qpv_ 11 (some 88) #[o_,o_,o_,o_,o_,o_,o_,o_,o_,o_,o_,o_,i_,i_,i_,i_,i_,i_,i_,i_,i_,i_,i_,i_,i_,i_,i_,i_,i_,i_,i_] ?_
                                            refine qpv_ 12 (some 89) #[o_,o_,o_,o_,o_,o_,o_,o_,o_,o_,o_,o_,o_,i_,i_,i_,i_,i_,i_,i_,i_,i_,i_,i_,i_,i_,i_,i_,i_,i_,i_] ?_
                                            refine qpv_ 13 (some 90) #[o_,o_,o_,o_,o_,o_,o_,o_,o_,o_,o_,o_,o_,o_,i_,i_,i_,i_,i_,i_,i_,i_,i_,i_,i_,i_,i_,i_,i_,i_,i_] ?_
                                            refine qpv_ 14 (some 91) #[o_,o_,o_,o_,o_,o_,o_,o_,o_,o_,o_,o_,o_,o_,o_,i_,i_,i_,i_,i_,i_,i_,i_,i_,i_,i_,i_,i_,i_,i_,i_] ?_
                                            refine qpv_ 15 (some 92) #[o_,o_,o_,o_,o_,o_,o_,o_,o_,o_,o_,o_,o_,o_,o_,o_,i_,i_,i_,i_,i_,i_,i_,i_,i_,i_,i_,i_,i_,i_,i_] ?_
                                            refine qpv_ 16 (some 93) #[o_,o_,o_,o_,o_,o_,o_,o_,o_,o_,o_,o_,o_,o_,o_,o_,o_,i_,i_,i_,i_,i_,i_,i_,i_,i_,i_,i_,i_,i_,i_] ?_
                                            refine qpv_ 17 (some 94) #[o_,o_,o_,o_,o_,o_,o_,o_,o_,o_,o_,o_,o_,o_,o_,o_,o_,o_,i_,i_,i_,i_,i_,i_,i_,i_,i_,i_,i_,i_,i_] ?_
                                            refine qpv_ 18 (some 95) #[o_,o_,o_,o_,o_,o_,o_,o_,o_,o_,o_,o_,o_,o_,o_,o_,o_,o_,o_,i_,i_,i_,i_,i_,i_,i_,i_,i_,i_,i_,i_] ?_
                                            refine qpv_ 19 (some 96) #[o_,o_,o_,o_,o_,o_,o_,o_,o_,o_,o_,o_,o_,o_,o_,o_,o_,o_,o_,o_,i_,i_,i_,i_,i_,i_,i_,i_,i_,i_,i_] ?_
                                            refine qpv_ 20 (some 97) #[o_,o_,o_,o_,o_,o_,o_,o_,o_,o_,o_,o_,o_,o_,o_,o_,o_,o_,o_,o_,o_,i_,i_,i_,i_,i_,i_,i_,i_,i_,i_] ?_
                                            refine qpv_ 21 (some 98) #[o_,o_,o_,o_,o_,o_,o_,o_,o_,o_,o_,o_,o_,o_,o_,o_,o_,o_,o_,o_,o_,o_,i_,i_,i_,i_,i_,i_,i_,i_,i_] ?_
                                            refine qpv_ 22 (some 99) #[o_,o_,o_,o_,o_,o_,o_,o_,o_,o_,o_,o_,o_,o_,o_,o_,o_,o_,o_,o_,o_,o_,o_,i_,i_,i_,i_,i_,i_,i_,i_] ?_
                                            refine qpv_ 23 (some 100) #[o_,o_,o_,o_,o_,o_,o_,o_,o_,o_,o_,o_,o_,o_,o_,o_,o_,o_,o_,o_,o_,o_,o_,o_,i_,i_,i_,i_,i_,i_,i_] ?_
                                            refine qpv_ 24 (some 101) #[o_,o_,o_,o_,o_,o_,o_,o_,o_,o_,o_,o_,o_,o_,o_,o_,o_,o_,o_,o_,o_,o_,o_,o_,o_,i_,i_,i_,i_,i_,i_] ?_
                                            refine qpv_ 25 (some 102) #[o_,o_,o_,o_,o_,o_,o_,o_,o_,o_,o_,o_,o_,o_,o_,o_,o_,o_,o_,o_,o_,o_,o_,o_,o_,o_,i_,i_,i_,i_,i_] ?_
                                            refine qpv_ 26 (some 103) #[o_,o_,o_,o_,o_,o_,o_,o_,o_,o_,o_,o_,o_,o_,o_,o_,o_,o_,o_,o_,o_,o_,o_,o_,o_,o_,o_,i_,i_,i_,i_] ?_
                                            refine qpv_ 27 (some 104) #[o_,o_,o_,o_,o_,o_,o_,o_,o_,o_,o_,o_,o_,o_,o_,o_,o_,o_,o_,o_,o_,o_,o_,o_,o_,o_,o_,o_,i_,i_,i_] ?_
                                            refine qpv_ 28 (some 105) #[o_,o_,o_,o_,o_,o_,o_,o_,o_,o_,o_,o_,o_,o_,o_,o_,o_,o_,o_,o_,o_,o_,o_,o_,o_,o_,o_,o_,o_,i_,i_] ?_
                                            refine qpv_ 29 (some 106) #[o_,o_,o_,o_,o_,o_,o_,o_,o_,o_,o_,o_,o_,o_,o_,o_,o_,o_,o_,o_,o_,o_,o_,o_,o_,o_,o_,o_,o_,o_,i_] ?_
                                            refine qpu_ 30 (some 107) #[o_,o_,o_,o_,o_,o_,o_,o_,o_,o_,o_,o_,o_,o_,o_,o_,o_,o_,o_,o_,o_,o_,o_,o_,o_,o_,o_,o_,o_,o_,o_] ?_
                                            refine done_ (done_of HT_.out (by kernel_rfl)) ?_
                                            try go_wp2
                                            go_meet
                                            case rel => exact ⟨_, (true), qs_, H', ⟨by have := HJ8.out; have := HK2.out; have := HJ23.out; first | omega | exact Nat.le_refl _⟩, ⟨by (with_reducible repeat (first | apply Kd.R_alloc | apply Kd.R_drewN | apply Kd.R_drew)); exact HO_10.out⟩, ⟨by (with_reducible repeat (first | apply Kd.R_alloc | apply Kd.R_drewN | apply Kd.R_drew)); exact HO_12.out⟩, ⟨by (with_reducible repeat (first | apply Kd.R_alloc | apply Kd.R_drewN | apply Kd.R_drew)); exact HO_48.out⟩, ⟨qk_ BK302⟩, ⟨qk_ BK312⟩, ⟨qb_⟩⟩
                                          · rw [if_neg c39] at H
                                            have c39b0 : decide ((rd t304 (rd t308 (ji30))) < (rd t304 (rd t308 x50_2))) = false := decide_eq_false c39
                                            clear c39
                                            by_cases c42 : (rd t304 (rd t308 (ji30))) = (rd t304 (rd t308 x50_2))
                                            · rw [if_pos c42] at H
                                              have c42b0 : ((rd t304 (rd t308 (ji30))) == (rd t304 (rd t308 x50_2))) = true := beq_iff_eq.mpr c42
                                              have c42b1 : ((rd t304 (rd t308 (ji30))) != (rd t304 (rd t308 x50_2))) = false := bne_eq_false_iff_eq.mpr c42
                                              clear c42
                                              replace H := Option.bind_eq_some_iff.mp H
                                              obtain ⟨t319, A430, H⟩ := H
                                              replace H : ((cohousinglaw21_at.f kj23 l3 (wrap64 ((rd t308 x50_2) + 1))).bind fun t320 => (cohousinglaw21_PointsOrder.j3 kj23 l1 l3 t303 t304 t308 t308 (t308.length : Int) x50_2 (decide (t319 > t320)) (mput x313000_2 (rd t308 x50_2) true))) = some r := H
                                              have A43 := Aside0.mk A430
                                              clear A430
                                              replace H := Option.bind_eq_some_iff.mp H
                                              obtain ⟨t320, A440, H⟩ := H
                                              replace H : (cohousinglaw21_PointsOrder.j3 kj23 l1 l3 t303 t304 t308 t308 (t308.length : Int) x50_2 (decide (t319 > t320)) (mput x313000_2 (rd t308 x50_2) true)) = some r := H
                                              have A44 := Aside0.mk A440
                                              clear A440
                                              have H' := Aside0.mk H
                                              clear H
                                              try go_wp2
                                              replace HO_10 := Aside0.mk (Kd.R_drew HO_10.out)
                                              replace HO_12 := Aside0.mk (Kd.R_drew HO_12.out)
                                              replace HO_48 := Aside0.mk (Kd.R_drew HO_48.out)
                                              replace BK302 := Aside0.mk (blk_drew BK302.out)
                                              replace BK312 := Aside0.mk (blk_drew BK312.out)
                                              replace HB := Aside0.mk (below_drew1 HB.out)
                                              obtain ⟨Ao46, co46, eo46⟩ := Kd.R_slice HO_10.out
                                              (first | subst eo46 | (injection eo46 with f1_ f2_ f3_; have f4_ := f1_.symm; have f5_ := f3_.symm; clear f1_ f2_ f3_; subst f4_; subst f5_))
                                              have p315 : 0 ≤ ((rd t308 (ji30)) : Int) := of_decide_eq_true qa_
                                              have q315 : (rd t308 (ji30)) < (t304.length : Int) := of_decide_eq_true qa_
                                              obtain ⟨ad315, e315, hx315_0⟩ := Kd.at_int (Kd.R_reads' HO_10.out).2.2 (rd t308 (ji30)) p315 q315
                                              cases e315
                                              replace p315 := eq_true p315
                                              replace q315 := eq_true q315
                                              have p316 : 0 ≤ ((rd t308 x50_2) : Int) := of_decide_eq_true qa_
                                              have q316 : (rd t308 x50_2) < (t304.length : Int) := of_decide_eq_true qa_
                                              obtain ⟨ad316, e316, hx316_0⟩ := Kd.at_int (Kd.R_reads' HO_10.out).2.2 (rd t308 x50_2) p316 q316
                                              obtain rfl : ad315 = ad316 := (by injection e316)
                                              replace p316 := eq_true p316
                                              replace q316 := eq_true q316
                                              have p317 : 0 ≤ ((rd t308 (ji30)) : Int) := of_decide_eq_true qa_
                                              have q317 : (rd t308 (ji30)) < (t304.length : Int) := of_decide_eq_true qa_
                                              obtain ⟨ad317, e317, hx317_0⟩ := Kd.at_int (Kd.R_reads' HO_10.out).2.2 (rd t308 (ji30)) p317 q317
                                              obtain rfl : ad315 = ad317 := (by injection e317)
                                              replace p317 := eq_true p317
                                              replace q317 := eq_true q317
                                              have p318 : 0 ≤ ((rd t308 x50_2) : Int) := of_decide_eq_true qa_
                                              have q318 : (rd t308 x50_2) < (t304.length : Int) := of_decide_eq_true qa_
                                              obtain ⟨ad318, e318, hx318_0⟩ := Kd.at_int (Kd.R_reads' HO_10.out).2.2 (rd t308 x50_2) p318 q318
                                              obtain rfl : ad315 = ad318 := (by injection e318)
                                              replace p318 := eq_true p318
                                              replace q318 := eq_true q318
                                              refine start_ (n := 31) (S := fun w' => w'.cell? (ad315.add ((rd t308 (ji30))).toNat) = some (.int .i64 (rd t304 (rd t308 (ji30)))) ∧ w'.cell? (ad315.add ((rd t308 x50_2)).toNat) = some (.int .i64 (rd t304 (rd t308 x50_2))) ∧ w'.cell? (ad315.add ((rd t308 (ji30))).toNat) = some (.int .i64 (rd t304 (rd t308 (ji30)))) ∧ w'.cell? (ad315.add ((rd t308 x50_2)).toNat) = some (.int .i64 (rd t304 (rd t308 x50_2)))) (ds := []) #[i_,i_,i_,i_,i_,i_,i_,i_,i_,i_,i_,i_,i_,i_,i_,i_,i_,i_,i_,i_,i_,i_,i_,i_,i_,i_,i_,i_,i_,i_,i_] (by kernel_rfl) rfl rfl ⟨hx315_0, hx316_0, hx317_0, hx318_0⟩ (fun hHeld => ?_); refine with_tabW cohousinglaw21_PointsOrder.tab17 cohousinglaw21_PointsOrder.bits17 (fun HT_ HW_ => ?_)
                                              generalize w34.drew = w45 at HO_10 HO_12 HO_48 BK302 BK312 HB hx315_0 hx316_0 hx317_0 hx318_0 hHeld ⊢
                                              refine qpu_ 0 (some 77) #[o_,i_,i_,i_,i_,i_,i_,i_,i_,i_,i_,i_,i_,i_,i_,i_,i_,i_,i_,i_,i_,i_,i_,i_,i_,i_,i_,i_,i_,i_,i_] ?_
                                              refine qpu_ 1 (some 78) #[o_,o_,i_,i_,i_,i_,i_,i_,i_,i_,i_,i_,i_,i_,i_,i_,i_,i_,i_,i_,i_,i_,i_,i_,i_,i_,i_,i_,i_,i_,i_] ?_
                                              refine qpu_ 2 (some 79) #[o_,o_,o_,i_,i_,i_,i_,i_,i_,i_,i_,i_,i_,i_,i_,i_,i_,i_,i_,i_,i_,i_,i_,i_,i_,i_,i_,i_,i_,i_,i_] ?_
                                              refine qpu_ 4 (some 81) #[o_,o_,o_,i_,o_,i_,i_,i_,i_,i_,i_,i_,i_,i_,i_,i_,i_,i_,i_,i_,i_,i_,i_,i_,i_,i_,i_,i_,i_,i_,i_] ?_
                                              refine qpu_ 5 (some 82) #[o_,o_,o_,i_,o_,o_,i_,i_,i_,i_,i_,i_,i_,i_,i_,i_,i_,i_,i_,i_,i_,i_,i_,i_,i_,i_,i_,i_,i_,i_,i_] ?_
                                              refine qpu_ 6 (some 83) #[o_,o_,o_,i_,o_,o_,o_,i_,i_,i_,i_,i_,i_,i_,i_,i_,i_,i_,i_,i_,i_,i_,i_,i_,i_,i_,i_,i_,i_,i_,i_] ?_
                                              refine take_ (i := 3) (N := some 80) (v := ?_) (a' := ?_) #[o_,o_,o_,o_,o_,o_,o_,i_,i_,i_,i_,i_,i_,i_,i_,i_,i_,i_,i_,i_,i_,i_,i_,i_,i_,i_,i_,i_,i_,i_,i_] rfl rfl (take_ofW HT_.out HW_.out (by kernel_rfl)) (fun _ _ _ h => h) (Or.inl ⟨by rfl, ?_⟩) hHeld ?_ ?_
                                              rotate_left
                                              · rintro w' ⟨s0, s1, s2, s3⟩
                                                go_simp
                                                with_reducible rfl
                                              rotate_left
                                              · exact qp_
                                              refine take_ (i := 7) (N := some 84) (v := ?_) (a' := ?_) #[o_,o_,o_,o_,o_,o_,o_,o_,i_,i_,i_,i_,i_,i_,i_,i_,i_,i_,i_,i_,i_,i_,i_,i_,i_,i_,i_,i_,i_,i_,i_] rfl rfl (take_ofW HT_.out HW_.out (by kernel_rfl)) (fun _ _ _ h => h) (Or.inl ⟨by rfl, ?_⟩) hHeld ?_ ?_
                                              rotate_left
                                              · rintro w' ⟨s0, s1, s2, s3⟩
                                                go_simp
                                                with_reducible rfl
                                              rotate_left
                                              · exact qp_
                                              refine qpu_ 8 (some 85) #[o_,o_,o_,o_,o_,o_,o_,o_,o_,i_,i_,i_,i_,i_,i_,i_,i_,i_,i_,i_,i_,i_,i_,i_,i_,i_,i_,i_,i_,i_,i_] ?_
                                              refine qpu_ 9 (some 86) #[o_,o_,o_,o_,o_,o_,o_,o_,o_,o_,i_,i_,i_,i_,i_,i_,i_,i_,i_,i_,i_,i_,i_,i_,i_,i_,i_,i_,i_,i_,i_] ?_
                                              refine qpu_ 10 (some 87) #[o_,o_,o_,o_,o_,o_,o_,o_,o_,o_,o_,i_,i_,i_,i_,i_,i_,i_,i_,i_,i_,i_,i_,i_,i_,i_,i_,i_,i_,i_,i_] ?_
                                              refine qpu_ 11 (some 88) #[o_,o_,o_,o_,o_,o_,o_,o_,o_,o_,o_,o_,i_,i_,i_,i_,i_,i_,i_,i_,i_,i_,i_,i_,i_,i_,i_,i_,i_,i_,i_] ?_
                                              refine qpu_ 12 (some 89) #[o_,o_,o_,o_,o_,o_,o_,o_,o_,o_,o_,o_,o_,i_,i_,i_,i_,i_,i_,i_,i_,i_,i_,i_,i_,i_,i_,i_,i_,i_,i_] ?_
                                              refine qpu_ 14 (some 91) #[o_,o_,o_,o_,o_,o_,o_,o_,o_,o_,o_,o_,o_,i_,o_,i_,i_,i_,i_,i_,i_,i_,i_,i_,i_,i_,i_,i_,i_,i_,i_] ?_
                                              refine qpu_ 15 (some 92) #[o_,o_,o_,o_,o_,o_,o_,o_,o_,o_,o_,o_,o_,i_,o_,o_,i_,i_,i_,i_,i_,i_,i_,i_,i_,i_,i_,i_,i_,i_,i_] ?_
                                              refine qpu_ 16 (some 93) #[o_,o_,o_,o_,o_,o_,o_,o_,o_,o_,o_,o_,o_,i_,o_,o_,o_,i_,i_,i_,i_,i_,i_,i_,i_,i_,i_,i_,i_,i_,i_] ?_
                                              refine take_ (i := 13) (N := some 90) (v := ?_) (a' := ?_) #[o_,o_,o_,o_,o_,o_,o_,o_,o_,o_,o_,o_,o_,o_,o_,o_,o_,i_,i_,i_,i_,i_,i_,i_,i_,i_,i_,i_,i_,i_,i_] rfl rfl (take_ofW HT_.out HW_.out (by kernel_rfl)) (fun _ _ _ h => h) (Or.inl ⟨by rfl, ?_⟩) hHeld ?_ ?_
                                              rotate_left
                                              · rintro w' ⟨s0, s1, s2, s3⟩
                                                go_simp
                                                with_reducible rfl
                                              rotate_left
                                              · exact qp_
                                              refine take_ (i := 17) (N := some 94) (v := ?_) (a' := ?_) #[o_,o_,o_,o_,o_,o_,o_,o_,o_,o_,o_,o_,o_,o_,o_,o_,o_,o_,i_,i_,i_,i_,i_,i_,i_,i_,i_,i_,i_,i_,i_] rfl rfl (take_ofW HT_.out HW_.out (by kernel_rfl)) (fun _ _ _ h => h) (Or.inl ⟨by rfl, ?_⟩) hHeld ?_ ?_
                                              rotate_left
                                              · rintro w' ⟨s0, s1, s2, s3⟩
                                                go_simp
                                                with_reducible rfl
                                              rotate_left
                                              · exact qp_
                                              refine qpu_ 18 (some 95) #[o_,o_,o_,o_,o_,o_,o_,o_,o_,o_,o_,o_,o_,o_,o_,o_,o_,o_,o_,i_,i_,i_,i_,i_,i_,i_,i_,i_,i_,i_,i_] ?_
                                              refine qpu_ 19 (some 96) #[o_,o_,o_,o_,o_,o_,o_,o_,o_,o_,o_,o_,o_,o_,o_,o_,o_,o_,o_,o_,i_,i_,i_,i_,i_,i_,i_,i_,i_,i_,i_] ?_
                                              refine qpu_ 20 (some 97) #[o_,o_,o_,o_,o_,o_,o_,o_,o_,o_,o_,o_,o_,o_,o_,o_,o_,o_,o_,o_,o_,i_,i_,i_,i_,i_,i_,i_,i_,i_,i_] ?_
                                              refine qpu_ 21 (some 98) #[o_,o_,o_,o_,o_,o_,o_,o_,o_,o_,o_,o_,o_,o_,o_,o_,o_,o_,o_,o_,o_,o_,i_,i_,i_,i_,i_,i_,i_,i_,i_] ?_
                                              refine qpu_ 22 (some 99) #[o_,o_,o_,o_,o_,o_,o_,o_,o_,o_,o_,o_,o_,o_,o_,o_,o_,o_,o_,o_,o_,o_,o_,i_,i_,i_,i_,i_,i_,i_,i_] ?_
                                              refine qpu_ 24 (some 101) #[o_,o_,o_,o_,o_,o_,o_,o_,o_,o_,o_,o_,o_,o_,o_,o_,o_,o_,o_,o_,o_,o_,o_,i_,o_,i_,i_,i_,i_,i_,i_] ?_
                                              refine qpu_ 25 (some 102) #[o_,o_,o_,o_,o_,o_,o_,o_,o_,o_,o_,o_,o_,o_,o_,o_,o_,o_,o_,o_,o_,o_,o_,i_,o_,o_,i_,i_,i_,i_,i_] ?_
                                              refine qpu_ 26 (some 103) #[o_,o_,o_,o_,o_,o_,o_,o_,o_,o_,o_,o_,o_,o_,o_,o_,o_,o_,o_,o_,o_,o_,o_,i_,o_,o_,o_,i_,i_,i_,i_] ?_
                                              refine one_ (i := 23) (N := some 100) #[o_,o_,o_,o_,o_,o_,o_,o_,o_,o_,o_,o_,o_,o_,o_,o_,o_,o_,o_,o_,o_,o_,o_,o_,o_,o_,o_,i_,i_,i_,i_] rfl rfl (one_of HT_.out (by kernel_rfl)) (by decide) (fun K hK => ?_)
                                              refine goes_ Tryd.func18 (by kernel_rfl) rfl #[.slice A3 l3.length c3, .int .i64 (wrap64 ((rd t308 (ji30)) + 1))] (by rfl) rfl rfl (by (try simp only [List.map_toArray, List.map_cons, List.map_nil]); first | done | (simp only [hji30]; rfl) | rfl | (simp only [List.length_drop, List.length_take]; rfl)) ?_
                                              with_reducible refine (cohousinglaw21_at.calls kj23 _ _ l3 (wrap64 ((rd t308 (ji30)) + 1)) t319 _ ?side1 ?side2 A43.out).mono ?_
                                              (case side1 => exact qc_ HR3)
                                              (case side2 => exact HC3.out)
                                              rintro e w' ⟨rfl, ⟨nd, rfl⟩⟩
                                              refine ⟨_, rfl, ?_⟩
                                              refine hK.out _ _ ⟨hHeld.1, hHeld.2.1, hHeld.2.2.1, hHeld.2.2.2⟩ (fun hHeld => ?_)
                                              clear hK K
                                              refine norm_ (a' := ?_) ?_ ?_
                                              rotate_left
                                              · show Act.put _ (some 100) _ = _
                                                exact qp_
                                              refine one_ (i := 27) (N := some 104) #[o_,o_,o_,o_,o_,o_,o_,o_,o_,o_,o_,o_,o_,o_,o_,o_,o_,o_,o_,o_,o_,o_,o_,o_,o_,o_,o_,o_,i_,i_,i_] rfl rfl (one_of HT_.out (by kernel_rfl)) (by decide) (fun K hK => ?_)
                                              refine goes_ Tryd.func18 (by kernel_rfl) rfl #[.slice A3 l3.length c3, .int .i64 (wrap64 ((rd t308 x50_2) + 1))] (by rfl) rfl rfl ql_ ?_
                                              with_reducible refine (cohousinglaw21_at.calls kj23 _ _ l3 (wrap64 ((rd t308 x50_2) + 1)) t320 _ ?side1 ?side2 A44.out).mono ?_
                                              (case side1 => repeat (first | exact (Kd.C_below HR3.out qb_) | (with_reducible refine Kd.C_alloc ?_ _) | (with_reducible refine Kd.C_drewN ?_ _) | (with_reducible refine Kd.C_drew ?_)))
                                              (case side2 => exact HC3.out)
                                              rintro e w' ⟨rfl, ⟨nd, rfl⟩⟩
                                              refine ⟨_, rfl, ?_⟩
                                              refine hK.out _ _ ⟨hHeld.1, hHeld.2.1, hHeld.2.2.1, hHeld.2.2.2⟩ (fun hHeld => ?_)
                                              clear hK K
                                              refine norm_ (a' := ?_) ?_ ?_
                                              rotate_left
                                              · show Act.put _ (some 104) _ = _
                                                exact qp_
                                              refine qpu_ 28 (some 105) #[o_,o_,o_,o_,o_,o_,o_,o_,o_,o_,o_,o_,o_,o_,o_,o_,o_,o_,o_,o_,o_,o_,o_,o_,o_,o_,o_,o_,o_,i_,i_] ?_
                                              refine qpu_ 29 (some 106) #[o_,o_,o_,o_,o_,o_,o_,o_,o_,o_,o_,o_,o_,o_,o_,o_,o_,o_,o_,o_,o_,o_,o_,o_,o_,o_,o_,o_,o_,o_,i_] ?_
                                              refine qpu_ 30 (some 107) #[o_,o_,o_,o_,o_,o_,o_,o_,o_,o_,o_,o_,o_,o_,o_,o_,o_,o_,o_,o_,o_,o_,o_,o_,o_,o_,o_,o_,o_,o_,o_] ?_
                                              refine done_ (done_of HT_.out (by kernel_rfl)) ?_
                                              try go_wp2
                                              go_meet
                                              case rel => exact ⟨_, (decide (t319 > t320)), qs_, H', ⟨by have := HJ8.out; have := HK2.out; have := HJ23.out; first | omega | exact Nat.le_refl _⟩, ⟨by (with_reducible repeat (first | apply Kd.R_alloc | apply Kd.R_drewN | apply Kd.R_drew)); exact HO_10.out⟩, ⟨by (with_reducible repeat (first | apply Kd.R_alloc | apply Kd.R_drewN | apply Kd.R_drew)); exact HO_12.out⟩, ⟨by (with_reducible repeat (first | apply Kd.R_alloc | apply Kd.R_drewN | apply Kd.R_drew)); exact HO_48.out⟩, ⟨qk_ BK302⟩, ⟨qk_ BK312⟩, ⟨qb_⟩⟩
                                            · rw [if_neg c42] at H
                                              have c42b0 : ((rd t304 (rd t308 (ji30))) == (rd t304 (rd t308 x50_2))) = false := beq_eq_false_iff_ne.mpr c42
                                              have c42b1 : ((rd t304 (rd t308 (ji30))) != (rd t304 (rd t308 x50_2))) = true := bne_iff_ne.mpr c42
                                              have H' := Aside0.mk H
                                              clear H
                                              try go_wp2
                                              replace HO_10 := Aside0.mk (Kd.R_drew HO_10.out)
                                              replace HO_12 := Aside0.mk (Kd.R_drew HO_12.out)
                                              replace HO_48 := Aside0.mk (Kd.R_drew HO_48.out)
                                              replace BK302 := Aside0.mk (blk_drew BK302.out)
                                              replace BK312 := Aside0.mk (blk_drew BK312.out)
                                              replace HB := Aside0.mk (below_drew1 HB.out)
                                              obtain ⟨Ao48, co48, eo48⟩ := Kd.R_slice HO_10.out
                                              (first | subst eo48 | (injection eo48 with f1_ f2_ f3_; have f4_ := f1_.symm; have f5_ := f3_.symm; clear f1_ f2_ f3_; subst f4_; subst f5_))
                                              have p315 : 0 ≤ ((rd t308 (ji30)) : Int) := of_decide_eq_true qa_
                                              have q315 : (rd t308 (ji30)) < (t304.length : Int) := of_decide_eq_true qa_
                                              obtain ⟨ad315, e315, hx315_0⟩ := Kd.at_int (Kd.R_reads' HO_10.out).2.2 (rd t308 (ji30)) p315 q315
                                              cases e315
                                              replace p315 := eq_true p315
                                              replace q315 := eq_true q315
                                              have p316 : 0 ≤ ((rd t308 x50_2) : Int) := of_decide_eq_true qa_
                                              have q316 : (rd t308 x50_2) < (t304.length : Int) := of_decide_eq_true qa_
                                              obtain ⟨ad316, e316, hx316_0⟩ := Kd.at_int (Kd.R_reads' HO_10.out).2.2 (rd t308 x50_2) p316 q316
                                              obtain rfl : ad315 = ad316 := (by injection e316)
                                              replace p316 := eq_true p316
                                              replace q316 := eq_true q316
                                              have p317 : 0 ≤ ((rd t308 (ji30)) : Int) := of_decide_eq_true qa_
                                              have q317 : (rd t308 (ji30)) < (t304.length : Int) := of_decide_eq_true qa_
                                              obtain ⟨ad317, e317, hx317_0⟩ := Kd.at_int (Kd.R_reads' HO_10.out).2.2 (rd t308 (ji30)) p317 q317
                                              obtain rfl : ad315 = ad317 := (by injection e317)
                                              replace p317 := eq_true p317
                                              replace q317 := eq_true q317
                                              have p318 : 0 ≤ ((rd t308 x50_2) : Int) := of_decide_eq_true qa_
                                              have q318 : (rd t308 x50_2) < (t304.length : Int) := of_decide_eq_true qa_
                                              obtain ⟨ad318, e318, hx318_0⟩ := Kd.at_int (Kd.R_reads' HO_10.out).2.2 (rd t308 x50_2) p318 q318
                                              obtain rfl : ad315 = ad318 := (by injection e318)
                                              replace p318 := eq_true p318
                                              replace q318 := eq_true q318
                                              refine start_ (n := 31) (S := fun w' => w'.cell? (ad315.add ((rd t308 (ji30))).toNat) = some (.int .i64 (rd t304 (rd t308 (ji30)))) ∧ w'.cell? (ad315.add ((rd t308 x50_2)).toNat) = some (.int .i64 (rd t304 (rd t308 x50_2))) ∧ w'.cell? (ad315.add ((rd t308 (ji30))).toNat) = some (.int .i64 (rd t304 (rd t308 (ji30)))) ∧ w'.cell? (ad315.add ((rd t308 x50_2)).toNat) = some (.int .i64 (rd t304 (rd t308 x50_2)))) (ds := []) #[i_,i_,i_,i_,i_,i_,i_,i_,i_,i_,i_,i_,i_,i_,i_,i_,i_,i_,i_,i_,i_,i_,i_,i_,i_,i_,i_,i_,i_,i_,i_] (by kernel_rfl) rfl rfl ⟨hx315_0, hx316_0, hx317_0, hx318_0⟩ (fun hHeld => ?_); refine with_tabW cohousinglaw21_PointsOrder.tab17 cohousinglaw21_PointsOrder.bits17 (fun HT_ HW_ => ?_)
                                              generalize w34.drew = w47 at HO_10 HO_12 HO_48 BK302 BK312 HB hx315_0 hx316_0 hx317_0 hx318_0 hHeld ⊢
                                              refine qpu_ 0 (some 77) #[o_,i_,i_,i_,i_,i_,i_,i_,i_,i_,i_,i_,i_,i_,i_,i_,i_,i_,i_,i_,i_,i_,i_,i_,i_,i_,i_,i_,i_,i_,i_] ?_
                                              refine qpu_ 1 (some 78) #[o_,o_,i_,i_,i_,i_,i_,i_,i_,i_,i_,i_,i_,i_,i_,i_,i_,i_,i_,i_,i_,i_,i_,i_,i_,i_,i_,i_,i_,i_,i_] ?_
                                              refine qpu_ 2 (some 79) #[o_,o_,o_,i_,i_,i_,i_,i_,i_,i_,i_,i_,i_,i_,i_,i_,i_,i_,i_,i_,i_,i_,i_,i_,i_,i_,i_,i_,i_,i_,i_] ?_
                                              refine qpu_ 4 (some 81) #[o_,o_,o_,i_,o_,i_,i_,i_,i_,i_,i_,i_,i_,i_,i_,i_,i_,i_,i_,i_,i_,i_,i_,i_,i_,i_,i_,i_,i_,i_,i_] ?_
                                              refine qpu_ 5 (some 82) #[o_,o_,o_,i_,o_,o_,i_,i_,i_,i_,i_,i_,i_,i_,i_,i_,i_,i_,i_,i_,i_,i_,i_,i_,i_,i_,i_,i_,i_,i_,i_] ?_
                                              refine qpu_ 6 (some 83) #[o_,o_,o_,i_,o_,o_,o_,i_,i_,i_,i_,i_,i_,i_,i_,i_,i_,i_,i_,i_,i_,i_,i_,i_,i_,i_,i_,i_,i_,i_,i_] ?_
                                              refine take_ (i := 3) (N := some 80) (v := ?_) (a' := ?_) #[o_,o_,o_,o_,o_,o_,o_,i_,i_,i_,i_,i_,i_,i_,i_,i_,i_,i_,i_,i_,i_,i_,i_,i_,i_,i_,i_,i_,i_,i_,i_] rfl rfl (take_ofW HT_.out HW_.out (by kernel_rfl)) (fun _ _ _ h => h) (Or.inl ⟨by rfl, ?_⟩) hHeld ?_ ?_
                                              rotate_left
                                              · rintro w' ⟨s0, s1, s2, s3⟩
                                                go_simp
                                                with_reducible rfl
                                              rotate_left
                                              · exact qp_
                                              refine take_ (i := 7) (N := some 84) (v := ?_) (a' := ?_) #[o_,o_,o_,o_,o_,o_,o_,o_,i_,i_,i_,i_,i_,i_,i_,i_,i_,i_,i_,i_,i_,i_,i_,i_,i_,i_,i_,i_,i_,i_,i_] rfl rfl (take_ofW HT_.out HW_.out (by kernel_rfl)) (fun _ _ _ h => h) (Or.inl ⟨by rfl, ?_⟩) hHeld ?_ ?_
                                              rotate_left
                                              · rintro w' ⟨s0, s1, s2, s3⟩
                                                go_simp
                                                with_reducible rfl
                                              rotate_left
                                              · exact qp_
                                              refine qpu_ 8 (some 85) #[o_,o_,o_,o_,o_,o_,o_,o_,o_,i_,i_,i_,i_,i_,i_,i_,i_,i_,i_,i_,i_,i_,i_,i_,i_,i_,i_,i_,i_,i_,i_] ?_
                                              refine qpu_ 9 (some 86) #[o_,o_,o_,o_,o_,o_,o_,o_,o_,o_,i_,i_,i_,i_,i_,i_,i_,i_,i_,i_,i_,i_,i_,i_,i_,i_,i_,i_,i_,i_,i_] ?_
                                              refine qpu_ 10 (some 87) #[o_,o_,o_,o_,o_,o_,o_,o_,o_,o_,o_,i_,i_,i_,i_,i_,i_,i_,i_,i_,i_,i_,i_,i_,i_,i_,i_,i_,i_,i_,i_] ?_
                                              refine qpu_ 11 (some 88) #[o_,o_,o_,o_,o_,o_,o_,o_,o_,o_,o_,o_,i_,i_,i_,i_,i_,i_,i_,i_,i_,i_,i_,i_,i_,i_,i_,i_,i_,i_,i_] ?_
                                              refine qpu_ 12 (some 89) #[o_,o_,o_,o_,o_,o_,o_,o_,o_,o_,o_,o_,o_,i_,i_,i_,i_,i_,i_,i_,i_,i_,i_,i_,i_,i_,i_,i_,i_,i_,i_] ?_
                                              refine qpu_ 14 (some 91) #[o_,o_,o_,o_,o_,o_,o_,o_,o_,o_,o_,o_,o_,i_,o_,i_,i_,i_,i_,i_,i_,i_,i_,i_,i_,i_,i_,i_,i_,i_,i_] ?_
                                              refine qpu_ 15 (some 92) #[o_,o_,o_,o_,o_,o_,o_,o_,o_,o_,o_,o_,o_,i_,o_,o_,i_,i_,i_,i_,i_,i_,i_,i_,i_,i_,i_,i_,i_,i_,i_] ?_
                                              refine qpu_ 16 (some 93) #[o_,o_,o_,o_,o_,o_,o_,o_,o_,o_,o_,o_,o_,i_,o_,o_,o_,i_,i_,i_,i_,i_,i_,i_,i_,i_,i_,i_,i_,i_,i_] ?_
                                              refine take_ (i := 13) (N := some 90) (v := ?_) (a' := ?_) #[o_,o_,o_,o_,o_,o_,o_,o_,o_,o_,o_,o_,o_,o_,o_,o_,o_,i_,i_,i_,i_,i_,i_,i_,i_,i_,i_,i_,i_,i_,i_] rfl rfl (take_ofW HT_.out HW_.out (by kernel_rfl)) (fun _ _ _ h => h) (Or.inl ⟨by rfl, ?_⟩) hHeld ?_ ?_
                                              rotate_left
                                              · rintro w' ⟨s0, s1, s2, s3⟩
                                                go_simp
                                                with_reducible rfl
                                              rotate_left
                                              · exact qp_
                                              refine take_ (i := 17) (N := some 94) (v := ?_) (a' := ?_) #[o_,o_,o_,o_,o_,o_,o_,o_,o_,o_,o_,o_,o_,o_,o_,o_,o_,o_,i_,i_,i_,i_,i_,i_,i_,i_,i_,i_,i_,i_,i_] rfl rfl (take_ofW HT_.out HW_.out (by kernel_rfl)) (fun _ _ _ h => h) (Or.inl ⟨by rfl, ?_⟩) hHeld ?_ ?_
                                              rotate_left
                                              · rintro w' ⟨s0, s1, s2, s3⟩
                                                go_simp
                                                with_reducible rfl
                                              rotate_left
                                              · exact qp_
                                              refine qpu_ 18 (some 95) #[o_,o_,o_,o_,o_,o_,o_,o_,o_,o_,o_,o_,o_,o_,o_,o_,o_,o_,o_,i_,i_,i_,i_,i_,i_,i_,i_,i_,i_,i_,i_] ?_
                                              refine qpu_ 19 (some 96) #[o_,o_,o_,o_,o_,o_,o_,o_,o_,o_,o_,o_,o_,o_,o_,o_,o_,o_,o_,o_,i_,i_,i_,i_,i_,i_,i_,i_,i_,i_,i_] ?_
                                              refine qpv_ 20 (some 97) #[o_,o_,o_,o_,o_,o_,o_,o_,o_,o_,o_,o_,o_,o_,o_,o_,o_,o_,o_,o_,o_,i_,i_,i_,i_,i_,i_,i_,i_,i_,i_] ?_
                                              refine qpv_ 21 (some 98) #[o_,o_,o_,o_,o_,o_,o_,o_,o_,o_,o_,o_,o_,o_,o_,o_,o_,o_,o_,o_,o_,o_,i_,i_,i_,i_,i_,i_,i_,i_,i_] ?_
                                              refine qpv_ 22 (some 99) #[o_,o_,o_,o_,o_,o_,o_,o_,o_,o_,o_,o_,o_,o_,o_,o_,o_,o_,o_,o_,o_,o_,o_,i_,i_,i_,i_,i_,i_,i_,i_] ?_
                                              refine qpv_ 23 (some 100) #[o_,o_,o_,o_,o_,o_,o_,o_,o_,o_,o_,o_,o_,o_,o_,o_,o_,o_,o_,o_,o_,o_,o_,o_,i_,i_,i_,i_,i_,i_,i_] ?_
                                              refine qpv_ 24 (some 101) #[o_,o_,o_,o_,o_,o_,o_,o_,o_,o_,o_,o_,o_,o_,o_,o_,o_,o_,o_,o_,o_,o_,o_,o_,o_,i_,i_,i_,i_,i_,i_] ?_
                                              refine qpv_ 25 (some 102) #[o_,o_,o_,o_,o_,o_,o_,o_,o_,o_,o_,o_,o_,o_,o_,o_,o_,o_,o_,o_,o_,o_,o_,o_,o_,o_,i_,i_,i_,i_,i_] ?_
                                              refine qpv_ 26 (some 103) #[o_,o_,o_,o_,o_,o_,o_,o_,o_,o_,o_,o_,o_,o_,o_,o_,o_,o_,o_,o_,o_,o_,o_,o_,o_,o_,o_,i_,i_,i_,i_] ?_
                                              refine qpv_ 27 (some 104) #[o_,o_,o_,o_,o_,o_,o_,o_,o_,o_,o_,o_,o_,o_,o_,o_,o_,o_,o_,o_,o_,o_,o_,o_,o_,o_,o_,o_,i_,i_,i_] ?_
                                              refine qpv_ 28 (some 105) #[o_,o_,o_,o_,o_,o_,o_,o_,o_,o_,o_,o_,o_,o_,o_,o_,o_,o_,o_,o_,o_,o_,o_,o_,o_,o_,o_,o_,o_,i_,i_] ?_
                                              refine qpu_ 29 (some 106) #[o_,o_,o_,o_,o_,o_,o_,o_,o_,o_,o_,o_,o_,o_,o_,o_,o_,o_,o_,o_,o_,o_,o_,o_,o_,o_,o_,o_,o_,o_,i_] ?_
                                              refine qpu_ 30 (some 107) #[o_,o_,o_,o_,o_,o_,o_,o_,o_,o_,o_,o_,o_,o_,o_,o_,o_,o_,o_,o_,o_,o_,o_,o_,o_,o_,o_,o_,o_,o_,o_] ?_
                                              refine done_ (done_of HT_.out (by kernel_rfl)) ?_
                                              try go_wp2
                                              go_meet
                                              case rel => exact ⟨_, (false), qs_, H', ⟨by have := HJ8.out; have := HK2.out; have := HJ23.out; first | omega | exact Nat.le_refl _⟩, ⟨by (with_reducible repeat (first | apply Kd.R_alloc | apply Kd.R_drewN | apply Kd.R_drew)); exact HO_10.out⟩, ⟨by (with_reducible repeat (first | apply Kd.R_alloc | apply Kd.R_drewN | apply Kd.R_drew)); exact HO_12.out⟩, ⟨by (with_reducible repeat (first | apply Kd.R_alloc | apply Kd.R_drewN | apply Kd.R_drew)); exact HO_48.out⟩, ⟨qk_ BK302⟩, ⟨qk_ BK312⟩, ⟨qb_⟩⟩
                                        · rw [if_neg c38] at H
                                          exact absurd H (by simp)
                                      · rw [if_neg c37] at H
                                        exact absurd H (by simp)
                                    · rw [if_neg c36] at H
                                      exact absurd H (by simp)
                                  · rw [if_neg c35] at H
                                    exact absurd H (by simp)
                                case rest =>
                                  clear HC33
                                  try clear c1
                                  try clear p2
                                  try clear c3
                                  try clear p3
                                  try clear q3
                                  try clear hx3
                                  try clear c4
                                  try clear p6
                                  try clear c18
                                  try clear p31
                                  try clear q31
                                  try clear hx31
                                  try clear c35
                                  try clear c36
                                  try clear c37
                                  try clear c38
                                  try clear c42
                                  try clear c42b0
                                  try clear c42b1
                                  try clear hx315_0
                                  try clear hx316_0
                                  try clear hx317_0
                                  try clear hx318_0
                                  try clear p315
                                  try clear p316
                                  try clear p317
                                  try clear p318
                                  try clear q315
                                  try clear q316
                                  try clear q317
                                  try clear q318
                                  obtain ⟨kq, x107_32, rfl, HA, HJ32, HO_10, HO_12, HO_48, BK302, BK312, HB⟩ := hcut
                                  cases kq with
                                  | zero => exact absurd HA.out (by simp [cohousinglaw21_PointsOrder.j3])
                                  | succ kj32 =>
                                    have H := HA.out
                                    clear HA
                                    simp only [cohousinglaw21_PointsOrder.j3] at H
                                    by_cases c49 : x107_32 = true
                                    · subst c49
                                      have H1 : (some false) = some r := by rw [if_pos rfl] at H; exact H
                                      clear H
                                      have H := H1
                                      clear H1
                                      obtain rfl := Option.some.inj H
                                      go_wp2
                                      go_ret
                                      exact ⟨by first | rfl | (simp [errW_none, errW_some] <;> rfl) | (simp only [← hji30]; first | rfl | (simp [errW_none, errW_some] <;> rfl)) | (simp [*, errW_none, errW_some] <;> rfl), qb_⟩
                                    · replace c49 := Bool.eq_false_iff.mpr c49
                                      subst c49
                                      have H1 : (cohousinglaw21_PointsOrder.l0 kj32 l1 l3 t303 t304 t308 t308 (t308.length : Int) (wrap64 (x50_2 + 1)) (mput x313000_2 (rd t308 x50_2) true)) = some r := by rw [if_neg (show ¬ (false = true) by decide)] at H; exact H
                                      clear H
                                      have H := H1
                                      clear H1
                                      have H' := Aside0.mk H
                                      clear H
                                      go_wp2
                                      go_roundg kj32
                                      case measure => have := HJ8.out; have := HK2.out; have := HJ23.out; have := HJ32.out; omega
                                      case rel => exact ⟨(wrap64 (x50_2 + 1)), ((mput x313000_2 (rd t308 x50_2) true)), qs_, H', ⟨by have := HJ8.out; have := HK2.out; have := HJ23.out; have := HJ32.out; omega⟩, ⟨by (with_reducible repeat (first | apply Kd.R_alloc | apply Kd.R_drewN | apply Kd.R_drew)); exact HO_10.out⟩, ⟨by (with_reducible repeat (first | apply Kd.R_alloc | apply Kd.R_drewN | apply Kd.R_drew)); exact HO_12.out⟩, ⟨by (with_reducible repeat (first | apply Kd.R_alloc | apply Kd.R_drewN | apply Kd.R_drew)); exact HO_48.out⟩, ⟨qk_ BK302⟩, ⟨qk_ BK312⟩, ⟨qb_⟩⟩
                              · rw [if_neg c32] at H
                                exact absurd H (by simp)
                            · rw [if_neg c31] at H
                              exact absurd H (by simp)
                  · rw [if_neg c23] at H
                    exact absurd H (by simp)
                · rw [if_neg c22] at H
                  exact absurd H (by simp)
              · rw [if_neg c21] at H
                have c21b0 : decide (x50_2 < (t308.length : Int)) = false := decide_eq_false c21
                clear c21
                obtain rfl := Option.some.inj H
                go_wp2
                go_ret
                exact ⟨qx_, qb_⟩
  · replace c7 := Bool.eq_false_iff.mpr c7
    subst c7
    have H1 : (some t303) = some r := by rw [if_neg (show ¬ (false = true) by decide)] at H; exact H
    clear H
    have H := H1
    clear H1
    obtain rfl := Option.some.inj H
    go_enter Tryd.func5, Tryd.ntmps5
    go_wp2_with (first | ((with_reducible refine gate_dst (N := 4) rfl ?_); (try (refine gate_guard (by rfl) ?_; dsimp only)); refine qev_ 4 #[.int .i64 a0_0, .int .i64 a0_1, .int .i64 a0_2, .int .i64 a0_3] 23 ?_; intro gb302 hg w50 hbox hb; have BK302 := Aside0.mk (hbox); have GW302 := qga_ hg; have GE302 := qga_ hg; replace HB := qbs_ hb; clear hb hbox hg) | ((with_reducible refine gate_callee (f := 10) rfl ?_); refine goesL_ (some 18) rfl rfl Tryd.func10 (by kernel_rfl) rfl #[] rfl ql_ ?_; (with_reducible refine (cohousinglaw21_head.calls k  t303 _ ?side1 A5.out).mono ?_); (case side1 => exact TabOK.below HTA.out qb_); rintro e w51 ⟨rfl, hb⟩; refine ⟨_, rfl, ?_⟩; replace BK302 := qkb_ BK302 hb; replace HB := qbs_ hb; (try clear hb); (try clear hb2); (try clear hk); (try clear hi); obtain ⟨hcz52_0, hcz52_1, hcz52_2, hcz52_3⟩ := qz4_ BK302; obtain ⟨hfz52_0, hfz52_1, hfz52_2, hfz52_3⟩ := qf4_ BK302) | ((with_reducible refine gate_callee (f := 17) rfl ?_); refine goesL_ (some 24) rfl rfl Tryd.func17 (by kernel_rfl) rfl #[.agg #[.int .i64 a0_0, .int .i64 a0_1, .int .i64 a0_2, .int .i64 a0_3], .slice A1 l1.length c1, .int .i64 a2, .slice A3 l3.length c3] rfl ql_ ?_; (with_reducible refine (cohousinglaw21_usable.calls k a0_0 a0_1 a0_2 a0_3 _ _ l1 a2 _ _ l3 t304 false _ ?side1 ?side2 ?side3 ?side4 ?side5 A6.out).mono ?_); (case side1 => exact qc_ HR1); (case side2 => exact HC1.out); (case side3 => exact qc_ HR3); (case side4 => exact HC3.out); (case side5 => exact TabOK.below HTA.out qb_); rintro e w53 ⟨v305, rfl, ho0, hb⟩; refine ⟨_, rfl, ?_⟩; have HO306 := Aside0.mk (Kd.R_lower ho0 (below_size qb_)); replace BK302 := qkb_ BK302 hb; replace HB := qbs_ hb; (try clear hb); (try clear hb2); (try clear hk); (try clear hi); (try clear ho0)))
    go_ret
    exact ⟨qx_, qb_⟩

end Go.Proofs.YtfhmbfadbfnnaaaDoor.Px
