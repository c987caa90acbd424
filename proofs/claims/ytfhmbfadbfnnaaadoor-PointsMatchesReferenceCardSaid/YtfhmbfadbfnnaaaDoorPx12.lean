/- Contracts of Go functions, written by a program of this session's own (wip/tools/myprint.py) out of the translation: each Go function does what the Lean function of its name says. Conditions: as each theorem states. -/
import Derived.Test.YtfhmbfadbfnnaaaDoorPx0
import Derived.Test.YtfhmbfadbfnnaaaDoorPx3
import Derived.Test.YtfhmbfadbfnnaaaDoorPx6
import Derived.Test.YtfhmbfadbfnnaaaDoorPx7
import Derived.Test.YtfhmbfadbfnnaaaDoorPx9
import Derived.Test.YtfhmbfadbfnnaaaDoorPx11
import Derived.Test.YtfhmbfadbfnnaaaDoorGHead
namespace Go.Proofs.YtfhmbfadbfnnaaaDoor.Px
open Go.Proofs.YtfhmbfadbfnnaaaDoor.Given
open Go.RowKit Go.Proofs.YtfhmbfadbfnnaaaDoorW.PrintWords Go.Proofs.YtfhmbfadbfnnaaaDoorW.PrintLast Go.Proofs.YtfhmbfadbfnnaaaDoorW.PrintMore
attribute [local go_sem] max2_int min2_int max_two min_two max_three min_three max_four min_four   -- for this text's walks alone
set_option linter.unusedVariables false
set_option linter.unusedSimpArgs false

/-! ### cohousinglaw21_PointsMatchesReference: function 3 -/
mutual
def cohousinglaw21_PointsMatchesReference.j0 : Nat → List (S25) → Int → List Int → Bool → Bool → Int → Int → Int → Int → Int → Int → Int → Int → Int → Option (Bool)
  | 0, _, _, _, _, _, _, _, _, _, _, _, _, _, _ => none
  | k + 1, x2, x3, x4, x11, x26, x242000, x242001, x242002, x242003, x243000, x243001, x243002, x243003, x243004 => if x26 = true then (some x11) else ((points_Count.f k x242000 x242001 x242002 x242003 x243000 x243001 x243002 x243003 x243004 x3).bind fun bt244 => ((cohousingref21_Count.f k x242000 x242001 x242002 x242003 x243000 x243001 x243002 x243003 x243004 x3).bind fun bt246 => (if x11 = true then (if bt244.1 = bt246.1 then (cohousinglaw21_PointsMatchesReference.j1 k x2 x3 x4 (bt244.2 == bt246.2) x242000 x242001 x242002 x242003) else (cohousinglaw21_PointsMatchesReference.j1 k x2 x3 x4 false x242000 x242001 x242002 x242003)) else (cohousinglaw21_PointsMatchesReference.j1 k x2 x3 x4 false x242000 x242001 x242002 x242003))))
def cohousinglaw21_PointsMatchesReference.j1 : Nat → List (S25) → Int → List Int → Bool → Int → Int → Int → Int → Option (Bool)
  | 0, _, _, _, _, _, _, _, _ => none
  | k + 1, x2, x3, x4, x11, x242000, x242001, x242002, x242003 => (points_Order.f k x242000 x242001 x242002 x242003 x2 x3 x4).bind fun bt248 => ((cohousingref21_Order.f k x242000 x242001 x242002 x242003 x2 x3 x4).bind fun bt252 => (if x11 = true then ((cohousingref21_Same.f k bt248.1 bt252.1).bind fun t256 => (if t256 = true then (some (bt248.2 == bt252.2)) else (some false))) else (some false)))
end
def cohousinglaw21_PointsMatchesReference.f (k : Nat) (a0_0 a0_1 a0_2 a0_3 a1_0 a1_1 a1_2 a1_3 a1_4 : Int) (l2 : List (S25)) (a3 : Int) (l4 : List Int) : Option (Bool) := (cohousinglaw21_head.f k).bind fun t243 => (if (l2.length : Int) > 70 then (cohousinglaw21_PointsMatchesReference.j0 k l2 a3 l4 t243 true a0_0 a0_1 a0_2 a0_3 a1_0 a1_1 a1_2 a1_3 a1_4) else (cohousinglaw21_PointsMatchesReference.j0 k l2 a3 l4 t243 (decide ((l4.length : Int) > 70)) a0_0 a0_1 a0_2 a0_3 a1_0 a1_1 a1_2 a1_3 a1_4))
theorem cohousinglaw21_PointsMatchesReference.mono_l : ∀ k, (∀ y0 y1 y2 y3 y4 y5 y6 y7 y8 y9 y10 y11 y12 y13, LeO (cohousinglaw21_PointsMatchesReference.j0 k y0 y1 y2 y3 y4 y5 y6 y7 y8 y9 y10 y11 y12 y13) (cohousinglaw21_PointsMatchesReference.j0 (k + 1) y0 y1 y2 y3 y4 y5 y6 y7 y8 y9 y10 y11 y12 y13)) ∧ (∀ y0 y1 y2 y3 y4 y5 y6 y7, LeO (cohousinglaw21_PointsMatchesReference.j1 k y0 y1 y2 y3 y4 y5 y6 y7) (cohousinglaw21_PointsMatchesReference.j1 (k + 1) y0 y1 y2 y3 y4 y5 y6 y7))
  | 0 => ⟨fun _ _ _ _ _ _ _ _ _ _ _ _ _ _ r h => by simp [cohousinglaw21_PointsMatchesReference.j0] at h, fun _ _ _ _ _ _ _ _ r h => by simp [cohousinglaw21_PointsMatchesReference.j1] at h⟩
  | k + 1 => by
    obtain ⟨ih0, ih1⟩ := cohousinglaw21_PointsMatchesReference.mono_l k
    refine ⟨?_, ?_⟩
    · intro y0 y1 y2 y3 y4 y5 y6 y7 y8 y9 y10 y11 y12 y13
      unfold cohousinglaw21_PointsMatchesReference.j0
      with_reducible (repeat' first | apply ih0 | apply ih1 | apply cohousinglaw21_head.mono | apply cohousingref21_Count.mono | apply cohousingref21_Order.mono | apply cohousingref21_Same.mono | apply points_Count.mono | apply points_Order.mono | apply LeO.refl | apply LeO.none | apply LeO.ite | refine LeO.bind ?_ (fun _ => ?_))
    · intro y0 y1 y2 y3 y4 y5 y6 y7
      unfold cohousinglaw21_PointsMatchesReference.j1
      with_reducible (repeat' first | apply ih0 | apply ih1 | apply cohousinglaw21_head.mono | apply cohousingref21_Count.mono | apply cohousingref21_Order.mono | apply cohousingref21_Same.mono | apply points_Count.mono | apply points_Order.mono | apply LeO.refl | apply LeO.none | apply LeO.ite | refine LeO.bind ?_ (fun _ => ?_))
theorem cohousinglaw21_PointsMatchesReference.mono : ∀ a0 a1 a2 a3 a4 a5 a6 a7 a8 a9 a10 a11 k, LeO (cohousinglaw21_PointsMatchesReference.f k a0 a1 a2 a3 a4 a5 a6 a7 a8 a9 a10 a11) (cohousinglaw21_PointsMatchesReference.f (k + 1) a0 a1 a2 a3 a4 a5 a6 a7 a8 a9 a10 a11) := by
  intro a0 a1 a2 a3 a4 a5 a6 a7 a8 a9 a10 a11 k
  obtain ⟨ih0, ih1⟩ := cohousinglaw21_PointsMatchesReference.mono_l k
  unfold cohousinglaw21_PointsMatchesReference.f
  with_reducible (repeat' first | apply ih0 | apply ih1 | apply cohousinglaw21_head.mono | apply cohousingref21_Count.mono | apply cohousingref21_Order.mono | apply cohousingref21_Same.mono | apply points_Count.mono | apply points_Order.mono | apply LeO.refl | apply LeO.none | apply LeO.ite | refine LeO.bind ?_ (fun _ => ?_))
set_option maxHeartbeats 8000000 in
set_option maxRecDepth 100000 in
theorem cohousinglaw21_PointsMatchesReference.calls (k : Nat) (a0_0 a0_1 a0_2 a0_3 a1_0 a1_1 a1_2 a1_3 a1_4 : Int) (A2 : Option Addr) (c2 : Nat) (l2 : List (S25)) (a3 : Int) (A4 : Option Addr) (c4 : Nat) (l4 : List Int) (r : Bool) (w : World) (hr2 : Kd.C k25 w A2 l2.length l2) (hc2 : l2.length ≤ c2) (hr4 : Kd.C (Kd.int .i64) w A4 l4.length l4) (hc4 : l4.length ≤ c4) (HT : TabOK w) (h : cohousinglaw21_PointsMatchesReference.f k a0_0 a0_1 a0_2 a0_3 a1_0 a1_1 a1_2 a1_3 a1_4 l2 a3 l4 = some r) :
    Calls Tryd.prog 3 #[.agg #[.int .i64 a0_0, .int .i64 a0_1, .int .i64 a0_2, .int .i64 a0_3], .agg #[.int .i64 a1_0, .int .i64 a1_1, .int .i64 a1_2, .int .i64 a1_3, .int .i64 a1_4], .slice A2 l2.length c2, .int .i64 a3, .slice A4 l4.length c4] w fun e w' => e = .returned (.bool r) ∧ Below w.heap.size w w' := by
  have hu23 := Tryd.underlying23
  have hu25 := Tryd.underlying25
  have HTA := Aside0.mk HT
  clear HT
  have HR2 := Aside0.mk hr2
  have HC2 := Aside0.mk hc2
  clear hr2 hc2
  have HR4 := Aside0.mk hr4
  have HC4 := Aside0.mk hc4
  clear hr4 hc4
  have HB := Aside0.mk (Below.refl w.heap.size w)
  have H : ((cohousinglaw21_head.f k).bind fun t243 => (if (l2.length : Int) > 70 then (cohousinglaw21_PointsMatchesReference.j0 k l2 a3 l4 t243 true a0_0 a0_1 a0_2 a0_3 a1_0 a1_1 a1_2 a1_3 a1_4) else (cohousinglaw21_PointsMatchesReference.j0 k l2 a3 l4 t243 (decide ((l4.length : Int) > 70)) a0_0 a0_1 a0_2 a0_3 a1_0 a1_1 a1_2 a1_3 a1_4))) = some r := h
  clear h
  replace H := Option.bind_eq_some_iff.mp H
  obtain ⟨t243, A60, H⟩ := H
  replace H : (if (l2.length : Int) > 70 then (cohousinglaw21_PointsMatchesReference.j0 k l2 a3 l4 t243 true a0_0 a0_1 a0_2 a0_3 a1_0 a1_1 a1_2 a1_3 a1_4) else (cohousinglaw21_PointsMatchesReference.j0 k l2 a3 l4 t243 (decide ((l4.length : Int) > 70)) a0_0 a0_1 a0_2 a0_3 a1_0 a1_1 a1_2 a1_3 a1_4)) = some r := H
  have A6 := Aside0.mk A60
  clear A60
  have HC7 := Aside0.mk H
  clear H
  go_enter Tryd.func3, Tryd.ntmps3
  go_upto_region 2 with (first | ((with_reducible refine gate_dst (N := 5) rfl ?_); (try (refine gate_guard (by rfl) ?_; dsimp only)); refine qev_ 5 #[.int .i64 a0_0, .int .i64 a0_1, .int .i64 a0_2, .int .i64 a0_3] 23 ?_; intro gb241 hg w8 hbox hb; have BK241 := Aside0.mk (hbox); have GW241 := qga_ hg; have GE241 := qga_ hg; replace HB := qbs_ hb; clear hb hbox hg) | ((with_reducible refine gate_dst (N := 6) rfl ?_); (try (refine gate_guard (by rfl) ?_; dsimp only)); refine qev_ 6 #[.int .i64 a1_0, .int .i64 a1_1, .int .i64 a1_2, .int .i64 a1_3, .int .i64 a1_4] 25 ?_; intro gb242 hg w9 hbox hb; have BK242 := Aside0.mk (hbox); have GW242 := qga_ hg; have GE242 := qga_ hg; replace HB := qbs_ hb; have NB241_242 := Aside0.mk ((by rw [hg]; exact Nat.ne_of_lt (blk_lt (qk_ BK241)) : gb241 ≠ gb242)); have NB242_241 := Aside0.mk ((by rw [hg]; exact Nat.ne_of_gt (blk_lt (qk_ BK241)) : gb242 ≠ gb241)); replace BK241 := qkb_ BK241 hb; clear hb hbox hg) | ((with_reducible refine gate_callee (f := 10) rfl ?_); refine goesL_ (some 18) rfl rfl Tryd.func10 (by kernel_rfl) rfl #[] rfl ql_ ?_; (with_reducible refine (cohousinglaw21_head.calls k  t243 _ ?side1 A6.out).mono ?_); (case side1 => exact TabOK.below HTA.out qb_); rintro e w10 ⟨rfl, hb⟩; refine ⟨_, rfl, ?_⟩; replace BK241 := qkb_ BK241 hb; replace BK242 := qkb_ BK242 hb; replace HB := qbs_ hb; (try clear hb); (try clear hb2); (try clear hk); (try clear hi)))
  (try simp only [Act.put, List.setIfInBounds_toArray, List.set_cons_zero, List.set_cons_succ])
  go_cut [26] (fun v26 wc => ∃ (kq : Nat) (x26_6 : Bool), v26 = .bool x26_6 ∧ Aside0 (cohousinglaw21_PointsMatchesReference.j0 kq l2 a3 l4 t243 x26_6 a0_0 a0_1 a0_2 a0_3 a1_0 a1_1 a1_2 a1_3 a1_4 = some r) ∧ Aside0 (kq ≤ k) ∧ Aside0 (wc.heap[gb241]? = some (.cells #[.int .i64 a0_0, .int .i64 a0_1, .int .i64 a0_2, .int .i64 a0_3] 23 (0, 0))) ∧ Aside0 (wc.heap[gb242]? = some (.cells #[.int .i64 a1_0, .int .i64 a1_1, .int .i64 a1_2, .int .i64 a1_3, .int .i64 a1_4] 25 (0, 0))) ∧ Aside0 (Below w.heap.size w wc))
  case first =>
    have H := HC7.out
    clear HC7
    by_cases c11 : (l2.length : Int) > 70
    · rw [if_pos c11] at H
      have c11b0 : decide (70 < (l2.length : Int)) = true := decide_eq_true c11
      have c11b1 : decide (70 < l2.length) = true := decide_eq_true (by omega)
      clear c11
      (first | rw [c11b0] | (simp only [i64_w, i32_w]; rw [c11b0]) | skip)
      have H' := Aside0.mk H
      clear H
      go_wp2
      go_meet
      case rel => exact ⟨_, (true), qs_, H', ⟨qo_⟩, ⟨qk_ BK241⟩, ⟨qk_ BK242⟩, ⟨qb_⟩⟩
    · rw [if_neg c11] at H
      have c11b0 : decide (70 < (l2.length : Int)) = false := decide_eq_false c11
      have c11b1 : decide (70 < l2.length) = false := decide_eq_false (by omega)
      clear c11
      (first | rw [c11b0] | (simp only [i64_w, i32_w]; rw [c11b0]) | skip)
      have H' := Aside0.mk H
      clear H
      go_wp2
      go_meet
      case rel => exact ⟨_, (decide ((l4.length : Int) > 70)), qs_, H', ⟨qo_⟩, ⟨qk_ BK241⟩, ⟨qk_ BK242⟩, ⟨qb_⟩⟩
  case rest =>
    clear HC7
    try clear c1
    try clear c2
    try clear p2
    try clear c3
    try clear c4
    try clear c10
    try clear c11
    try clear c11b0
    try clear c11b1
    obtain ⟨kq, x26_6, rfl, HA, HJ6, BK241, BK242, HB⟩ := hcut
    cases kq with
    | zero => exact absurd HA.out (by simp [cohousinglaw21_PointsMatchesReference.j0])
    | succ kj6 =>
      have H := HA.out
      clear HA
      simp only [cohousinglaw21_PointsMatchesReference.j0] at H
      by_cases c12 : x26_6 = true
      · subst c12
        have H1 : (some t243) = some r := by rw [if_pos rfl] at H; exact H
        clear H
        have H := H1
        clear H1
        obtain rfl := Option.some.inj H
        go_wp2
        go_ret
        exact ⟨qx_, qb_⟩
      · replace c12 := Bool.eq_false_iff.mpr c12
        subst c12
        have H1 : ((points_Count.f kj6 a0_0 a0_1 a0_2 a0_3 a1_0 a1_1 a1_2 a1_3 a1_4 a3).bind fun bt244 => ((cohousingref21_Count.f kj6 a0_0 a0_1 a0_2 a0_3 a1_0 a1_1 a1_2 a1_3 a1_4 a3).bind fun bt246 => (if t243 = true then (if bt244.1 = bt246.1 then (cohousinglaw21_PointsMatchesReference.j1 kj6 l2 a3 l4 (bt244.2 == bt246.2) a0_0 a0_1 a0_2 a0_3) else (cohousinglaw21_PointsMatchesReference.j1 kj6 l2 a3 l4 false a0_0 a0_1 a0_2 a0_3)) else (cohousinglaw21_PointsMatchesReference.j1 kj6 l2 a3 l4 false a0_0 a0_1 a0_2 a0_3)))) = some r := by rw [if_neg (show ¬ (false = true) by decide)] at H; exact H
        clear H
        have H := H1
        clear H1
        replace H := Option.bind_eq_some_iff.mp H
        obtain ⟨⟨t244, t245⟩, A130, H⟩ := H
        replace H : ((cohousingref21_Count.f kj6 a0_0 a0_1 a0_2 a0_3 a1_0 a1_1 a1_2 a1_3 a1_4 a3).bind fun bt246 => (if t243 = true then (if t244 = bt246.1 then (cohousinglaw21_PointsMatchesReference.j1 kj6 l2 a3 l4 (t245 == bt246.2) a0_0 a0_1 a0_2 a0_3) else (cohousinglaw21_PointsMatchesReference.j1 kj6 l2 a3 l4 false a0_0 a0_1 a0_2 a0_3)) else (cohousinglaw21_PointsMatchesReference.j1 kj6 l2 a3 l4 false a0_0 a0_1 a0_2 a0_3))) = some r := H
        have A13 := Aside0.mk A130
        clear A130
        replace H := Option.bind_eq_some_iff.mp H
        obtain ⟨⟨t246, t247⟩, A140, H⟩ := H
        replace H : (if t243 = true then (if t244 = t246 then (cohousinglaw21_PointsMatchesReference.j1 kj6 l2 a3 l4 (t245 == t247) a0_0 a0_1 a0_2 a0_3) else (cohousinglaw21_PointsMatchesReference.j1 kj6 l2 a3 l4 false a0_0 a0_1 a0_2 a0_3)) else (cohousinglaw21_PointsMatchesReference.j1 kj6 l2 a3 l4 false a0_0 a0_1 a0_2 a0_3)) = some r := H
        have A14 := Aside0.mk A140
        clear A140
        have HC15 := Aside0.mk H
        clear H
        have hnb16 := NB241_242.out
        have hnc16 := NB242_241.out
        obtain ⟨hcz17_0, hcz17_1, hcz17_2, hcz17_3⟩ := qz4_ BK241; obtain ⟨hfz17_0, hfz17_1, hfz17_2, hfz17_3⟩ := qf4_ BK241
        obtain ⟨hcz18_0, hcz18_1, hcz18_2, hcz18_3, hcz18_4⟩ := qz5_ BK242; obtain ⟨hfz18_0, hfz18_1, hfz18_2, hfz18_3, hfz18_4⟩ := qf5_ BK242
        go_upto_region 6 with (first | ((with_reducible refine gate_callee (f := 11) rfl ?_); refine goesL_ (some 32) rfl rfl Tryd.func11 (by kernel_rfl) rfl #[.agg #[.int .i64 a0_0, .int .i64 a0_1, .int .i64 a0_2, .int .i64 a0_3], .agg #[.int .i64 a1_0, .int .i64 a1_1, .int .i64 a1_2, .int .i64 a1_3, .int .i64 a1_4], .int .i64 a3] rfl ql_ ?_; (with_reducible refine (points_Count.calls kj6 a0_0 a0_1 a0_2 a0_3 a1_0 a1_1 a1_2 a1_3 a1_4 a3 t244 t245 _ ?side1 A13.out).mono ?_); (case side1 => exact TabOK.below HTA.out qb_); rintro e w19 ⟨rfl, hb⟩; refine ⟨_, rfl, ?_⟩; replace BK241 := qkb_ BK241 hb; replace BK242 := qkb_ BK242 hb; replace HB := qbs_ hb; (try clear hb); (try clear hb2); (try clear hk); (try clear hi); obtain ⟨hcz20_0, hcz20_1, hcz20_2, hcz20_3⟩ := qz4_ BK241; obtain ⟨hfz20_0, hfz20_1, hfz20_2, hfz20_3⟩ := qf4_ BK241; obtain ⟨hcz21_0, hcz21_1, hcz21_2, hcz21_3, hcz21_4⟩ := qz5_ BK242; obtain ⟨hfz21_0, hfz21_1, hfz21_2, hfz21_3, hfz21_4⟩ := qf5_ BK242) | ((with_reducible refine gate_callee (f := 12) rfl ?_); refine goesL_ (some 39) rfl rfl Tryd.func12 (by kernel_rfl) rfl #[.agg #[.int .i64 a0_0, .int .i64 a0_1, .int .i64 a0_2, .int .i64 a0_3], .agg #[.int .i64 a1_0, .int .i64 a1_1, .int .i64 a1_2, .int .i64 a1_3, .int .i64 a1_4], .int .i64 a3] rfl ql_ ?_; (with_reducible refine (cohousingref21_Count.calls kj6 a0_0 a0_1 a0_2 a0_3 a1_0 a1_1 a1_2 a1_3 a1_4 a3 t246 t247 _ A14.out).mono ?_); rintro e w22 ⟨rfl, hb⟩; refine ⟨_, rfl, ?_⟩; replace BK241 := qkb_ BK241 hb; replace BK242 := qkb_ BK242 hb; replace HB := qbs_ hb; (try clear hb); (try clear hb2); (try clear hk); (try clear hi)))
        (try simp only [Act.put, List.setIfInBounds_toArray, List.set_cons_zero, List.set_cons_succ])
        go_cut [11] (fun v11 wc => ∃ (kq : Nat) (x11_14 : Bool), v11 = .bool x11_14 ∧ Aside0 (cohousinglaw21_PointsMatchesReference.j1 kq l2 a3 l4 x11_14 a0_0 a0_1 a0_2 a0_3 = some r) ∧ Aside0 (kq ≤ kj6) ∧ Aside0 (wc.heap[gb241]? = some (.cells #[.int .i64 a0_0, .int .i64 a0_1, .int .i64 a0_2, .int .i64 a0_3] 23 (0, 0))) ∧ Aside0 (wc.heap[gb242]? = some (.cells #[.int .i64 a1_0, .int .i64 a1_1, .int .i64 a1_2, .int .i64 a1_3, .int .i64 a1_4] 25 (0, 0))) ∧ Aside0 (Below w.heap.size w wc))
        case first =>
          have H := HC15.out
          clear HC15
          by_cases c23 : t243 = true
          · subst c23
            have H1 : (if t244 = t246 then (cohousinglaw21_PointsMatchesReference.j1 kj6 l2 a3 l4 (t245 == t247) a0_0 a0_1 a0_2 a0_3) else (cohousinglaw21_PointsMatchesReference.j1 kj6 l2 a3 l4 false a0_0 a0_1 a0_2 a0_3)) = some r := by rw [if_pos rfl] at H; exact H
            clear H
            have H := H1
            clear H1
            by_cases c24 : t244 = t246
            · rw [if_pos c24] at H
              have c24b0 : (t244 == t246) = true := beq_iff_eq.mpr c24
              have c24b1 : (t244 != t246) = false := bne_eq_false_iff_eq.mpr c24
              clear c24
              (first | rw [c24b0] | (simp only [i64_w, i32_w]; rw [c24b0]) | skip)
              have H' := Aside0.mk H
              clear H
              go_wp2
              go_meet
              case rel => exact ⟨_, ((t245 == t247)), qs_, H', ⟨by have := HJ6.out; first | omega | exact Nat.le_refl _⟩, ⟨qk_ BK241⟩, ⟨qk_ BK242⟩, ⟨qb_⟩⟩
            · rw [if_neg c24] at H
              have c24b0 : (t244 == t246) = false := beq_eq_false_iff_ne.mpr c24
              have c24b1 : (t244 != t246) = true := bne_iff_ne.mpr c24
              (first | rw [c24b0] | (simp only [i64_w, i32_w]; rw [c24b0]) | skip)
              have H' := Aside0.mk H
              clear H
              go_wp2
              go_meet
              case rel => exact ⟨_, (false), qs_, H', ⟨by have := HJ6.out; first | omega | exact Nat.le_refl _⟩, ⟨qk_ BK241⟩, ⟨qk_ BK242⟩, ⟨qb_⟩⟩
          · replace c23 := Bool.eq_false_iff.mpr c23
            subst c23
            have H1 : (cohousinglaw21_PointsMatchesReference.j1 kj6 l2 a3 l4 false a0_0 a0_1 a0_2 a0_3) = some r := by rw [if_neg (show ¬ (false = true) by decide)] at H; exact H
            clear H
            have H := H1
            clear H1
            have H' := Aside0.mk H
            clear H
            go_wp2
            go_meet
            case rel => exact ⟨_, (false), qs_, H', ⟨by have := HJ6.out; first | omega | exact Nat.le_refl _⟩, ⟨qk_ BK241⟩, ⟨qk_ BK242⟩, ⟨qb_⟩⟩
        case rest =>
          clear HC15
          try clear c1
          try clear c2
          try clear p2
          try clear c3
          try clear c4
          try clear c10
          try clear c11
          try clear c11b0
          try clear c11b1
          try clear c12
          try clear c16
          try clear c23
          try clear c24
          try clear c24b0
          try clear c24b1
          try clear hcz17_0 hcz17_1 hcz17_2 hcz17_3
          try clear hcz18_0 hcz18_1 hcz18_2 hcz18_3 hcz18_4
          try clear hcz20_0 hcz20_1 hcz20_2 hcz20_3
          try clear hcz21_0 hcz21_1 hcz21_2 hcz21_3 hcz21_4
          try clear hfz17_0 hfz17_1 hfz17_2 hfz17_3
          try clear hfz18_0 hfz18_1 hfz18_2 hfz18_3 hfz18_4
          try clear hfz20_0 hfz20_1 hfz20_2 hfz20_3
          try clear hfz21_0 hfz21_1 hfz21_2 hfz21_3 hfz21_4
          try clear p2
          obtain ⟨kq, x11_14, rfl, HA, HJ14, BK241, BK242, HB⟩ := hcut
          cases kq with
          | zero => exact absurd HA.out (by simp [cohousinglaw21_PointsMatchesReference.j1])
          | succ kj14 =>
            have H := HA.out
            clear HA
            simp only [cohousinglaw21_PointsMatchesReference.j1] at H
            replace H := Option.bind_eq_some_iff.mp H
            obtain ⟨⟨t248, t251⟩, A250, H⟩ := H
            replace H : ((cohousingref21_Order.f kj14 a0_0 a0_1 a0_2 a0_3 l2 a3 l4).bind fun bt252 => (if x11_14 = true then ((cohousingref21_Same.f kj14 t248 bt252.1).bind fun t256 => (if t256 = true then (some (t251 == bt252.2)) else (some false))) else (some false))) = some r := H
            have A25 := Aside0.mk A250
            clear A250
            replace H := Option.bind_eq_some_iff.mp H
            obtain ⟨⟨t252, t255⟩, A260, H⟩ := H
            replace H : (if x11_14 = true then ((cohousingref21_Same.f kj14 t248 t252).bind fun t256 => (if t256 = true then (some (t251 == t255)) else (some false))) else (some false)) = some r := H
            have A26 := Aside0.mk A260
            clear A260
            by_cases c27 : x11_14 = true
            · subst c27
              have H1 : ((cohousingref21_Same.f kj14 t248 t252).bind fun t256 => (if t256 = true then (some (t251 == t255)) else (some false))) = some r := by rw [if_pos rfl] at H; exact H
              clear H
              have H := H1
              clear H1
              replace H := Option.bind_eq_some_iff.mp H
              obtain ⟨t256, A280, H⟩ := H
              replace H : (if t256 = true then (some (t251 == t255)) else (some false)) = some r := H
              have A28 := Aside0.mk A280
              clear A280
              by_cases c29 : t256 = true
              · subst c29
                have H1 : (some (t251 == t255)) = some r := by rw [if_pos rfl] at H; exact H
                clear H
                have H := H1
                clear H1
                obtain rfl := Option.some.inj H
                have hnb30 := NB241_242.out
                have hnc30 := NB242_241.out
                obtain ⟨hcz31_0, hcz31_1, hcz31_2, hcz31_3⟩ := qz4_ BK241; obtain ⟨hfz31_0, hfz31_1, hfz31_2, hfz31_3⟩ := qf4_ BK241
                go_wp2_with (first | ((with_reducible refine gate_callee (f := 13) rfl ?_); refine goesL_ (some 58) rfl rfl Tryd.func13 (by kernel_rfl) rfl #[.agg #[.int .i64 a0_0, .int .i64 a0_1, .int .i64 a0_2, .int .i64 a0_3], .slice A2 l2.length c2, .int .i64 a3, .slice A4 l4.length c4] rfl ql_ ?_; (with_reducible refine (points_Order.calls kj14 a0_0 a0_1 a0_2 a0_3 _ _ l2 a3 _ _ l4 t248 t251 _ ?side1 ?side2 ?side3 ?side4 ?side5 A25.out).mono ?_); (case side1 => exact qc_ HR2); (case side2 => exact HC2.out); (case side3 => exact qc_ HR4); (case side4 => exact HC4.out); (case side5 => exact TabOK.below HTA.out qb_); rintro e w32 ⟨v249, rfl, ho0, hb⟩; refine ⟨_, rfl, ?_⟩; have HO250 := Aside0.mk (Kd.R_lower ho0 (below_size qb_)); replace BK241 := qkb_ BK241 hb; replace BK242 := qkb_ BK242 hb; replace HB := qbs_ hb; (try clear hb); (try clear hb2); (try clear hk); (try clear hi); (try clear ho0); obtain ⟨hcz33_0, hcz33_1, hcz33_2, hcz33_3⟩ := qz4_ BK241; obtain ⟨hfz33_0, hfz33_1, hfz33_2, hfz33_3⟩ := qf4_ BK241) | ((with_reducible refine gate_callee (f := 14) rfl ?_); refine goesL_ (some 66) rfl rfl Tryd.func14 (by kernel_rfl) rfl #[.agg #[.int .i64 a0_0, .int .i64 a0_1, .int .i64 a0_2, .int .i64 a0_3], .slice A2 l2.length c2, .int .i64 a3, .slice A4 l4.length c4] rfl ql_ ?_; (with_reducible refine (cohousingref21_Order.calls kj14 a0_0 a0_1 a0_2 a0_3 _ _ l2 a3 _ _ l4 t252 t255 _ ?side1 ?side2 ?side3 ?side4 A26.out).mono ?_); (case side1 => exact qc_ HR2); (case side2 => exact HC2.out); (case side3 => exact qc_ HR4); (case side4 => exact HC4.out); rintro e w34 ⟨v253, rfl, ho0, hb⟩; refine ⟨_, rfl, ?_⟩; have HO254 := Aside0.mk (Kd.R_lower (Kd.R_new' ho0 (Kd.R_lt (qr_ HO250))) (below_size qb_)); replace HO250 := qel_ HO250 ho0 hb; replace BK241 := qkb_ BK241 hb; replace BK242 := qkb_ BK242 hb; replace HB := qbs_ hb; (try clear hb); (try clear hb2); (try clear hk); (try clear hi); (try clear ho0); obtain ⟨Ao35, co35, eo35⟩ := Kd.R_slice HO250.out; subst eo35; obtain ⟨Ao36, co36, eo36⟩ := Kd.R_slice HO254.out; subst eo36) | (go_at_call 15; (with_reducible refine (cohousingref21_Same.calls kj14 _ _ t248 _ _ t252 true _ ?side1 ?side2 ?side3 ?side4 A28.out).mono ?_); (case side1 => exact qv_ (Kd.R_reads' HO250.out).2.2); (case side2 => exact (Kd.R_reads' HO250.out).2.1); (case side3 => exact qv_ (Kd.R_reads' HO254.out).2.2); (case side4 => exact (Kd.R_reads' HO254.out).2.1); rintro e w' ⟨rfl, ⟨nd, rfl⟩⟩))
                go_ret
                exact ⟨qx_, qb_⟩
              · replace c29 := Bool.eq_false_iff.mpr c29
                subst c29
                have H1 : (some false) = some r := by rw [if_neg (show ¬ (false = true) by decide)] at H; exact H
                clear H
                have H := H1
                clear H1
                obtain rfl := Option.some.inj H
                have hnb37 := NB241_242.out
                have hnc37 := NB242_241.out
                obtain ⟨hcz38_0, hcz38_1, hcz38_2, hcz38_3⟩ := qz4_ BK241; obtain ⟨hfz38_0, hfz38_1, hfz38_2, hfz38_3⟩ := qf4_ BK241
                go_wp2_with (first | ((with_reducible refine gate_callee (f := 13) rfl ?_); refine goesL_ (some 58) rfl rfl Tryd.func13 (by kernel_rfl) rfl #[.agg #[.int .i64 a0_0, .int .i64 a0_1, .int .i64 a0_2, .int .i64 a0_3], .slice A2 l2.length c2, .int .i64 a3, .slice A4 l4.length c4] rfl ql_ ?_; (with_reducible refine (points_Order.calls kj14 a0_0 a0_1 a0_2 a0_3 _ _ l2 a3 _ _ l4 t248 t251 _ ?side1 ?side2 ?side3 ?side4 ?side5 A25.out).mono ?_); (case side1 => exact qc_ HR2); (case side2 => exact HC2.out); (case side3 => exact qc_ HR4); (case side4 => exact HC4.out); (case side5 => exact TabOK.below HTA.out qb_); rintro e w39 ⟨v249, rfl, ho0, hb⟩; refine ⟨_, rfl, ?_⟩; have HO250 := Aside0.mk (Kd.R_lower ho0 (below_size qb_)); replace BK241 := qkb_ BK241 hb; replace BK242 := qkb_ BK242 hb; replace HB := qbs_ hb; (try clear hb); (try clear hb2); (try clear hk); (try clear hi); (try clear ho0); obtain ⟨hcz40_0, hcz40_1, hcz40_2, hcz40_3⟩ := qz4_ BK241; obtain ⟨hfz40_0, hfz40_1, hfz40_2, hfz40_3⟩ := qf4_ BK241) | ((with_reducible refine gate_callee (f := 14) rfl ?_); refine goesL_ (some 66) rfl rfl Tryd.func14 (by kernel_rfl) rfl #[.agg #[.int .i64 a0_0, .int .i64 a0_1, .int .i64 a0_2, .int .i64 a0_3], .slice A2 l2.length c2, .int .i64 a3, .slice A4 l4.length c4] rfl ql_ ?_; (with_reducible refine (cohousingref21_Order.calls kj14 a0_0 a0_1 a0_2 a0_3 _ _ l2 a3 _ _ l4 t252 t255 _ ?side1 ?side2 ?side3 ?side4 A26.out).mono ?_); (case side1 => exact qc_ HR2); (case side2 => exact HC2.out); (case side3 => exact qc_ HR4); (case side4 => exact HC4.out); rintro e w41 ⟨v253, rfl, ho0, hb⟩; refine ⟨_, rfl, ?_⟩; have HO254 := Aside0.mk (Kd.R_lower (Kd.R_new' ho0 (Kd.R_lt (qr_ HO250))) (below_size qb_)); replace HO250 := qel_ HO250 ho0 hb; replace BK241 := qkb_ BK241 hb; replace BK242 := qkb_ BK242 hb; replace HB := qbs_ hb; (try clear hb); (try clear hb2); (try clear hk); (try clear hi); (try clear ho0); obtain ⟨Ao42, co42, eo42⟩ := Kd.R_slice HO250.out; subst eo42; obtain ⟨Ao43, co43, eo43⟩ := Kd.R_slice HO254.out; subst eo43) | (go_at_call 15; (with_reducible refine (cohousingref21_Same.calls kj14 _ _ t248 _ _ t252 false _ ?side1 ?side2 ?side3 ?side4 A28.out).mono ?_); (case side1 => exact qv_ (Kd.R_reads' HO250.out).2.2); (case side2 => exact (Kd.R_reads' HO250.out).2.1); (case side3 => exact qv_ (Kd.R_reads' HO254.out).2.2); (case side4 => exact (Kd.R_reads' HO254.out).2.1); rintro e w' ⟨rfl, ⟨nd, rfl⟩⟩))
                go_ret
                exact ⟨qx_, qb_⟩
            · replace c27 := Bool.eq_false_iff.mpr c27
              subst c27
              have H1 : (some false) = some r := by rw [if_neg (show ¬ (false = true) by decide)] at H; exact H
              clear H
              have H := H1
              clear H1
              obtain rfl := Option.some.inj H
              have hnb44 := NB241_242.out
              have hnc44 := NB242_241.out
              obtain ⟨hcz45_0, hcz45_1, hcz45_2, hcz45_3⟩ := qz4_ BK241; obtain ⟨hfz45_0, hfz45_1, hfz45_2, hfz45_3⟩ := qf4_ BK241
              go_wp2_with (first | ((with_reducible refine gate_callee (f := 13) rfl ?_); refine goesL_ (some 58) rfl rfl Tryd.func13 (by kernel_rfl) rfl #[.agg #[.int .i64 a0_0, .int .i64 a0_1, .int .i64 a0_2, .int .i64 a0_3], .slice A2 l2.length c2, .int .i64 a3, .slice A4 l4.length c4] rfl ql_ ?_; (with_reducible refine (points_Order.calls kj14 a0_0 a0_1 a0_2 a0_3 _ _ l2 a3 _ _ l4 t248 t251 _ ?side1 ?side2 ?side3 ?side4 ?side5 A25.out).mono ?_); (case side1 => exact qc_ HR2); (case side2 => exact HC2.out); (case side3 => exact qc_ HR4); (case side4 => exact HC4.out); (case side5 => exact TabOK.below HTA.out qb_); rintro e w46 ⟨v249, rfl, ho0, hb⟩; refine ⟨_, rfl, ?_⟩; have HO250 := Aside0.mk (Kd.R_lower ho0 (below_size qb_)); replace BK241 := qkb_ BK241 hb; replace BK242 := qkb_ BK242 hb; replace HB := qbs_ hb; (try clear hb); (try clear hb2); (try clear hk); (try clear hi); (try clear ho0); obtain ⟨hcz47_0, hcz47_1, hcz47_2, hcz47_3⟩ := qz4_ BK241; obtain ⟨hfz47_0, hfz47_1, hfz47_2, hfz47_3⟩ := qf4_ BK241) | ((with_reducible refine gate_callee (f := 14) rfl ?_); refine goesL_ (some 66) rfl rfl Tryd.func14 (by kernel_rfl) rfl #[.agg #[.int .i64 a0_0, .int .i64 a0_1, .int .i64 a0_2, .int .i64 a0_3], .slice A2 l2.length c2, .int .i64 a3, .slice A4 l4.length c4] rfl ql_ ?_; (with_reducible refine (cohousingref21_Order.calls kj14 a0_0 a0_1 a0_2 a0_3 _ _ l2 a3 _ _ l4 t252 t255 _ ?side1 ?side2 ?side3 ?side4 A26.out).mono ?_); (case side1 => exact qc_ HR2); (case side2 => exact HC2.out); (case side3 => exact qc_ HR4); (case side4 => exact HC4.out); rintro e w48 ⟨v253, rfl, ho0, hb⟩; refine ⟨_, rfl, ?_⟩; have HO254 := Aside0.mk (Kd.R_lower (Kd.R_new' ho0 (Kd.R_lt (qr_ HO250))) (below_size qb_)); replace HO250 := qel_ HO250 ho0 hb; replace BK241 := qkb_ BK241 hb; replace BK242 := qkb_ BK242 hb; replace HB := qbs_ hb; (try clear hb); (try clear hb2); (try clear hk); (try clear hi); (try clear ho0)))
              go_ret
              exact ⟨qx_, qb_⟩

end Go.Proofs.YtfhmbfadbfnnaaaDoor.Px
