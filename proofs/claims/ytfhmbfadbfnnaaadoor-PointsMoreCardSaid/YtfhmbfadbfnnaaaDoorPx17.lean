/- Contracts of Go functions, written by a program of this session's own (wip/tools/myprint.py) out of the translation: each Go function does what the Lean function of its name says. Conditions: as each theorem states. -/
import Derived.Test.YtfhmbfadbfnnaaaDoorPx0
import Derived.Test.YtfhmbfadbfnnaaaDoorPx6
import Derived.Test.YtfhmbfadbfnnaaaDoorPx7
import Derived.Test.YtfhmbfadbfnnaaaDoorPx14
import Derived.Test.YtfhmbfadbfnnaaaDoorGHead
namespace Go.Proofs.YtfhmbfadbfnnaaaDoor.Px
open Go.Proofs.YtfhmbfadbfnnaaaDoor.Given
open Go.RowKit Go.Proofs.YtfhmbfadbfnnaaaDoorW.PrintWords Go.Proofs.YtfhmbfadbfnnaaaDoorW.PrintLast Go.Proofs.YtfhmbfadbfnnaaaDoorW.PrintMore
attribute [local go_sem] max2_int min2_int max_two min_two max_three min_three max_four min_four   -- for this text's walks alone
set_option linter.unusedVariables false
set_option linter.unusedSimpArgs false

/-! ### cohousinglaw21_PointsMore: function 7 -/
mutual
def cohousinglaw21_PointsMore.j0 : Nat → List (S25) → Int → List Int → Int → Int → Bool → Bool → Int → Int → Int → Int → Option (Bool)
  | 0, _, _, _, _, _, _, _, _, _, _, _ => none
  | k + 1, x1, x2, x3, x4, x5, x13, x45, x368000, x368001, x368002, x368003 => if x45 = true then (some x13) else (if (x1.length : Int) = 0 then (none) else ((some (([] : List (S25)) : List (S25))).bind fun y373 => (if y373.length + x1.length < 3518437208883 then ((some (y373 ++ x1 : List (S25))).bind fun y376 => (if 0 ≤ (Int.tmod (wrap64 (x4)) (x1.length : Int)) then (if (Int.tmod (wrap64 (x4)) (x1.length : Int)) < (y376.length : Int) then ((points_Order.f k x368000 x368001 x368002 x368003 x1 x2 x3).bind fun bt381 => ((points_Order.f k x368000 x368001 x368002 x368003 (y376.set ((Int.tmod (wrap64 (x4)) (x1.length : Int)) : Int).toNat (⟨(rd_T25 y376 (Int.tmod (wrap64 (x4)) (x1.length : Int))).f0, (rd_T25 y376 (Int.tmod (wrap64 (x4)) (x1.length : Int))).f1, (rd_T25 y376 (Int.tmod (wrap64 (x4)) (x1.length : Int))).f2, wrap64 (((rd_T25 y376 (Int.tmod (wrap64 (x4)) (x1.length : Int))).f3) + (wrap64 (x5))), (rd_T25 y376 (Int.tmod (wrap64 (x4)) (x1.length : Int))).f4⟩ : S25)) x2 x3).bind fun bt385 => (if bt385.2 = 0 then (cohousinglaw21_PointsMore.l0 k x13 (Int.tmod (wrap64 (x4)) (x1.length : Int)) bt381.2 bt385.1 ([] : List Int) (-1) (-1) bt381.1 (bt381.1.length : Int) 0) else (if x13 = true then (if bt381.2 = 0 then (some ((bt385.1.length : Int) == 0)) else (some false)) else (some false))))) else (none)) else (none))) else (none))))
def cohousinglaw21_PointsMore.l0 : Nat → Bool → Int → Int → List Int → List Int → Int → Int → List Int → Int → Int → Option (Bool)
  | 0, _, _, _, _, _, _, _, _, _, _ => none
  | k + 1, x13, x16, x19, x20, x22, x24, x25, x93, x94, x95 => if x95 < x94 then (if 0 ≤ x95 then (if x95 < (x93.length : Int) then (if (rd x93 x95) = x16 then (cohousinglaw21_PointsMore.l0 k x13 x16 x19 x20 x22 x95 x25 x93 x94 (wrap64 (x95 + 1))) else (if x22.length < 17592186044416 then (cohousinglaw21_PointsMore.l0 k x13 x16 x19 x20 (x22 ++ [rd x93 x95]) x24 x25 x93 x94 (wrap64 (x95 + 1))) else (none))) else (none)) else (none)) else (cohousinglaw21_PointsMore.l1 k x13 x16 x19 x22 ([] : List Int) x24 x25 x20 (x20.length : Int) 0)
def cohousinglaw21_PointsMore.l1 : Nat → Bool → Int → Int → List Int → List Int → Int → Int → List Int → Int → Int → Option (Bool)
  | 0, _, _, _, _, _, _, _, _, _, _ => none
  | k + 1, x13, x16, x19, x22, x23, x24, x25, x109, x110, x111 => if x111 < x110 then (if 0 ≤ x111 then (if x111 < (x109.length : Int) then (if (rd x109 x111) = x16 then (cohousinglaw21_PointsMore.l1 k x13 x16 x19 x22 x23 x24 x111 x109 x110 (wrap64 (x111 + 1))) else (if x23.length < 17592186044416 then (cohousinglaw21_PointsMore.l1 k x13 x16 x19 x22 (x23 ++ [rd x109 x111]) x24 x25 x109 x110 (wrap64 (x111 + 1))) else (none))) else (none)) else (none)) else (if x13 = true then (if x19 = 0 then ((cohousingref21_Same.f k x22 x23).bind fun t393 => (if t393 = true then (if x25 ≥ 0 then (some (decide (x25 ≤ x24))) else (some false)) else (some false))) else (some false)) else (some false))
end
def cohousinglaw21_PointsMore.f (k : Nat) (a0_0 a0_1 a0_2 a0_3 : Int) (l1 : List (S25)) (a2 : Int) (l3 : List Int) (a4 a5 : Int) : Option (Bool) := (cohousinglaw21_head.f k).bind fun t368 => ((cohousinglaw21_usable.f k a0_0 a0_1 a0_2 a0_3 l1 a2 l3).bind fun bt369 => (if bt369.2 = true then (cohousinglaw21_PointsMore.j0 k l1 a2 l3 a4 a5 t368 ((l1.length : Int) == 0) a0_0 a0_1 a0_2 a0_3) else (cohousinglaw21_PointsMore.j0 k l1 a2 l3 a4 a5 t368 true a0_0 a0_1 a0_2 a0_3)))
theorem cohousinglaw21_PointsMore.mono_l : ∀ k, (∀ y0 y1 y2 y3 y4 y5 y6 y7 y8 y9 y10, LeO (cohousinglaw21_PointsMore.j0 k y0 y1 y2 y3 y4 y5 y6 y7 y8 y9 y10) (cohousinglaw21_PointsMore.j0 (k + 1) y0 y1 y2 y3 y4 y5 y6 y7 y8 y9 y10)) ∧ (∀ y0 y1 y2 y3 y4 y5 y6 y7 y8 y9, LeO (cohousinglaw21_PointsMore.l0 k y0 y1 y2 y3 y4 y5 y6 y7 y8 y9) (cohousinglaw21_PointsMore.l0 (k + 1) y0 y1 y2 y3 y4 y5 y6 y7 y8 y9)) ∧ (∀ y0 y1 y2 y3 y4 y5 y6 y7 y8 y9, LeO (cohousinglaw21_PointsMore.l1 k y0 y1 y2 y3 y4 y5 y6 y7 y8 y9) (cohousinglaw21_PointsMore.l1 (k + 1) y0 y1 y2 y3 y4 y5 y6 y7 y8 y9))
  | 0 => ⟨fun _ _ _ _ _ _ _ _ _ _ _ r h => by simp [cohousinglaw21_PointsMore.j0] at h, fun _ _ _ _ _ _ _ _ _ _ r h => by simp [cohousinglaw21_PointsMore.l0] at h, fun _ _ _ _ _ _ _ _ _ _ r h => by simp [cohousinglaw21_PointsMore.l1] at h⟩
  | k + 1 => by
    obtain ⟨ih0, ih1, ih2⟩ := cohousinglaw21_PointsMore.mono_l k
    refine ⟨?_, ?_, ?_⟩
    · intro y0 y1 y2 y3 y4 y5 y6 y7 y8 y9 y10
      unfold cohousinglaw21_PointsMore.j0
      with_reducible (repeat' first | apply ih0 | apply ih1 | apply ih2 | apply cohousinglaw21_head.mono | apply cohousinglaw21_usable.mono | apply cohousingref21_Same.mono | apply points_Order.mono | apply LeO.refl | apply LeO.none | apply LeO.ite | refine LeO.bind ?_ (fun _ => ?_))
    · intro y0 y1 y2 y3 y4 y5 y6 y7 y8 y9
      unfold cohousinglaw21_PointsMore.l0
      with_reducible (repeat' first | apply ih0 | apply ih1 | apply ih2 | apply cohousinglaw21_head.mono | apply cohousinglaw21_usable.mono | apply cohousingref21_Same.mono | apply points_Order.mono | apply LeO.refl | apply LeO.none | apply LeO.ite | refine LeO.bind ?_ (fun _ => ?_))
    · intro y0 y1 y2 y3 y4 y5 y6 y7 y8 y9
      unfold cohousinglaw21_PointsMore.l1
      with_reducible (repeat' first | apply ih0 | apply ih1 | apply ih2 | apply cohousinglaw21_head.mono | apply cohousinglaw21_usable.mono | apply cohousingref21_Same.mono | apply points_Order.mono | apply LeO.refl | apply LeO.none | apply LeO.ite | refine LeO.bind ?_ (fun _ => ?_))
theorem cohousinglaw21_PointsMore.mono : ∀ a0 a1 a2 a3 a4 a5 a6 a7 a8 k, LeO (cohousinglaw21_PointsMore.f k a0 a1 a2 a3 a4 a5 a6 a7 a8) (cohousinglaw21_PointsMore.f (k + 1) a0 a1 a2 a3 a4 a5 a6 a7 a8) := by
  intro a0 a1 a2 a3 a4 a5 a6 a7 a8 k
  obtain ⟨ih0, ih1, ih2⟩ := cohousinglaw21_PointsMore.mono_l k
  unfold cohousinglaw21_PointsMore.f
  with_reducible (repeat' first | apply ih0 | apply ih1 | apply ih2 | apply cohousinglaw21_head.mono | apply cohousinglaw21_usable.mono | apply cohousingref21_Same.mono | apply points_Order.mono | apply LeO.refl | apply LeO.none | apply LeO.ite | refine LeO.bind ?_ (fun _ => ?_))
set_option maxHeartbeats 8000000 in
set_option maxRecDepth 100000 in
theorem cohousinglaw21_PointsMore.calls (k : Nat) (a0_0 a0_1 a0_2 a0_3 : Int) (A1 : Option Addr) (c1 : Nat) (l1 : List (S25)) (a2 : Int) (A3 : Option Addr) (c3 : Nat) (l3 : List Int) (a4 a5 : Int) (r : Bool) (w : World) (hr1 : Kd.C k25 w A1 l1.length l1) (hc1 : l1.length ≤ c1) (hr3 : Kd.C (Kd.int .i64) w A3 l3.length l3) (hc3 : l3.length ≤ c3) (HT : TabOK w) (h : cohousinglaw21_PointsMore.f k a0_0 a0_1 a0_2 a0_3 l1 a2 l3 a4 a5 = some r) :
    Calls Tryd.prog 7 #[.agg #[.int .i64 a0_0, .int .i64 a0_1, .int .i64 a0_2, .int .i64 a0_3], .slice A1 l1.length c1, .int .i64 a2, .slice A3 l3.length c3, .int .u8 a4, .int .u16 a5] w fun e w' => e = .returned (.bool r) ∧ Below w.heap.size w w' := by
  have hu23 := Tryd.underlying23
  have HTA := Aside0.mk HT
  clear HT
  have HR1 := Aside0.mk hr1
  have HC1 := Aside0.mk hc1
  clear hr1 hc1
  have HR3 := Aside0.mk hr3
  have HC3 := Aside0.mk hc3
  clear hr3 hc3
  have HB := Aside0.mk (Below.refl w.heap.size w)
  have H : ((cohousinglaw21_head.f k).bind fun t368 => ((cohousinglaw21_usable.f k a0_0 a0_1 a0_2 a0_3 l1 a2 l3).bind fun bt369 => (if bt369.2 = true then (cohousinglaw21_PointsMore.j0 k l1 a2 l3 a4 a5 t368 ((l1.length : Int) == 0) a0_0 a0_1 a0_2 a0_3) else (cohousinglaw21_PointsMore.j0 k l1 a2 l3 a4 a5 t368 true a0_0 a0_1 a0_2 a0_3)))) = some r := h
  clear h
  replace H := Option.bind_eq_some_iff.mp H
  obtain ⟨t368, A70, H⟩ := H
  replace H : ((cohousinglaw21_usable.f k a0_0 a0_1 a0_2 a0_3 l1 a2 l3).bind fun bt369 => (if bt369.2 = true then (cohousinglaw21_PointsMore.j0 k l1 a2 l3 a4 a5 t368 ((l1.length : Int) == 0) a0_0 a0_1 a0_2 a0_3) else (cohousinglaw21_PointsMore.j0 k l1 a2 l3 a4 a5 t368 true a0_0 a0_1 a0_2 a0_3))) = some r := H
  have A7 := Aside0.mk A70
  clear A70
  replace H := Option.bind_eq_some_iff.mp H
  obtain ⟨⟨t369, t372⟩, A80, H⟩ := H
  replace H : (if t372 = true then (cohousinglaw21_PointsMore.j0 k l1 a2 l3 a4 a5 t368 ((l1.length : Int) == 0) a0_0 a0_1 a0_2 a0_3) else (cohousinglaw21_PointsMore.j0 k l1 a2 l3 a4 a5 t368 true a0_0 a0_1 a0_2 a0_3)) = some r := H
  have A8 := Aside0.mk A80
  clear A80
  have HC9 := Aside0.mk H
  clear H
  go_enter Tryd.func7, Tryd.ntmps7
  go_upto_region 3 with (first | ((with_reducible refine gate_dst (N := 6) rfl ?_); (try (refine gate_guard (by rfl) ?_; dsimp only)); refine qev_ 6 #[.int .i64 a0_0, .int .i64 a0_1, .int .i64 a0_2, .int .i64 a0_3] 23 ?_; intro gb367 hg w10 hbox hb; have BK367 := Aside0.mk (hbox); have GW367 := qga_ hg; have GE367 := qga_ hg; replace HB := qbs_ hb; clear hb hbox hg) | ((with_reducible refine gate_callee (f := 10) rfl ?_); refine goesL_ (some 30) rfl rfl Tryd.func10 (by kernel_rfl) rfl #[] rfl ql_ ?_; (with_reducible refine (cohousinglaw21_head.calls k  t368 _ ?side1 A7.out).mono ?_); (case side1 => exact TabOK.below HTA.out qb_); rintro e w11 ⟨rfl, hb⟩; refine ⟨_, rfl, ?_⟩; replace BK367 := qkb_ BK367 hb; replace HB := qbs_ hb; (try clear hb); (try clear hb2); (try clear hk); (try clear hi); obtain ⟨hcz12_0, hcz12_1, hcz12_2, hcz12_3⟩ := qz4_ BK367; obtain ⟨hfz12_0, hfz12_1, hfz12_2, hfz12_3⟩ := qf4_ BK367) | ((with_reducible refine gate_callee (f := 17) rfl ?_); refine goesL_ (some 36) rfl rfl Tryd.func17 (by kernel_rfl) rfl #[.agg #[.int .i64 a0_0, .int .i64 a0_1, .int .i64 a0_2, .int .i64 a0_3], .slice A1 l1.length c1, .int .i64 a2, .slice A3 l3.length c3] rfl ql_ ?_; (with_reducible refine (cohousinglaw21_usable.calls k a0_0 a0_1 a0_2 a0_3 _ _ l1 a2 _ _ l3 t369 t372 _ ?side1 ?side2 ?side3 ?side4 ?side5 A8.out).mono ?_); (case side1 => exact qc_ HR1); (case side2 => exact HC1.out); (case side3 => exact qc_ HR3); (case side4 => exact HC3.out); (case side5 => exact TabOK.below HTA.out qb_); rintro e w13 ⟨v370, rfl, ho0, hb⟩; refine ⟨_, rfl, ?_⟩; have HO371 := Aside0.mk (Kd.R_lower ho0 (below_size qb_)); replace BK367 := qkb_ BK367 hb; replace HB := qbs_ hb; (try clear hb); (try clear hb2); (try clear hk); (try clear hi); (try clear ho0)))
  (try simp only [Act.put, List.setIfInBounds_toArray, List.set_cons_zero, List.set_cons_succ])
  go_cut [45] (fun v45 wc => ∃ (kq : Nat) (x45_8 : Bool), v45 = .bool x45_8 ∧ Aside0 (cohousinglaw21_PointsMore.j0 kq l1 a2 l3 a4 a5 t368 x45_8 a0_0 a0_1 a0_2 a0_3 = some r) ∧ Aside0 (kq ≤ k) ∧ Aside0 (wc.heap[gb367]? = some (.cells #[.int .i64 a0_0, .int .i64 a0_1, .int .i64 a0_2, .int .i64 a0_3] 23 (0, 0))) ∧ Aside0 (Below w.heap.size w wc))
  case first =>
    have H := HC9.out
    clear HC9
    by_cases c14 : t372 = true
    · subst c14
      have H1 : (cohousinglaw21_PointsMore.j0 k l1 a2 l3 a4 a5 t368 ((l1.length : Int) == 0) a0_0 a0_1 a0_2 a0_3) = some r := by rw [if_pos rfl] at H; exact H
      clear H
      have H := H1
      clear H1
      have H' := Aside0.mk H
      clear H
      go_wp2
      go_meet
      case rel => exact ⟨_, (((l1.length : Int) == 0)), qs_, H', ⟨qo_⟩, ⟨qk_ BK367⟩, ⟨qb_⟩⟩
    · replace c14 := Bool.eq_false_iff.mpr c14
      subst c14
      have H1 : (cohousinglaw21_PointsMore.j0 k l1 a2 l3 a4 a5 t368 true a0_0 a0_1 a0_2 a0_3) = some r := by rw [if_neg (show ¬ (false = true) by decide)] at H; exact H
      clear H
      have H := H1
      clear H1
      have H' := Aside0.mk H
      clear H
      go_wp2
      go_meet
      case rel => exact ⟨_, (true), qs_, H', ⟨qo_⟩, ⟨qk_ BK367⟩, ⟨qb_⟩⟩
  case rest =>
    clear HC9
    try clear c1
    try clear p2
    try clear c3
    try clear c7
    try clear c10
    try clear c14
    try clear hcz12_0 hcz12_1 hcz12_2 hcz12_3
    try clear hfz12_0 hfz12_1 hfz12_2 hfz12_3
    obtain ⟨kq, x45_8, rfl, HA, HJ8, BK367, HB⟩ := hcut
    cases kq with
    | zero => exact absurd HA.out (by simp [cohousinglaw21_PointsMore.j0])
    | succ kj8 =>
      have H := HA.out
      clear HA
      simp only [cohousinglaw21_PointsMore.j0] at H
      by_cases c15 : x45_8 = true
      · subst c15
        have H1 : (some t368) = some r := by rw [if_pos rfl] at H; exact H
        clear H
        have H := H1
        clear H1
        obtain rfl := Option.some.inj H
        go_wp2
        go_ret
        exact ⟨qx_, qb_⟩
      · replace c15 := Bool.eq_false_iff.mpr c15
        subst c15
        have H1 : (if (l1.length : Int) = 0 then (none) else ((some (([] : List (S25)) : List (S25))).bind fun y373 => (if y373.length + l1.length < 3518437208883 then ((some (y373 ++ l1 : List (S25))).bind fun y376 => (if 0 ≤ (Int.tmod (wrap64 (a4)) (l1.length : Int)) then (if (Int.tmod (wrap64 (a4)) (l1.length : Int)) < (y376.length : Int) then ((points_Order.f kj8 a0_0 a0_1 a0_2 a0_3 l1 a2 l3).bind fun bt381 => ((points_Order.f kj8 a0_0 a0_1 a0_2 a0_3 (y376.set ((Int.tmod (wrap64 (a4)) (l1.length : Int)) : Int).toNat (⟨(rd_T25 y376 (Int.tmod (wrap64 (a4)) (l1.length : Int))).f0, (rd_T25 y376 (Int.tmod (wrap64 (a4)) (l1.length : Int))).f1, (rd_T25 y376 (Int.tmod (wrap64 (a4)) (l1.length : Int))).f2, wrap64 (((rd_T25 y376 (Int.tmod (wrap64 (a4)) (l1.length : Int))).f3) + (wrap64 (a5))), (rd_T25 y376 (Int.tmod (wrap64 (a4)) (l1.length : Int))).f4⟩ : S25)) a2 l3).bind fun bt385 => (if bt385.2 = 0 then (cohousinglaw21_PointsMore.l0 kj8 t368 (Int.tmod (wrap64 (a4)) (l1.length : Int)) bt381.2 bt385.1 ([] : List Int) (-1) (-1) bt381.1 (bt381.1.length : Int) 0) else (if t368 = true then (if bt381.2 = 0 then (some ((bt385.1.length : Int) == 0)) else (some false)) else (some false))))) else (none)) else (none))) else (none)))) = some r := by rw [if_neg (show ¬ (false = true) by decide)] at H; exact H
        clear H
        have H := H1
        clear H1
        by_cases c16 : (l1.length : Int) = 0
        · rw [if_pos c16] at H
          exact absurd H (by simp)
        · rw [if_neg c16] at H
          have c16b0 : ((l1.length : Int) == 0) = false := beq_eq_false_iff_ne.mpr c16
          have c16b1 : ((l1.length : Int) != 0) = true := bne_iff_ne.mpr c16
          have c16b2 : ¬ (l1 = []) := fun h_ => c16 (by rw [h_]; rfl)
          obtain ⟨y373, hy373⟩ : ∃ y_ : List (S25), y_ = (([] : List (S25))) := ⟨_, rfl⟩
          replace H : (if y373.length + l1.length < 3518437208883 then ((some (y373 ++ l1 : List (S25))).bind fun y376 => (if 0 ≤ (Int.tmod (wrap64 (a4)) (l1.length : Int)) then (if (Int.tmod (wrap64 (a4)) (l1.length : Int)) < (y376.length : Int) then ((points_Order.f kj8 a0_0 a0_1 a0_2 a0_3 l1 a2 l3).bind fun bt381 => ((points_Order.f kj8 a0_0 a0_1 a0_2 a0_3 (y376.set ((Int.tmod (wrap64 (a4)) (l1.length : Int)) : Int).toNat (⟨(rd_T25 y376 (Int.tmod (wrap64 (a4)) (l1.length : Int))).f0, (rd_T25 y376 (Int.tmod (wrap64 (a4)) (l1.length : Int))).f1, (rd_T25 y376 (Int.tmod (wrap64 (a4)) (l1.length : Int))).f2, wrap64 (((rd_T25 y376 (Int.tmod (wrap64 (a4)) (l1.length : Int))).f3) + (wrap64 (a5))), (rd_T25 y376 (Int.tmod (wrap64 (a4)) (l1.length : Int))).f4⟩ : S25)) a2 l3).bind fun bt385 => (if bt385.2 = 0 then (cohousinglaw21_PointsMore.l0 kj8 t368 (Int.tmod (wrap64 (a4)) (l1.length : Int)) bt381.2 bt385.1 ([] : List Int) (-1) (-1) bt381.1 (bt381.1.length : Int) 0) else (if t368 = true then (if bt381.2 = 0 then (some ((bt385.1.length : Int) == 0)) else (some false)) else (some false))))) else (none)) else (none))) else (none)) = some r := by first | (rw [hy373]; with_reducible exact H) | (have H2_ := (Option.bind_some _ _).symm.trans H; rw [hy373]; with_reducible exact H2_) | (have H2_ := (Option.bind_some _ _).symm.trans H; with_reducible exact H2_) | with_reducible exact H | (rw [hy373]; exact H) | exact H
          have Ny373 := Aside0.mk hy373
          clear hy373
          by_cases c17 : y373.length + l1.length < 3518437208883
          · rw [if_pos c17] at H
            have LMc17 := Aside0.mk c17
            clear c17
            obtain ⟨y376, hy376⟩ : ∃ y_ : List (S25), y_ = (y373 ++ l1) := ⟨_, rfl⟩
            replace H : (if 0 ≤ (Int.tmod (wrap64 (a4)) (l1.length : Int)) then (if (Int.tmod (wrap64 (a4)) (l1.length : Int)) < (y376.length : Int) then ((points_Order.f kj8 a0_0 a0_1 a0_2 a0_3 l1 a2 l3).bind fun bt381 => ((points_Order.f kj8 a0_0 a0_1 a0_2 a0_3 (y376.set ((Int.tmod (wrap64 (a4)) (l1.length : Int)) : Int).toNat (⟨(rd_T25 y376 (Int.tmod (wrap64 (a4)) (l1.length : Int))).f0, (rd_T25 y376 (Int.tmod (wrap64 (a4)) (l1.length : Int))).f1, (rd_T25 y376 (Int.tmod (wrap64 (a4)) (l1.length : Int))).f2, wrap64 (((rd_T25 y376 (Int.tmod (wrap64 (a4)) (l1.length : Int))).f3) + (wrap64 (a5))), (rd_T25 y376 (Int.tmod (wrap64 (a4)) (l1.length : Int))).f4⟩ : S25)) a2 l3).bind fun bt385 => (if bt385.2 = 0 then (cohousinglaw21_PointsMore.l0 kj8 t368 (Int.tmod (wrap64 (a4)) (l1.length : Int)) bt381.2 bt385.1 ([] : List Int) (-1) (-1) bt381.1 (bt381.1.length : Int) 0) else (if t368 = true then (if bt381.2 = 0 then (some ((bt385.1.length : Int) == 0)) else (some false)) else (some false))))) else (none)) else (none)) = some r := by first | (rw [hy376]; with_reducible exact H) | (have H2_ := (Option.bind_some _ _).symm.trans H; rw [hy376]; with_reducible exact H2_) | (have H2_ := (Option.bind_some _ _).symm.trans H; with_reducible exact H2_) | with_reducible exact H | (rw [hy376]; exact H) | exact H
            have Ny376 := Aside0.mk hy376
            clear hy376
            obtain ⟨ji18, hji18⟩ : ∃ j_ : Int, (Int.tmod (wrap64 (a4)) (l1.length : Int)) = j_ := ⟨_, rfl⟩
            replace H : (if 0 ≤ (ji18) then (if (ji18) < (y376.length : Int) then ((points_Order.f kj8 a0_0 a0_1 a0_2 a0_3 l1 a2 l3).bind fun bt381 => ((points_Order.f kj8 a0_0 a0_1 a0_2 a0_3 (y376.set ((ji18) : Int).toNat (⟨(rd_T25 y376 (ji18)).f0, (rd_T25 y376 (ji18)).f1, (rd_T25 y376 (ji18)).f2, wrap64 (((rd_T25 y376 (ji18)).f3) + (wrap64 (a5))), (rd_T25 y376 (ji18)).f4⟩ : S25)) a2 l3).bind fun bt385 => (if bt385.2 = 0 then (cohousinglaw21_PointsMore.l0 kj8 t368 ji18 bt381.2 bt385.1 ([] : List Int) (-1) (-1) bt381.1 (bt381.1.length : Int) 0) else (if t368 = true then (if bt381.2 = 0 then (some ((bt385.1.length : Int) == 0)) else (some false)) else (some false))))) else (none)) else (none)) = some r := by first | (rw [hji18] at H; exact H) | (simp only [hji18] at H ⊢; exact H)
            by_cases c19 : 0 ≤ (ji18)
            · rw [if_pos c19] at H
              have c19b0 : decide (0 ≤ (ji18)) = true := decide_eq_true c19
              clear c19
              by_cases c20 : (ji18) < (y376.length : Int)
              · rw [if_pos c20] at H
                have c20b0 : decide ((ji18) < (y376.length : Int)) = true := decide_eq_true c20
                clear c20
                obtain ⟨y380, hy380⟩ : ∃ y_ : List (S25), y_ = (y376.set ((ji18) : Int).toNat (⟨(rd_T25 y376 (ji18)).f0, (rd_T25 y376 (ji18)).f1, (rd_T25 y376 (ji18)).f2, wrap64 (((rd_T25 y376 (ji18)).f3) + (wrap64 (a5))), (rd_T25 y376 (ji18)).f4⟩ : S25)) := ⟨_, rfl⟩
                replace H : ((points_Order.f kj8 a0_0 a0_1 a0_2 a0_3 l1 a2 l3).bind fun bt381 => ((points_Order.f kj8 a0_0 a0_1 a0_2 a0_3 y380 a2 l3).bind fun bt385 => (if bt385.2 = 0 then (cohousinglaw21_PointsMore.l0 kj8 t368 ji18 bt381.2 bt385.1 ([] : List Int) (-1) (-1) bt381.1 (bt381.1.length : Int) 0) else (if t368 = true then (if bt381.2 = 0 then (some ((bt385.1.length : Int) == 0)) else (some false)) else (some false))))) = some r := by first | (rw [hy380]; with_reducible exact H) | (have H2_ := (Option.bind_some _ _).symm.trans H; rw [hy380]; with_reducible exact H2_) | (have H2_ := (Option.bind_some _ _).symm.trans H; with_reducible exact H2_) | with_reducible exact H | (rw [hy380]; exact H) | exact H
                have Ny380 := Aside0.mk hy380
                clear hy380
                replace H := Option.bind_eq_some_iff.mp H
                obtain ⟨⟨t381, t384⟩, A220, H⟩ := H
                replace H : ((points_Order.f kj8 a0_0 a0_1 a0_2 a0_3 y380 a2 l3).bind fun bt385 => (if bt385.2 = 0 then (cohousinglaw21_PointsMore.l0 kj8 t368 ji18 t384 bt385.1 ([] : List Int) (-1) (-1) t381 (t381.length : Int) 0) else (if t368 = true then (if t384 = 0 then (some ((bt385.1.length : Int) == 0)) else (some false)) else (some false)))) = some r := H
                have A22 := Aside0.mk A220
                clear A220
                replace H := Option.bind_eq_some_iff.mp H
                obtain ⟨⟨t385, t388⟩, A230, H⟩ := H
                replace H : (if t388 = 0 then (cohousinglaw21_PointsMore.l0 kj8 t368 ji18 t384 t385 ([] : List Int) (-1) (-1) t381 (t381.length : Int) 0) else (if t368 = true then (if t384 = 0 then (some ((t385.length : Int) == 0)) else (some false)) else (some false))) = some r := H
                have A23 := Aside0.mk A230
                clear A230
                by_cases c24 : t388 = 0
                · rw [if_pos c24] at H
                  have c24b0 : (t388 == 0) = true := beq_iff_eq.mpr c24
                  have c24b1 : (t388 != 0) = false := bne_eq_false_iff_eq.mpr c24
                  clear c24
                  have H' := Aside0.mk H
                  clear H
                  go_wp2_with (first | ((with_reducible refine gate_dst (N := 52) rfl ?_); (try (refine gate_guard (by rfl) ?_; dsimp only)); refine Kd.R_lit k25 _ 25 ?hg (N := 52) ?hd (xs := ([] : List (S25))) (inner := []) (ok := fun _ => True) (okp := fun _ => True) ?hr ?hp (fun _ hk => hk) trivial (Below.refl _ _) (Nat.le_refl _) (by simp) ?_; (case hd => rfl); (case hg => rfl); (case hr => exact qq_); (case hp => exact (Reps.none _ _)); intro v374 w25 ho26 hb hg_ hnew_; clear hg_ hnew_; (first | rw [← Ny373.out] at ho26 | (simp only [Int.reduceToNat] at ho26; rw [← Ny373.out] at ho26)); have HO375 := Aside0.mk (Kd.R_lower ho26 (below_size qb_)); replace BK367 := qkb_ BK367 hb; replace HB := qbs_ hb; clear hb ho26) | ((with_reducible refine gate_builtin (b := .append) (xs := #[.tmp 52, .tmp 53]) rfl ?_); (try (refine gate_guard (by rfl) ?_; dsimp only)); at_builtin; refine Kd.R_append_rows k25 (w0 := w) w.heap.size rfl (.tmp 52) (.tmp 53) 26 25 (.agg #[(.int .i64 0), (.int .i64 0), (.int .i64 0), (.int .i64 0), (.int .i64 0)]) 40 rfl Tryd.underlying26 info25 rfl (by decide) (by omega) v374 y373 l1 _ _ _ (fun _ => True) (fun _ => False) rfl rfl ?aO ?aR (fun _ _ h => h) (fun _ h => h.elim) ?aF ?aB ?aS ?aL ?_; (case aR => repeat (first | exact (Kd.C_below HR1.out HB.out) | (with_reducible refine Kd.C_alloc ?_ _) | (with_reducible refine Kd.C_drewN ?_ _) | (with_reducible refine Kd.C_drew ?_))); (case aB => exact qb_); (case aF => exact (fun _ _ => trivial)); (case aO => exact (qr_ HO375)); (case aS => exact (below_size qb_)); (case aL => have := LMc17.out; omega); intro v377 w27 ho hb hg hat; rw [← Ny376.out] at ho; replace BK367 := Aside0.mk (blk_grown (g := gb367) (o := .cells #[.int .i64 a0_0, .int .i64 a0_1, .int .i64 a0_2, .int .i64 a0_3] 23 (0, 0)) (qk_ BK367) hg (Kd.R_ne HO375.out BK367.out (by decide))); replace HB := Aside0.mk (hb); have HO378 := Aside0.mk (ho); clear HO375 ho hb hg hat; obtain ⟨Ao28, co28, eo28⟩ := Kd.R_slice HO378.out; subst eo28; have p379 : 0 ≤ ((ji18) : Int) := of_decide_eq_true qa_; have q379 : (ji18) < (y376.length : Int) := of_decide_eq_true qa_; obtain ⟨ad379, e379, hx379_0, hx379_1, hx379_2, hx379_3, hx379_4⟩ := at_T25 (Kd.R_reads' HO378.out).2.2 (ji18) p379 q379; cases e379; replace p379 := eq_true p379; replace q379 := eq_true q379; have p21 : 0 ≤ ((ji18) : Int) := of_decide_eq_true qa_; have q21 : ((ji18) : Int) < ((y376.length : Int) : Int) := of_decide_eq_true qa_; obtain ⟨go21, co21, eo21, gb21, gl21, cl21, HG21⟩ := Kd.R_form HO378.out (by omega); (first | cases eo21 | (injection eo21 with ea_ en_ ec_; (first | subst ea_ | (injection ea_ with ea_; subst ea_)); subst ec_; clear en_)); have GB21 := Aside0.mk gb21; have GG21 := Aside0.mk HG21; clear gb21 gl21 HG21; (first | simp only [add_plain] at hx379_0 | skip); (first | simp only [add_plain] at hx379_1 | skip); (first | simp only [add_plain] at hx379_2 | skip); (first | simp only [add_plain] at hx379_3 | skip); (first | simp only [add_plain] at hx379_4 | skip); obtain ⟨ce21, hcl21, hM21, hcc21, hfr21⟩ := Kd.R_elem HO378.out z25 ((ji18) : Int) p21 q21; obtain rfl := k25_openM hM21; have hx21_0 : w27.cell? ⟨go21, ((ji18) : Int).toNat * 5, none⟩ = some (.int .i64 ((rd_T25 y376 (ji18)).f0)) := hcc21 0 _ rfl; have hx21_1 : w27.cell? ⟨go21, ((ji18) : Int).toNat * 5 + 1, none⟩ = some (.int .i64 ((rd_T25 y376 (ji18)).f1)) := hcc21 1 _ rfl; have hx21_2 : w27.cell? ⟨go21, ((ji18) : Int).toNat * 5 + 2, none⟩ = some (.int .i64 ((rd_T25 y376 (ji18)).f2)) := hcc21 2 _ rfl; have hx21_3 : w27.cell? ⟨go21, ((ji18) : Int).toNat * 5 + 3, none⟩ = some (.int .i64 ((rd_T25 y376 (ji18)).f3)) := hcc21 3 _ rfl; have hx21_4 : w27.cell? ⟨go21, ((ji18) : Int).toNat * 5 + 4, none⟩ = some (.int .i64 ((rd_T25 y376 (ji18)).f4)) := hcc21 4 _ rfl; have hf21_0 : w27.frozen? ⟨go21, ((ji18) : Int).toNat * 5, none⟩ = false := hfr21 0; have hf21_1 : w27.frozen? ⟨go21, ((ji18) : Int).toNat * 5 + 1, none⟩ = false := hfr21 1; have hf21_2 : w27.frozen? ⟨go21, ((ji18) : Int).toNat * 5 + 2, none⟩ = false := hfr21 2; have hf21_3 : w27.frozen? ⟨go21, ((ji18) : Int).toNat * 5 + 3, none⟩ = false := hfr21 3; have hf21_4 : w27.frozen? ⟨go21, ((ji18) : Int).toNat * 5 + 4, none⟩ = false := hfr21 4; clear hcl21 hcc21 hfr21 hM21; replace p21 := eq_true p21; replace q21 := eq_true q21; have HX29 := Aside0.mk (show Kd.R k25 25 w27 w.heap.size (fun _ => True) (.slice (some ⟨go21, 0, none⟩) y376.length co28) y376 from (qr_ HO378)); obtain ⟨ce29, hcl29, hM29, hcc29, hfr29⟩ := Kd.R_elem HX29.out z25 ((ji18) : Int) (of_decide_eq_true qa_) (by have h_ : ((ji18) : Int) < ((y376.length : Int) : Int) := of_decide_eq_true qa_; first | exact h_ | (have e_ := (Kd.R_reads' HO378.out).1; omega) | simpa using h_); obtain rfl := k25_openM hM29; have HP29 := Kd.R_seg HX29.out ((ji18) : Int) (of_decide_eq_true qa_) (by have h_ : ((ji18) : Int) < ((y376.length : Int) : Int) := of_decide_eq_true qa_; first | exact h_ | (have e_ := (Kd.R_reads' HO378.out).1; omega) | simpa using h_) (seg := [.int .i64 (wrap64 (((rd_T25 y376 (ji18)).f3) + (wrap64 (a5))))]) (j := 3) hcl29 hcc29 (show 4 ≤ 5 from by decide) (x' := (⟨(rd_T25 y376 (ji18)).f0, (rd_T25 y376 (ji18)).f1, (rd_T25 y376 (ji18)).f2, wrap64 (((rd_T25 y376 (ji18)).f3) + (wrap64 (a5))), (rd_T25 y376 (ji18)).f4⟩ : S25)) (k25_mkM _ _ _ (⟨(rd_T25 y376 (ji18)).f0, (rd_T25 y376 (ji18)).f1, (rd_T25 y376 (ji18)).f2, wrap64 (((rd_T25 y376 (ji18)).f3) + (wrap64 (a5))), (rd_T25 y376 (ji18)).f4⟩ : S25) ) (fun _ hk => hk); have hx29_3 := hcc29 3 _ rfl; (try simp only [show (k25).sz = 5 from rfl, Nat.mul_one, Nat.add_zero] at hx29_3); have hf29_3 := hfr29 3; (try simp only [show (k25).sz = 5 from rfl, Nat.mul_one, Nat.add_zero] at hf29_3); clear hcl29 hcc29 hfr29 hM29) | ((with_reducible refine gate_store (t := 3) (p := 64) rfl ?_); refine store_event (t := 3) (p := 64) (v := ?vo_w30) (w1 := (w27.setCell ⟨go21, ((ji18) : Int).toNat * 5 + 3, none⟩ (.int .i64 (wrap64 (((rd_T25 y376 (ji18)).f3) + (wrap64 (a5))))))) ?hg ?ho ?hn ?hr ?_; (case ho => rfl); (case hg => rfl); (case hn => rfl); (case hr => exact qq_); intro w30 hw; have hg : w27.grownBy w30 (some go21) := (by rw [hw]; exact HP29.2); have hp_ : Kd.R k25 25 w30 w.heap.size (fun _ => True) (.slice (some ⟨go21, 0, none⟩) y376.length co28) y380 := (by rw [hw, Ny380.out]; exact HP29.1); clear HP29; replace BK367 := Aside0.mk (blk_grown (g := gb367) (o := .cells #[.int .i64 a0_0, .int .i64 a0_1, .int .i64 a0_2, .int .i64 a0_3] 23 (0, 0)) (qk_ BK367) hg (Kd.R_ne HO378.out BK367.out (by decide))); replace HO378 := Aside0.mk (hp_); replace HB := Aside0.mk ((by rw [hw]; exact below_set (HB.out) GB21.out : Below w.heap.size w w30)); clear hg hw hp_; obtain ⟨hcz31_0, hcz31_1, hcz31_2, hcz31_3⟩ := qz4_ BK367; obtain ⟨hfz31_0, hfz31_1, hfz31_2, hfz31_3⟩ := qf4_ BK367) | ((with_reducible refine gate_callee (f := 13) rfl ?_); refine goesL_ (some 70) rfl rfl Tryd.func13 (by kernel_rfl) rfl #[.agg #[.int .i64 a0_0, .int .i64 a0_1, .int .i64 a0_2, .int .i64 a0_3], .slice A1 l1.length c1, .int .i64 a2, .slice A3 l3.length c3] rfl ql_ ?_; (with_reducible refine (points_Order.calls kj8 a0_0 a0_1 a0_2 a0_3 _ _ l1 a2 _ _ l3 t381 t384 _ ?side1 ?side2 ?side3 ?side4 ?side5 A22.out).mono ?_); (case side1 => exact qc_ HR1); (case side2 => exact HC1.out); (case side3 => exact qc_ HR3); (case side4 => exact HC3.out); (case side5 => exact TabOK.below HTA.out qb_); rintro e w32 ⟨v382, rfl, ho0, hb⟩; refine ⟨_, rfl, ?_⟩; replace HO378 := qrb_ HO378 hb; have HO383 := Aside0.mk (Kd.R_lower ho0 (below_size qb_)); replace BK367 := qkb_ BK367 hb; replace HB := qbs_ hb; (try clear hb); (try clear hb2); (try clear hk); (try clear hi); (try clear ho0); obtain ⟨hcz33_0, hcz33_1, hcz33_2, hcz33_3⟩ := qz4_ BK367; obtain ⟨hfz33_0, hfz33_1, hfz33_2, hfz33_3⟩ := qf4_ BK367) | ((with_reducible refine gate_callee (f := 13) rfl ?_); refine goesL_ (some 78) rfl rfl Tryd.func13 (by kernel_rfl) rfl #[.agg #[.int .i64 a0_0, .int .i64 a0_1, .int .i64 a0_2, .int .i64 a0_3], .slice (some ⟨go21, 0, none⟩) y380.length co28, .int .i64 a2, .slice A3 l3.length c3] rfl (by (try simp only [List.map_toArray, List.map_cons, List.map_nil]); first | done | (rw [show y380.length = y376.length from (Kd.R_reads' HO378.out).1.symm] <;> rfl) | rfl | (simp only [List.length_drop, List.length_take]; rfl)) ?_; (with_reducible refine (points_Order.calls kj8 a0_0 a0_1 a0_2 a0_3 _ _ y380 a2 _ _ l3 t385 t388 _ ?side1 ?side2 ?side3 ?side4 ?side5 A23.out).mono ?_); (case side1 => exact qv_ (Kd.R_reads' HO378.out).2.2); (case side2 => rw [show y380.length = y376.length from (Kd.R_reads' HO378.out).1.symm]; exact (Kd.R_reads' HO378.out).2.1); (case side3 => exact qc_ HR3); (case side4 => exact HC3.out); (case side5 => exact TabOK.below HTA.out qb_); rintro e w34 ⟨v386, rfl, ho0, hb⟩; refine ⟨_, rfl, ?_⟩; replace HO378 := qrb_ HO378 hb; have HO387 := Aside0.mk (Kd.R_lower (Kd.R_new' ho0 (Kd.R_lt (qr_ HO383))) (below_size qb_)); replace HO383 := qel_ HO383 ho0 hb; replace BK367 := qkb_ BK367 hb; replace HB := qbs_ hb; (try clear hb); (try clear hb2); (try clear hk); (try clear hi); (try clear ho0); obtain ⟨Ao35, co35, eo35⟩ := Kd.R_slice HO383.out; subst eo35))
                  go_loopg [22, 24, 95] kj8 (fun kq v22 v24 v95 w' => ∃ (x22_2 : List Int) (x24_2 : Int) (x95_2 : Int), v24 = .int .i64 x24_2 ∧ v95 = .int .i64 x95_2 ∧ Aside0 (cohousinglaw21_PointsMore.l0 kq t368 ji18 t384 t385 x22_2 x24_2 (-1) t381 (t381.length : Int) x95_2 = some r) ∧ Aside0 (kq ≤ kj8) ∧ Aside0 (Kd.R (Kd.int .i64) 3 w' w.heap.size (fun k_ => some k_ ≠ (v22 : Value).ownBlock ∧ some k_ ≠ ((.slice Ao35 t381.length co35) : Value).ownBlock) v386 t385) ∧ Aside0 (Kd.R (Kd.int .i64) 3 w' w.heap.size (fun k_ => some k_ ≠ (v386 : Value).ownBlock ∧ some k_ ≠ ((.slice Ao35 t381.length co35) : Value).ownBlock) v22 x22_2) ∧ Aside0 (Kd.R (Kd.int .i64) 3 w' w.heap.size (fun k_ => some k_ ≠ (v386 : Value).ownBlock ∧ some k_ ≠ (v22 : Value).ownBlock) (.slice Ao35 t381.length co35) t381) ∧ Aside0 (w'.heap[gb367]? = some (.cells #[.int .i64 a0_0, .int .i64 a0_1, .int .i64 a0_2, .int .i64 a0_3] 23 (0, 0))) ∧ Aside0 (Below w.heap.size w w'))
                  case atStart => exact ⟨(([] : List Int)), ((-1)), (0), qs_, qs_, H', ⟨Nat.le_refl _⟩, ⟨by (with_reducible repeat (first | apply Kd.R_alloc | apply Kd.R_drewN | apply Kd.R_drew)); exact Kd.R_mono HO387.out (fun _ hk => ⟨(by simp [Value.ownBlock]), hk.2⟩)⟩, ⟨by first | exact Kd.R_nil _ _ _ _ _ | exact Kd.N_nil _ _ _ _ _ | exact Kd.V_nil _ _ _ _ _ | exact Kd.Q_nil _ _ _ _ _ | exact Kd.S_nil _ _ _ _ _⟩, ⟨by (with_reducible repeat (first | apply Kd.R_alloc | apply Kd.R_drewN | apply Kd.R_drew)); exact Kd.R_mono HO383.out (fun _ hk => ⟨hk.2, (by simp [Value.ownBlock])⟩)⟩, ⟨qk_ BK367⟩, ⟨qb_⟩⟩
                  case round =>
                    clear H'
                    try clear c1
                    try clear c2
                    try clear p2
                    try clear q2
                    try clear hx2
                    try clear c3
                    try clear p3
                    try clear q3
                    try clear hx3
                    try clear p6
                    try clear c7
                    try clear c10
                    try clear c13
                    try clear c14
                    try clear c15
                    try clear c16
                    try clear c16b0
                    try clear c16b1
                    try clear c16b2
                    try clear c17
                    try clear c19
                    try clear c19b0
                    try clear c20
                    try clear c20b0
                    try clear c21
                    try clear p21
                    try clear q21
                    try clear hx21
                    try clear hf21
                    try clear c24
                    try clear c24b0
                    try clear c24b1
                    try clear c29
                    try clear hx29
                    try clear hf29
                    try clear hcz12_0 hcz12_1 hcz12_2 hcz12_3
                    try clear hcz31_0 hcz31_1 hcz31_2 hcz31_3
                    try clear hcz33_0 hcz33_1 hcz33_2 hcz33_3
                    try clear hfz12_0 hfz12_1 hfz12_2 hfz12_3
                    try clear hfz31_0 hfz31_1 hfz31_2 hfz31_3
                    try clear hfz33_0 hfz33_1 hfz33_2 hfz33_3
                    try clear hx21_0
                    try clear hx21_1
                    try clear hx21_2
                    try clear hx21_3
                    try clear hx21_4
                    try clear hx29_3
                    try clear hx379_0
                    try clear hx379_1
                    try clear hx379_2
                    try clear hx379_3
                    try clear hx379_4
                    try clear p2
                    try clear p21
                    try clear p379
                    try clear q21
                    try clear q379
                    obtain ⟨x22_2, x24_2, x95_2, rfl, rfl, HA, HK2, HO_20, HO_22, HO_93, BK367, HB⟩ := hrel
                    cases gk with
                    | zero => exact absurd HA.out (by simp [cohousinglaw21_PointsMore.l0])
                    | succ k2 =>
                      have H := HA.out
                      clear HA
                      simp only [cohousinglaw21_PointsMore.l0] at H
                      by_cases c36 : x95_2 < (t381.length : Int)
                      · rw [if_pos c36] at H
                        have c36b0 : decide (x95_2 < (t381.length : Int)) = true := decide_eq_true c36
                        clear c36
                        by_cases c37 : 0 ≤ x95_2
                        · rw [if_pos c37] at H
                          have c37b0 : decide (0 ≤ x95_2) = true := decide_eq_true c37
                          clear c37
                          by_cases c38 : x95_2 < (t381.length : Int)
                          · rw [if_pos c38] at H
                            have c38b0 : decide (x95_2 < (t381.length : Int)) = true := decide_eq_true c38
                            clear c38
                            by_cases c39 : (rd t381 x95_2) = ji18
                            · rw [if_pos c39] at H
                              have c39b0 : ((rd t381 x95_2) == ji18) = true := beq_iff_eq.mpr c39
                              have c39b1 : ((rd t381 x95_2) != ji18) = false := bne_eq_false_iff_eq.mpr c39
                              clear c39
                              have H' := Aside0.mk H
                              clear H
                              have p389 : 0 ≤ (x95_2 : Int) := of_decide_eq_true qa_
                              have q389 : x95_2 < (t381.length : Int) := of_decide_eq_true qa_
                              obtain ⟨ad389, e389, hx389_0⟩ := Kd.at_int (Kd.R_reads' HO_93.out).2.2 x95_2 p389 q389
                              cases e389
                              replace p389 := eq_true p389
                              replace q389 := eq_true q389
                              go_wp2
                              go_roundg k2
                              case measure => have := HJ8.out; have := HK2.out; omega
                              case rel => exact ⟨(x22_2), (x95_2), (wrap64 (x95_2 + 1)), qs_, qs_, H', ⟨by have := HJ8.out; have := HK2.out; omega⟩, ⟨by (with_reducible repeat (first | apply Kd.R_alloc | apply Kd.R_drewN | apply Kd.R_drew)); exact HO_20.out⟩, ⟨by (with_reducible repeat (first | apply Kd.R_alloc | apply Kd.R_drewN | apply Kd.R_drew)); exact HO_22.out⟩, ⟨by (with_reducible repeat (first | apply Kd.R_alloc | apply Kd.R_drewN | apply Kd.R_drew)); exact HO_93.out⟩, ⟨qk_ BK367⟩, ⟨qb_⟩⟩
                            · rw [if_neg c39] at H
                              have c39b0 : ((rd t381 x95_2) == ji18) = false := beq_eq_false_iff_ne.mpr c39
                              have c39b1 : ((rd t381 x95_2) != ji18) = true := bne_iff_ne.mpr c39
                              by_cases c40 : x22_2.length < 17592186044416
                              · rw [if_pos c40] at H
                                have LMc40 := Aside0.mk c40
                                clear c40
                                obtain ⟨y390, hy390⟩ : ∃ y_ : List Int, y_ = (x22_2 ++ [rd t381 x95_2]) := ⟨_, rfl⟩
                                replace H : (cohousinglaw21_PointsMore.l0 k2 t368 ji18 t384 t385 y390 x24_2 (-1) t381 (t381.length : Int) (wrap64 (x95_2 + 1))) = some r := by first | (rw [hy390]; with_reducible exact H) | (have H2_ := (Option.bind_some _ _).symm.trans H; rw [hy390]; with_reducible exact H2_) | (have H2_ := (Option.bind_some _ _).symm.trans H; with_reducible exact H2_) | with_reducible exact H | (rw [hy390]; exact H) | exact H
                                have Ny390 := Aside0.mk hy390
                                clear hy390
                                have H' := Aside0.mk H
                                clear H
                                have p389 : 0 ≤ (x95_2 : Int) := of_decide_eq_true qa_
                                have q389 : x95_2 < (t381.length : Int) := of_decide_eq_true qa_
                                obtain ⟨ad389, e389, hx389_0⟩ := Kd.at_int (Kd.R_reads' HO_93.out).2.2 x95_2 p389 q389
                                cases e389
                                replace p389 := eq_true p389
                                replace q389 := eq_true q389
                                go_wp2_with (first | ((with_reducible refine gate_builtin (b := .append) (xs := #[.tmp 104, .tmp 106]) rfl ?_); (try (refine gate_guard (by rfl) ?_; dsimp only)); at_builtin; refine Kd.R_append (Kd.int .i64) (w0 := w) w.heap.size rfl (.tmp 104) (.tmp 106) 27 3 (.int .i64 0) 8 rfl Tryd.underlying27 info3 rfl (by decide) (by omega) u22 x22_2 (rd t381 x95_2) [.int .i64 (rd t381 x95_2)] (fun k_ => some k_ ≠ (v386 : Value).ownBlock ∧ some k_ ≠ (.slice (some ad389) t381.length co35 : Value).ownBlock) (fun _ => False) rfl rfl ?aP (fun _ hk => hk.elim) ?aF ?aO ?aB ?aS ?aL ?_; (case aP => exact rfl); (case aB => exact qb_); (case aF => exact (fun k_ hk => ⟨Kd.fresh' (Kd.R_lt (qr_ HO_20)) k_ hk, Kd.fresh' (Kd.R_lt (qr_ HO_93)) k_ hk⟩)); (case aO => exact (qr_ HO_22)); (case aS => exact (below_size qb_)); (case aL => have := LMc40.out; omega); intro v391 w41 ho hb hg hat; rw [← Ny390.out] at ho; replace HO_20 := Aside0.mk (Kd.R_after (ok := (fun k_ => some k_ ≠ (.slice (some ad389) t381.length co35 : Value).ownBlock)) (by (with_reducible repeat (first | apply Kd.R_alloc | apply Kd.R_drewN | apply Kd.R_drew)); exact Kd.R_mono HO_20.out (fun _ hk => ⟨hk.2, hk.1⟩)) hg hat); replace HO_93 := Aside0.mk (Kd.R_after (ok := (fun k_ => some k_ ≠ (v386 : Value).ownBlock)) (qr_ HO_93) hg hat); replace BK367 := Aside0.mk (blk_grown (g := gb367) (o := .cells #[.int .i64 a0_0, .int .i64 a0_1, .int .i64 a0_2, .int .i64 a0_3] 23 (0, 0)) (qk_ BK367) hg (Kd.R_ne HO_22.out BK367.out (by decide))); replace HB := Aside0.mk (hb); have HO392 := Aside0.mk (ho); clear HO_22 ho hb hg hat))
                                go_roundg k2
                                case measure => have := HJ8.out; have := HK2.out; omega
                                case rel => exact ⟨(y390), (x24_2), (wrap64 (x95_2 + 1)), qs_, qs_, H', ⟨by have := HJ8.out; have := HK2.out; omega⟩, ⟨by (with_reducible repeat (first | apply Kd.R_alloc | apply Kd.R_drewN | apply Kd.R_drew)); exact Kd.R_mono HO_20.out (fun _ hk => ⟨hk.2, hk.1⟩)⟩, ⟨by (with_reducible repeat (first | apply Kd.R_alloc | apply Kd.R_drewN | apply Kd.R_drew)); exact HO392.out⟩, ⟨by (with_reducible repeat (first | apply Kd.R_alloc | apply Kd.R_drewN | apply Kd.R_drew)); exact HO_93.out⟩, ⟨qk_ BK367⟩, ⟨qb_⟩⟩
                              · rw [if_neg c40] at H
                                exact absurd H (by simp)
                          · rw [if_neg c38] at H
                            exact absurd H (by simp)
                        · rw [if_neg c37] at H
                          exact absurd H (by simp)
                      · rw [if_neg c36] at H
                        have c36b0 : decide (x95_2 < (t381.length : Int)) = false := decide_eq_false c36
                        clear c36
                        have H' := Aside0.mk H
                        clear H
                        obtain ⟨Ao42, co42, eo42⟩ := Kd.R_slice HO_20.out
                        subst eo42
                        go_wp2
                        go_loopg [23, 25, 111] k2 (fun kq v23 v25 v111 w' => ∃ (x23_3 : List Int) (x25_3 : Int) (x111_3 : Int), v25 = .int .i64 x25_3 ∧ v111 = .int .i64 x111_3 ∧ Aside0 (cohousinglaw21_PointsMore.l1 kq t368 ji18 t384 x22_2 x23_3 x24_2 x25_3 t385 (t385.length : Int) x111_3 = some r) ∧ Aside0 (kq ≤ k2) ∧ Aside0 (Kd.R (Kd.int .i64) 3 w' w.heap.size (fun k_ => some k_ ≠ (v23 : Value).ownBlock ∧ some k_ ≠ ((.slice Ao42 t385.length co42) : Value).ownBlock) u22 x22_2) ∧ Aside0 (Kd.R (Kd.int .i64) 3 w' w.heap.size (fun k_ => some k_ ≠ (u22 : Value).ownBlock ∧ some k_ ≠ ((.slice Ao42 t385.length co42) : Value).ownBlock) v23 x23_3) ∧ Aside0 (Kd.R (Kd.int .i64) 3 w' w.heap.size (fun k_ => some k_ ≠ (u22 : Value).ownBlock ∧ some k_ ≠ (v23 : Value).ownBlock) (.slice Ao42 t385.length co42) t385) ∧ Aside0 (w'.heap[gb367]? = some (.cells #[.int .i64 a0_0, .int .i64 a0_1, .int .i64 a0_2, .int .i64 a0_3] 23 (0, 0))) ∧ Aside0 (Below w.heap.size w w'))
                        case atStart => exact ⟨(([] : List Int)), ((-1)), (0), qs_, qs_, H', ⟨Nat.le_refl _⟩, ⟨by (with_reducible repeat (first | apply Kd.R_alloc | apply Kd.R_drewN | apply Kd.R_drew)); exact Kd.R_mono HO_22.out (fun _ hk => ⟨(by simp [Value.ownBlock]), hk.1⟩)⟩, ⟨by first | exact Kd.R_nil _ _ _ _ _ | exact Kd.N_nil _ _ _ _ _ | exact Kd.V_nil _ _ _ _ _ | exact Kd.Q_nil _ _ _ _ _ | exact Kd.S_nil _ _ _ _ _⟩, ⟨by (with_reducible repeat (first | apply Kd.R_alloc | apply Kd.R_drewN | apply Kd.R_drew)); exact Kd.R_mono HO_20.out (fun _ hk => ⟨hk.1, (by simp [Value.ownBlock])⟩)⟩, ⟨qk_ BK367⟩, ⟨qb_⟩⟩
                        case round =>
                          clear H'
                          try clear c1
                          try clear c2
                          try clear p2
                          try clear q2
                          try clear hx2
                          try clear c3
                          try clear p3
                          try clear q3
                          try clear hx3
                          try clear c4
                          try clear p6
                          try clear c7
                          try clear c10
                          try clear c13
                          try clear c14
                          try clear c15
                          try clear c16
                          try clear c16b0
                          try clear c16b1
                          try clear c16b2
                          try clear c17
                          try clear c19
                          try clear c19b0
                          try clear c20
                          try clear c20b0
                          try clear c21
                          try clear p21
                          try clear q21
                          try clear hx21
                          try clear hf21
                          try clear c24
                          try clear c24b0
                          try clear c24b1
                          try clear c29
                          try clear hx29
                          try clear hf29
                          try clear c36
                          try clear c36b0
                          try clear c37
                          try clear c37b0
                          try clear p37
                          try clear q37
                          try clear hx37
                          try clear c38
                          try clear c38b0
                          try clear p38
                          try clear q38
                          try clear hx38
                          try clear c39
                          try clear c39b0
                          try clear c39b1
                          try clear c40
                          try clear hcz12_0 hcz12_1 hcz12_2 hcz12_3
                          try clear hcz31_0 hcz31_1 hcz31_2 hcz31_3
                          try clear hcz33_0 hcz33_1 hcz33_2 hcz33_3
                          try clear hfz12_0 hfz12_1 hfz12_2 hfz12_3
                          try clear hfz31_0 hfz31_1 hfz31_2 hfz31_3
                          try clear hfz33_0 hfz33_1 hfz33_2 hfz33_3
                          try clear hx21_0
                          try clear hx21_1
                          try clear hx21_2
                          try clear hx21_3
                          try clear hx21_4
                          try clear hx29_3
                          try clear hx379_0
                          try clear hx379_1
                          try clear hx379_2
                          try clear hx379_3
                          try clear hx379_4
                          try clear hx389_0
                          try clear p2
                          try clear p21
                          try clear p3
                          try clear p379
                          try clear p389
                          try clear p6
                          try clear q2
                          try clear q21
                          try clear q3
                          try clear q379
                          try clear q389
                          obtain ⟨x23_3, x25_3, x111_3, rfl, rfl, HA, HK3, HO_22, HO_23, HO_109, BK367, HB⟩ := hrel
                          cases gk with
                          | zero => exact absurd HA.out (by simp [cohousinglaw21_PointsMore.l1])
                          | succ k3 =>
                            have H := HA.out
                            clear HA
                            simp only [cohousinglaw21_PointsMore.l1] at H
                            by_cases c43 : x111_3 < (t385.length : Int)
                            · rw [if_pos c43] at H
                              have c43b0 : decide (x111_3 < (t385.length : Int)) = true := decide_eq_true c43
                              clear c43
                              by_cases c44 : 0 ≤ x111_3
                              · rw [if_pos c44] at H
                                have c44b0 : decide (0 ≤ x111_3) = true := decide_eq_true c44
                                clear c44
                                by_cases c45 : x111_3 < (t385.length : Int)
                                · rw [if_pos c45] at H
                                  have c45b0 : decide (x111_3 < (t385.length : Int)) = true := decide_eq_true c45
                                  clear c45
                                  by_cases c46 : (rd t385 x111_3) = ji18
                                  · rw [if_pos c46] at H
                                    have c46b0 : ((rd t385 x111_3) == ji18) = true := beq_iff_eq.mpr c46
                                    have c46b1 : ((rd t385 x111_3) != ji18) = false := bne_eq_false_iff_eq.mpr c46
                                    clear c46
                                    have H' := Aside0.mk H
                                    clear H
                                    have p394 : 0 ≤ (x111_3 : Int) := of_decide_eq_true qa_
                                    have q394 : x111_3 < (t385.length : Int) := of_decide_eq_true qa_
                                    obtain ⟨ad394, e394, hx394_0⟩ := Kd.at_int (Kd.R_reads' HO_109.out).2.2 x111_3 p394 q394
                                    cases e394
                                    replace p394 := eq_true p394
                                    replace q394 := eq_true q394
                                    go_wp2
                                    go_roundg k3
                                    case measure => have := HJ8.out; have := HK2.out; have := HK3.out; omega
                                    case rel => exact ⟨(x23_3), (x111_3), (wrap64 (x111_3 + 1)), qs_, qs_, H', ⟨by have := HJ8.out; have := HK2.out; have := HK3.out; omega⟩, ⟨by (with_reducible repeat (first | apply Kd.R_alloc | apply Kd.R_drewN | apply Kd.R_drew)); exact HO_22.out⟩, ⟨by (with_reducible repeat (first | apply Kd.R_alloc | apply Kd.R_drewN | apply Kd.R_drew)); exact HO_23.out⟩, ⟨by (with_reducible repeat (first | apply Kd.R_alloc | apply Kd.R_drewN | apply Kd.R_drew)); exact HO_109.out⟩, ⟨qk_ BK367⟩, ⟨qb_⟩⟩
                                  · rw [if_neg c46] at H
                                    have c46b0 : ((rd t385 x111_3) == ji18) = false := beq_eq_false_iff_ne.mpr c46
                                    have c46b1 : ((rd t385 x111_3) != ji18) = true := bne_iff_ne.mpr c46
                                    by_cases c47 : x23_3.length < 17592186044416
                                    · rw [if_pos c47] at H
                                      have LMc47 := Aside0.mk c47
                                      clear c47
                                      obtain ⟨y395, hy395⟩ : ∃ y_ : List Int, y_ = (x23_3 ++ [rd t385 x111_3]) := ⟨_, rfl⟩
                                      replace H : (cohousinglaw21_PointsMore.l1 k3 t368 ji18 t384 x22_2 y395 x24_2 x25_3 t385 (t385.length : Int) (wrap64 (x111_3 + 1))) = some r := by first | (rw [hy395]; with_reducible exact H) | (have H2_ := (Option.bind_some _ _).symm.trans H; rw [hy395]; with_reducible exact H2_) | (have H2_ := (Option.bind_some _ _).symm.trans H; with_reducible exact H2_) | with_reducible exact H | (rw [hy395]; exact H) | exact H
                                      have Ny395 := Aside0.mk hy395
                                      clear hy395
                                      have H' := Aside0.mk H
                                      clear H
                                      have p394 : 0 ≤ (x111_3 : Int) := of_decide_eq_true qa_
                                      have q394 : x111_3 < (t385.length : Int) := of_decide_eq_true qa_
                                      obtain ⟨ad394, e394, hx394_0⟩ := Kd.at_int (Kd.R_reads' HO_109.out).2.2 x111_3 p394 q394
                                      cases e394
                                      replace p394 := eq_true p394
                                      replace q394 := eq_true q394
                                      go_wp2_with (first | ((with_reducible refine gate_builtin (b := .append) (xs := #[.tmp 120, .tmp 122]) rfl ?_); (try (refine gate_guard (by rfl) ?_; dsimp only)); at_builtin; refine Kd.R_append (Kd.int .i64) (w0 := w) w.heap.size rfl (.tmp 120) (.tmp 122) 27 3 (.int .i64 0) 8 rfl Tryd.underlying27 info3 rfl (by decide) (by omega) u23 x23_3 (rd t385 x111_3) [.int .i64 (rd t385 x111_3)] (fun k_ => some k_ ≠ (u22 : Value).ownBlock ∧ some k_ ≠ (.slice (some ad394) t385.length co42 : Value).ownBlock) (fun _ => False) rfl rfl ?aP (fun _ hk => hk.elim) ?aF ?aO ?aB ?aS ?aL ?_; (case aP => exact rfl); (case aB => exact qb_); (case aF => exact (fun k_ hk => ⟨Kd.fresh' (Kd.R_lt (qr_ HO_22)) k_ hk, Kd.fresh' (Kd.R_lt (qr_ HO_109)) k_ hk⟩)); (case aO => exact (qr_ HO_23)); (case aS => exact (below_size qb_)); (case aL => have := LMc47.out; omega); intro v396 w48 ho hb hg hat; rw [← Ny395.out] at ho; replace HO_22 := Aside0.mk (Kd.R_after (ok := (fun k_ => some k_ ≠ (.slice (some ad394) t385.length co42 : Value).ownBlock)) (by (with_reducible repeat (first | apply Kd.R_alloc | apply Kd.R_drewN | apply Kd.R_drew)); exact Kd.R_mono HO_22.out (fun _ hk => ⟨hk.2, hk.1⟩)) hg hat); replace HO_109 := Aside0.mk (Kd.R_after (ok := (fun k_ => some k_ ≠ (u22 : Value).ownBlock)) (qr_ HO_109) hg hat); replace BK367 := Aside0.mk (blk_grown (g := gb367) (o := .cells #[.int .i64 a0_0, .int .i64 a0_1, .int .i64 a0_2, .int .i64 a0_3] 23 (0, 0)) (qk_ BK367) hg (Kd.R_ne HO_23.out BK367.out (by decide))); replace HB := Aside0.mk (hb); have HO397 := Aside0.mk (ho); clear HO_23 ho hb hg hat))
                                      go_roundg k3
                                      case measure => have := HJ8.out; have := HK2.out; have := HK3.out; omega
                                      case rel => exact ⟨(y395), (x25_3), (wrap64 (x111_3 + 1)), qs_, qs_, H', ⟨by have := HJ8.out; have := HK2.out; have := HK3.out; omega⟩, ⟨by (with_reducible repeat (first | apply Kd.R_alloc | apply Kd.R_drewN | apply Kd.R_drew)); exact Kd.R_mono HO_22.out (fun _ hk => ⟨hk.2, hk.1⟩)⟩, ⟨by (with_reducible repeat (first | apply Kd.R_alloc | apply Kd.R_drewN | apply Kd.R_drew)); exact HO397.out⟩, ⟨by (with_reducible repeat (first | apply Kd.R_alloc | apply Kd.R_drewN | apply Kd.R_drew)); exact HO_109.out⟩, ⟨qk_ BK367⟩, ⟨qb_⟩⟩
                                    · rw [if_neg c47] at H
                                      exact absurd H (by simp)
                                · rw [if_neg c45] at H
                                  exact absurd H (by simp)
                              · rw [if_neg c44] at H
                                exact absurd H (by simp)
                            · rw [if_neg c43] at H
                              have c43b0 : decide (x111_3 < (t385.length : Int)) = false := decide_eq_false c43
                              clear c43
                              by_cases c49 : t368 = true
                              · subst c49
                                have H1 : (if t384 = 0 then ((cohousingref21_Same.f k3 x22_2 x23_3).bind fun t393 => (if t393 = true then (if x25_3 ≥ 0 then (some (decide (x25_3 ≤ x24_2))) else (some false)) else (some false))) else (some false)) = some r := by rw [if_pos rfl] at H; exact H
                                clear H
                                have H := H1
                                clear H1
                                by_cases c50 : t384 = 0
                                · rw [if_pos c50] at H
                                  have c50b0 : (t384 == 0) = true := beq_iff_eq.mpr c50
                                  have c50b1 : (t384 != 0) = false := bne_eq_false_iff_eq.mpr c50
                                  clear c50
                                  replace H := Option.bind_eq_some_iff.mp H
                                  obtain ⟨t393, A510, H⟩ := H
                                  replace H : (if t393 = true then (if x25_3 ≥ 0 then (some (decide (x25_3 ≤ x24_2))) else (some false)) else (some false)) = some r := H
                                  have A51 := Aside0.mk A510
                                  clear A510
                                  by_cases c52 : t393 = true
                                  · subst c52
                                    have H1 : (if x25_3 ≥ 0 then (some (decide (x25_3 ≤ x24_2))) else (some false)) = some r := by rw [if_pos rfl] at H; exact H
                                    clear H
                                    have H := H1
                                    clear H1
                                    by_cases c53 : x25_3 ≥ 0
                                    · rw [if_pos c53] at H
                                      have c53b0 : decide (0 ≤ x25_3) = true := decide_eq_true c53
                                      clear c53
                                      obtain rfl := Option.some.inj H
                                      obtain ⟨Ao54, co54, eo54⟩ := Kd.R_slice HO_22.out
                                      subst eo54
                                      obtain ⟨Ao55, co55, eo55⟩ := Kd.R_slice HO_23.out
                                      subst eo55
                                      go_wp2_with (first | (go_at_call 15; (with_reducible refine (cohousingref21_Same.calls k3 _ _ x22_2 _ _ x23_3 true _ ?side1 ?side2 ?side3 ?side4 A51.out).mono ?_); (case side1 => exact qv_ (Kd.R_reads' HO_22.out).2.2); (case side2 => exact (Kd.R_reads' HO_22.out).2.1); (case side3 => exact qv_ (Kd.R_reads' HO_23.out).2.2); (case side4 => exact (Kd.R_reads' HO_23.out).2.1); rintro e w' ⟨rfl, ⟨nd, rfl⟩⟩))
                                      go_ret
                                      exact ⟨by first | rfl | (simp [errW_none, errW_some] <;> rfl) | (simp only [← hji18]; first | rfl | (simp [errW_none, errW_some] <;> rfl)) | (simp [*, errW_none, errW_some] <;> rfl), qb_⟩
                                    · rw [if_neg c53] at H
                                      have c53b0 : decide (0 ≤ x25_3) = false := decide_eq_false c53
                                      clear c53
                                      obtain rfl := Option.some.inj H
                                      obtain ⟨Ao56, co56, eo56⟩ := Kd.R_slice HO_22.out
                                      subst eo56
                                      obtain ⟨Ao57, co57, eo57⟩ := Kd.R_slice HO_23.out
                                      subst eo57
                                      go_wp2_with (first | (go_at_call 15; (with_reducible refine (cohousingref21_Same.calls k3 _ _ x22_2 _ _ x23_3 true _ ?side1 ?side2 ?side3 ?side4 A51.out).mono ?_); (case side1 => exact qv_ (Kd.R_reads' HO_22.out).2.2); (case side2 => exact (Kd.R_reads' HO_22.out).2.1); (case side3 => exact qv_ (Kd.R_reads' HO_23.out).2.2); (case side4 => exact (Kd.R_reads' HO_23.out).2.1); rintro e w' ⟨rfl, ⟨nd, rfl⟩⟩))
                                      go_ret
                                      exact ⟨by first | rfl | (simp [errW_none, errW_some] <;> rfl) | (simp only [← hji18]; first | rfl | (simp [errW_none, errW_some] <;> rfl)) | (simp [*, errW_none, errW_some] <;> rfl), qb_⟩
                                  · replace c52 := Bool.eq_false_iff.mpr c52
                                    subst c52
                                    have H1 : (some false) = some r := by rw [if_neg (show ¬ (false = true) by decide)] at H; exact H
                                    clear H
                                    have H := H1
                                    clear H1
                                    obtain rfl := Option.some.inj H
                                    obtain ⟨Ao58, co58, eo58⟩ := Kd.R_slice HO_22.out
                                    subst eo58
                                    obtain ⟨Ao59, co59, eo59⟩ := Kd.R_slice HO_23.out
                                    subst eo59
                                    go_wp2_with (first | (go_at_call 15; (with_reducible refine (cohousingref21_Same.calls k3 _ _ x22_2 _ _ x23_3 false _ ?side1 ?side2 ?side3 ?side4 A51.out).mono ?_); (case side1 => exact qv_ (Kd.R_reads' HO_22.out).2.2); (case side2 => exact (Kd.R_reads' HO_22.out).2.1); (case side3 => exact qv_ (Kd.R_reads' HO_23.out).2.2); (case side4 => exact (Kd.R_reads' HO_23.out).2.1); rintro e w' ⟨rfl, ⟨nd, rfl⟩⟩))
                                    go_ret
                                    exact ⟨by first | rfl | (simp [errW_none, errW_some] <;> rfl) | (simp only [← hji18]; first | rfl | (simp [errW_none, errW_some] <;> rfl)) | (simp [*, errW_none, errW_some] <;> rfl), qb_⟩
                                · rw [if_neg c50] at H
                                  have c50b0 : (t384 == 0) = false := beq_eq_false_iff_ne.mpr c50
                                  have c50b1 : (t384 != 0) = true := bne_iff_ne.mpr c50
                                  obtain rfl := Option.some.inj H
                                  go_wp2
                                  go_ret
                                  exact ⟨by first | rfl | (simp [errW_none, errW_some] <;> rfl) | (simp only [← hji18]; first | rfl | (simp [errW_none, errW_some] <;> rfl)) | (simp [*, errW_none, errW_some] <;> rfl), qb_⟩
                              · replace c49 := Bool.eq_false_iff.mpr c49
                                subst c49
                                have H1 : (some false) = some r := by rw [if_neg (show ¬ (false = true) by decide)] at H; exact H
                                clear H
                                have H := H1
                                clear H1
                                obtain rfl := Option.some.inj H
                                go_wp2
                                go_ret
                                exact ⟨by first | rfl | (simp [errW_none, errW_some] <;> rfl) | (simp only [← hji18]; first | rfl | (simp [errW_none, errW_some] <;> rfl)) | (simp [*, errW_none, errW_some] <;> rfl), qb_⟩
                · rw [if_neg c24] at H
                  have c24b0 : (t388 == 0) = false := beq_eq_false_iff_ne.mpr c24
                  have c24b1 : (t388 != 0) = true := bne_iff_ne.mpr c24
                  by_cases c60 : t368 = true
                  · subst c60
                    have H1 : (if t384 = 0 then (some ((t385.length : Int) == 0)) else (some false)) = some r := by rw [if_pos rfl] at H; exact H
                    clear H
                    have H := H1
                    clear H1
                    by_cases c61 : t384 = 0
                    · rw [if_pos c61] at H
                      have c61b0 : (t384 == 0) = true := beq_iff_eq.mpr c61
                      have c61b1 : (t384 != 0) = false := bne_eq_false_iff_eq.mpr c61
                      clear c61
                      obtain rfl := Option.some.inj H
                      go_wp2_with (first | ((with_reducible refine gate_dst (N := 52) rfl ?_); (try (refine gate_guard (by rfl) ?_; dsimp only)); refine Kd.R_lit k25 _ 25 ?hg (N := 52) ?hd (xs := ([] : List (S25))) (inner := []) (ok := fun _ => True) (okp := fun _ => True) ?hr ?hp (fun _ hk => hk) trivial (Below.refl _ _) (Nat.le_refl _) (by simp) ?_; (case hd => rfl); (case hg => rfl); (case hr => exact qq_); (case hp => exact (Reps.none _ _)); intro v374 w62 ho63 hb hg_ hnew_; clear hg_ hnew_; (first | rw [← Ny373.out] at ho63 | (simp only [Int.reduceToNat] at ho63; rw [← Ny373.out] at ho63)); have HO375 := Aside0.mk (Kd.R_lower ho63 (below_size qb_)); replace BK367 := qkb_ BK367 hb; replace HB := qbs_ hb; clear hb ho63) | ((with_reducible refine gate_builtin (b := .append) (xs := #[.tmp 52, .tmp 53]) rfl ?_); (try (refine gate_guard (by rfl) ?_; dsimp only)); at_builtin; refine Kd.R_append_rows k25 (w0 := w) w.heap.size rfl (.tmp 52) (.tmp 53) 26 25 (.agg #[(.int .i64 0), (.int .i64 0), (.int .i64 0), (.int .i64 0), (.int .i64 0)]) 40 rfl Tryd.underlying26 info25 rfl (by decide) (by omega) v374 y373 l1 _ _ _ (fun _ => True) (fun _ => False) rfl rfl ?aO ?aR (fun _ _ h => h) (fun _ h => h.elim) ?aF ?aB ?aS ?aL ?_; (case aR => repeat (first | exact (Kd.C_below HR1.out HB.out) | (with_reducible refine Kd.C_alloc ?_ _) | (with_reducible refine Kd.C_drewN ?_ _) | (with_reducible refine Kd.C_drew ?_))); (case aB => exact qb_); (case aF => exact (fun _ _ => trivial)); (case aO => exact (qr_ HO375)); (case aS => exact (below_size qb_)); (case aL => have := LMc17.out; omega); intro v377 w64 ho hb hg hat; rw [← Ny376.out] at ho; replace BK367 := Aside0.mk (blk_grown (g := gb367) (o := .cells #[.int .i64 a0_0, .int .i64 a0_1, .int .i64 a0_2, .int .i64 a0_3] 23 (0, 0)) (qk_ BK367) hg (Kd.R_ne HO375.out BK367.out (by decide))); replace HB := Aside0.mk (hb); have HO378 := Aside0.mk (ho); clear HO375 ho hb hg hat; obtain ⟨Ao65, co65, eo65⟩ := Kd.R_slice HO378.out; subst eo65; have p379 : 0 ≤ ((ji18) : Int) := of_decide_eq_true qa_; have q379 : (ji18) < (y376.length : Int) := of_decide_eq_true qa_; obtain ⟨ad379, e379, hx379_0, hx379_1, hx379_2, hx379_3, hx379_4⟩ := at_T25 (Kd.R_reads' HO378.out).2.2 (ji18) p379 q379; cases e379; replace p379 := eq_true p379; replace q379 := eq_true q379; have p21 : 0 ≤ ((ji18) : Int) := of_decide_eq_true qa_; have q21 : ((ji18) : Int) < ((y376.length : Int) : Int) := of_decide_eq_true qa_; obtain ⟨go21, co21, eo21, gb21, gl21, cl21, HG21⟩ := Kd.R_form HO378.out (by omega); (first | cases eo21 | (injection eo21 with ea_ en_ ec_; (first | subst ea_ | (injection ea_ with ea_; subst ea_)); subst ec_; clear en_)); have GB21 := Aside0.mk gb21; have GG21 := Aside0.mk HG21; clear gb21 gl21 HG21; (first | simp only [add_plain] at hx379_0 | skip); (first | simp only [add_plain] at hx379_1 | skip); (first | simp only [add_plain] at hx379_2 | skip); (first | simp only [add_plain] at hx379_3 | skip); (first | simp only [add_plain] at hx379_4 | skip); obtain ⟨ce21, hcl21, hM21, hcc21, hfr21⟩ := Kd.R_elem HO378.out z25 ((ji18) : Int) p21 q21; obtain rfl := k25_openM hM21; have hx21_0 : w64.cell? ⟨go21, ((ji18) : Int).toNat * 5, none⟩ = some (.int .i64 ((rd_T25 y376 (ji18)).f0)) := hcc21 0 _ rfl; have hx21_1 : w64.cell? ⟨go21, ((ji18) : Int).toNat * 5 + 1, none⟩ = some (.int .i64 ((rd_T25 y376 (ji18)).f1)) := hcc21 1 _ rfl; have hx21_2 : w64.cell? ⟨go21, ((ji18) : Int).toNat * 5 + 2, none⟩ = some (.int .i64 ((rd_T25 y376 (ji18)).f2)) := hcc21 2 _ rfl; have hx21_3 : w64.cell? ⟨go21, ((ji18) : Int).toNat * 5 + 3, none⟩ = some (.int .i64 ((rd_T25 y376 (ji18)).f3)) := hcc21 3 _ rfl; have hx21_4 : w64.cell? ⟨go21, ((ji18) : Int).toNat * 5 + 4, none⟩ = some (.int .i64 ((rd_T25 y376 (ji18)).f4)) := hcc21 4 _ rfl; have hf21_0 : w64.frozen? ⟨go21, ((ji18) : Int).toNat * 5, none⟩ = false := hfr21 0; have hf21_1 : w64.frozen? ⟨go21, ((ji18) : Int).toNat * 5 + 1, none⟩ = false := hfr21 1; have hf21_2 : w64.frozen? ⟨go21, ((ji18) : Int).toNat * 5 + 2, none⟩ = false := hfr21 2; have hf21_3 : w64.frozen? ⟨go21, ((ji18) : Int).toNat * 5 + 3, none⟩ = false := hfr21 3; have hf21_4 : w64.frozen? ⟨go21, ((ji18) : Int).toNat * 5 + 4, none⟩ = false := hfr21 4; clear hcl21 hcc21 hfr21 hM21; replace p21 := eq_true p21; replace q21 := eq_true q21; have HX66 := Aside0.mk (show Kd.R k25 25 w64 w.heap.size (fun _ => True) (.slice (some ⟨go21, 0, none⟩) y376.length co65) y376 from (qr_ HO378)); obtain ⟨ce66, hcl66, hM66, hcc66, hfr66⟩ := Kd.R_elem HX66.out z25 ((ji18) : Int) (of_decide_eq_true qa_) (by have h_ : ((ji18) : Int) < ((y376.length : Int) : Int) := of_decide_eq_true qa_; first | exact h_ | (have e_ := (Kd.R_reads' HO378.out).1; omega) | simpa using h_); obtain rfl := k25_openM hM66; have HP66 := Kd.R_seg HX66.out ((ji18) : Int) (of_decide_eq_true qa_) (by have h_ : ((ji18) : Int) < ((y376.length : Int) : Int) := of_decide_eq_true qa_; first | exact h_ | (have e_ := (Kd.R_reads' HO378.out).1; omega) | simpa using h_) (seg := [.int .i64 (wrap64 (((rd_T25 y376 (ji18)).f3) + (wrap64 (a5))))]) (j := 3) hcl66 hcc66 (show 4 ≤ 5 from by decide) (x' := (⟨(rd_T25 y376 (ji18)).f0, (rd_T25 y376 (ji18)).f1, (rd_T25 y376 (ji18)).f2, wrap64 (((rd_T25 y376 (ji18)).f3) + (wrap64 (a5))), (rd_T25 y376 (ji18)).f4⟩ : S25)) (k25_mkM _ _ _ (⟨(rd_T25 y376 (ji18)).f0, (rd_T25 y376 (ji18)).f1, (rd_T25 y376 (ji18)).f2, wrap64 (((rd_T25 y376 (ji18)).f3) + (wrap64 (a5))), (rd_T25 y376 (ji18)).f4⟩ : S25) ) (fun _ hk => hk); have hx66_3 := hcc66 3 _ rfl; (try simp only [show (k25).sz = 5 from rfl, Nat.mul_one, Nat.add_zero] at hx66_3); have hf66_3 := hfr66 3; (try simp only [show (k25).sz = 5 from rfl, Nat.mul_one, Nat.add_zero] at hf66_3); clear hcl66 hcc66 hfr66 hM66) | ((with_reducible refine gate_store (t := 3) (p := 64) rfl ?_); refine store_event (t := 3) (p := 64) (v := ?vo_w67) (w1 := (w64.setCell ⟨go21, ((ji18) : Int).toNat * 5 + 3, none⟩ (.int .i64 (wrap64 (((rd_T25 y376 (ji18)).f3) + (wrap64 (a5))))))) ?hg ?ho ?hn ?hr ?_; (case ho => rfl); (case hg => rfl); (case hn => rfl); (case hr => exact qq_); intro w67 hw; have hg : w64.grownBy w67 (some go21) := (by rw [hw]; exact HP66.2); have hp_ : Kd.R k25 25 w67 w.heap.size (fun _ => True) (.slice (some ⟨go21, 0, none⟩) y376.length co65) y380 := (by rw [hw, Ny380.out]; exact HP66.1); clear HP66; replace BK367 := Aside0.mk (blk_grown (g := gb367) (o := .cells #[.int .i64 a0_0, .int .i64 a0_1, .int .i64 a0_2, .int .i64 a0_3] 23 (0, 0)) (qk_ BK367) hg (Kd.R_ne HO378.out BK367.out (by decide))); replace HO378 := Aside0.mk (hp_); replace HB := Aside0.mk ((by rw [hw]; exact below_set (HB.out) GB21.out : Below w.heap.size w w67)); clear hg hw hp_; obtain ⟨hcz68_0, hcz68_1, hcz68_2, hcz68_3⟩ := qz4_ BK367; obtain ⟨hfz68_0, hfz68_1, hfz68_2, hfz68_3⟩ := qf4_ BK367) | ((with_reducible refine gate_callee (f := 13) rfl ?_); refine goesL_ (some 70) rfl rfl Tryd.func13 (by kernel_rfl) rfl #[.agg #[.int .i64 a0_0, .int .i64 a0_1, .int .i64 a0_2, .int .i64 a0_3], .slice A1 l1.length c1, .int .i64 a2, .slice A3 l3.length c3] rfl ql_ ?_; (with_reducible refine (points_Order.calls kj8 a0_0 a0_1 a0_2 a0_3 _ _ l1 a2 _ _ l3 t381 t384 _ ?side1 ?side2 ?side3 ?side4 ?side5 A22.out).mono ?_); (case side1 => exact qc_ HR1); (case side2 => exact HC1.out); (case side3 => exact qc_ HR3); (case side4 => exact HC3.out); (case side5 => exact TabOK.below HTA.out qb_); rintro e w69 ⟨v382, rfl, ho0, hb⟩; refine ⟨_, rfl, ?_⟩; replace HO378 := qrb_ HO378 hb; have HO383 := Aside0.mk (Kd.R_lower ho0 (below_size qb_)); replace BK367 := qkb_ BK367 hb; replace HB := qbs_ hb; (try clear hb); (try clear hb2); (try clear hk); (try clear hi); (try clear ho0); obtain ⟨hcz70_0, hcz70_1, hcz70_2, hcz70_3⟩ := qz4_ BK367; obtain ⟨hfz70_0, hfz70_1, hfz70_2, hfz70_3⟩ := qf4_ BK367) | ((with_reducible refine gate_callee (f := 13) rfl ?_); refine goesL_ (some 78) rfl rfl Tryd.func13 (by kernel_rfl) rfl #[.agg #[.int .i64 a0_0, .int .i64 a0_1, .int .i64 a0_2, .int .i64 a0_3], .slice (some ⟨go21, 0, none⟩) y380.length co65, .int .i64 a2, .slice A3 l3.length c3] rfl (by (try simp only [List.map_toArray, List.map_cons, List.map_nil]); first | done | (rw [show y380.length = y376.length from (Kd.R_reads' HO378.out).1.symm] <;> rfl) | rfl | (simp only [List.length_drop, List.length_take]; rfl)) ?_; (with_reducible refine (points_Order.calls kj8 a0_0 a0_1 a0_2 a0_3 _ _ y380 a2 _ _ l3 t385 t388 _ ?side1 ?side2 ?side3 ?side4 ?side5 A23.out).mono ?_); (case side1 => exact qv_ (Kd.R_reads' HO378.out).2.2); (case side2 => rw [show y380.length = y376.length from (Kd.R_reads' HO378.out).1.symm]; exact (Kd.R_reads' HO378.out).2.1); (case side3 => exact qc_ HR3); (case side4 => exact HC3.out); (case side5 => exact TabOK.below HTA.out qb_); rintro e w71 ⟨v386, rfl, ho0, hb⟩; refine ⟨_, rfl, ?_⟩; replace HO378 := qrb_ HO378 hb; have HO387 := Aside0.mk (Kd.R_lower (Kd.R_new' ho0 (Kd.R_lt (qr_ HO383))) (below_size qb_)); replace HO383 := qel_ HO383 ho0 hb; replace BK367 := qkb_ BK367 hb; replace HB := qbs_ hb; (try clear hb); (try clear hb2); (try clear hk); (try clear hi); (try clear ho0); obtain ⟨Ao72, co72, eo72⟩ := Kd.R_slice HO387.out; subst eo72))
                      go_ret
                      exact ⟨by first | rfl | (simp [errW_none, errW_some] <;> rfl) | (simp only [← hji18]; first | rfl | (simp [errW_none, errW_some] <;> rfl)) | (simp [*, errW_none, errW_some] <;> rfl), qb_⟩
                    · rw [if_neg c61] at H
                      have c61b0 : (t384 == 0) = false := beq_eq_false_iff_ne.mpr c61
                      have c61b1 : (t384 != 0) = true := bne_iff_ne.mpr c61
                      obtain rfl := Option.some.inj H
                      go_wp2_with (first | ((with_reducible refine gate_dst (N := 52) rfl ?_); (try (refine gate_guard (by rfl) ?_; dsimp only)); refine Kd.R_lit k25 _ 25 ?hg (N := 52) ?hd (xs := ([] : List (S25))) (inner := []) (ok := fun _ => True) (okp := fun _ => True) ?hr ?hp (fun _ hk => hk) trivial (Below.refl _ _) (Nat.le_refl _) (by simp) ?_; (case hd => rfl); (case hg => rfl); (case hr => exact qq_); (case hp => exact (Reps.none _ _)); intro v374 w73 ho74 hb hg_ hnew_; clear hg_ hnew_; (first | rw [← Ny373.out] at ho74 | (simp only [Int.reduceToNat] at ho74; rw [← Ny373.out] at ho74)); have HO375 := Aside0.mk (Kd.R_lower ho74 (below_size qb_)); replace BK367 := qkb_ BK367 hb; replace HB := qbs_ hb; clear hb ho74) | ((with_reducible refine gate_builtin (b := .append) (xs := #[.tmp 52, .tmp 53]) rfl ?_); (try (refine gate_guard (by rfl) ?_; dsimp only)); at_builtin; refine Kd.R_append_rows k25 (w0 := w) w.heap.size rfl (.tmp 52) (.tmp 53) 26 25 (.agg #[(.int .i64 0), (.int .i64 0), (.int .i64 0), (.int .i64 0), (.int .i64 0)]) 40 rfl Tryd.underlying26 info25 rfl (by decide) (by omega) v374 y373 l1 _ _ _ (fun _ => True) (fun _ => False) rfl rfl ?aO ?aR (fun _ _ h => h) (fun _ h => h.elim) ?aF ?aB ?aS ?aL ?_; (case aR => repeat (first | exact (Kd.C_below HR1.out HB.out) | (with_reducible refine Kd.C_alloc ?_ _) | (with_reducible refine Kd.C_drewN ?_ _) | (with_reducible refine Kd.C_drew ?_))); (case aB => exact qb_); (case aF => exact (fun _ _ => trivial)); (case aO => exact (qr_ HO375)); (case aS => exact (below_size qb_)); (case aL => have := LMc17.out; omega); intro v377 w75 ho hb hg hat; rw [← Ny376.out] at ho; replace BK367 := Aside0.mk (blk_grown (g := gb367) (o := .cells #[.int .i64 a0_0, .int .i64 a0_1, .int .i64 a0_2, .int .i64 a0_3] 23 (0, 0)) (qk_ BK367) hg (Kd.R_ne HO375.out BK367.out (by decide))); replace HB := Aside0.mk (hb); have HO378 := Aside0.mk (ho); clear HO375 ho hb hg hat; obtain ⟨Ao76, co76, eo76⟩ := Kd.R_slice HO378.out; subst eo76; have p379 : 0 ≤ ((ji18) : Int) := of_decide_eq_true qa_; have q379 : (ji18) < (y376.length : Int) := of_decide_eq_true qa_; obtain ⟨ad379, e379, hx379_0, hx379_1, hx379_2, hx379_3, hx379_4⟩ := at_T25 (Kd.R_reads' HO378.out).2.2 (ji18) p379 q379; cases e379; replace p379 := eq_true p379; replace q379 := eq_true q379; have p21 : 0 ≤ ((ji18) : Int) := of_decide_eq_true qa_; have q21 : ((ji18) : Int) < ((y376.length : Int) : Int) := of_decide_eq_true qa_; obtain ⟨go21, co21, eo21, gb21, gl21, cl21, HG21⟩ := Kd.R_form HO378.out (by omega); (first | cases eo21 | (injection eo21 with ea_ en_ ec_; (first | subst ea_ | (injection ea_ with ea_; subst ea_)); subst ec_; clear en_)); have GB21 := Aside0.mk gb21; have GG21 := Aside0.mk HG21; clear gb21 gl21 HG21; (first | simp only [add_plain] at hx379_0 | skip); (first | simp only [add_plain] at hx379_1 | skip); (first | simp only [add_plain] at hx379_2 | skip); (first | simp only [add_plain] at hx379_3 | skip); (first | simp only [add_plain] at hx379_4 | skip); obtain ⟨ce21, hcl21, hM21, hcc21, hfr21⟩ := Kd.R_elem HO378.out z25 ((ji18) : Int) p21 q21; obtain rfl := k25_openM hM21; have hx21_0 : w75.cell? ⟨go21, ((ji18) : Int).toNat * 5, none⟩ = some (.int .i64 ((rd_T25 y376 (ji18)).f0)) := hcc21 0 _ rfl; have hx21_1 : w75.cell? ⟨go21, ((ji18) : Int).toNat * 5 + 1, none⟩ = some (.int .i64 ((rd_T25 y376 (ji18)).f1)) := hcc21 1 _ rfl; have hx21_2 : w75.cell? ⟨go21, ((ji18) : Int).toNat * 5 + 2, none⟩ = some (.int .i64 ((rd_T25 y376 (ji18)).f2)) := hcc21 2 _ rfl; have hx21_3 : w75.cell? ⟨go21, ((ji18) : Int).toNat * 5 + 3, none⟩ = some (.int .i64 ((rd_T25 y376 (ji18)).f3)) := hcc21 3 _ rfl; have hx21_4 : w75.cell? ⟨go21, ((ji18) : Int).toNat * 5 + 4, none⟩ = some (.int .i64 ((rd_T25 y376 (ji18)).f4)) := hcc21 4 _ rfl; have hf21_0 : w75.frozen? ⟨go21, ((ji18) : Int).toNat * 5, none⟩ = false := hfr21 0; have hf21_1 : w75.frozen? ⟨go21, ((ji18) : Int).toNat * 5 + 1, none⟩ = false := hfr21 1; have hf21_2 : w75.frozen? ⟨go21, ((ji18) : Int).toNat * 5 + 2, none⟩ = false := hfr21 2; have hf21_3 : w75.frozen? ⟨go21, ((ji18) : Int).toNat * 5 + 3, none⟩ = false := hfr21 3; have hf21_4 : w75.frozen? ⟨go21, ((ji18) : Int).toNat * 5 + 4, none⟩ = false := hfr21 4; clear hcl21 hcc21 hfr21 hM21; replace p21 := eq_true p21; replace q21 := eq_true q21; have HX77 := Aside0.mk (show Kd.R k25 25 w75 w.heap.size (fun _ => True) (.slice (some ⟨go21, 0, none⟩) y376.length co76) y376 from (qr_ HO378)); obtain ⟨ce77, hcl77, hM77, hcc77, hfr77⟩ := Kd.R_elem HX77.out z25 ((ji18) : Int) (of_decide_eq_true qa_) (by have h_ : ((ji18) : Int) < ((y376.length : Int) : Int) := of_decide_eq_true qa_; first | exact h_ | (have e_ := (Kd.R_reads' HO378.out).1; omega) | simpa using h_); obtain rfl := k25_openM hM77; have HP77 := Kd.R_seg HX77.out ((ji18) : Int) (of_decide_eq_true qa_) (by have h_ : ((ji18) : Int) < ((y376.length : Int) : Int) := of_decide_eq_true qa_; first | exact h_ | (have e_ := (Kd.R_reads' HO378.out).1; omega) | simpa using h_) (seg := [.int .i64 (wrap64 (((rd_T25 y376 (ji18)).f3) + (wrap64 (a5))))]) (j := 3) hcl77 hcc77 (show 4 ≤ 5 from by decide) (x' := (⟨(rd_T25 y376 (ji18)).f0, (rd_T25 y376 (ji18)).f1, (rd_T25 y376 (ji18)).f2, wrap64 (((rd_T25 y376 (ji18)).f3) + (wrap64 (a5))), (rd_T25 y376 (ji18)).f4⟩ : S25)) (k25_mkM _ _ _ (⟨(rd_T25 y376 (ji18)).f0, (rd_T25 y376 (ji18)).f1, (rd_T25 y376 (ji18)).f2, wrap64 (((rd_T25 y376 (ji18)).f3) + (wrap64 (a5))), (rd_T25 y376 (ji18)).f4⟩ : S25) ) (fun _ hk => hk); have hx77_3 := hcc77 3 _ rfl; (try simp only [show (k25).sz = 5 from rfl, Nat.mul_one, Nat.add_zero] at hx77_3); have hf77_3 := hfr77 3; (try simp only [show (k25).sz = 5 from rfl, Nat.mul_one, Nat.add_zero] at hf77_3); clear hcl77 hcc77 hfr77 hM77) | ((with_reducible refine gate_store (t := 3) (p := 64) rfl ?_); refine store_event (t := 3) (p := 64) (v := ?vo_w78) (w1 := (w75.setCell ⟨go21, ((ji18) : Int).toNat * 5 + 3, none⟩ (.int .i64 (wrap64 (((rd_T25 y376 (ji18)).f3) + (wrap64 (a5))))))) ?hg ?ho ?hn ?hr ?_; (case ho => rfl); (case hg => rfl); (case hn => rfl); (case hr => exact qq_); intro w78 hw; have hg : w75.grownBy w78 (some go21) := (by rw [hw]; exact HP77.2); have hp_ : Kd.R k25 25 w78 w.heap.size (fun _ => True) (.slice (some ⟨go21, 0, none⟩) y376.length co76) y380 := (by rw [hw, Ny380.out]; exact HP77.1); clear HP77; replace BK367 := Aside0.mk (blk_grown (g := gb367) (o := .cells #[.int .i64 a0_0, .int .i64 a0_1, .int .i64 a0_2, .int .i64 a0_3] 23 (0, 0)) (qk_ BK367) hg (Kd.R_ne HO378.out BK367.out (by decide))); replace HO378 := Aside0.mk (hp_); replace HB := Aside0.mk ((by rw [hw]; exact below_set (HB.out) GB21.out : Below w.heap.size w w78)); clear hg hw hp_; obtain ⟨hcz79_0, hcz79_1, hcz79_2, hcz79_3⟩ := qz4_ BK367; obtain ⟨hfz79_0, hfz79_1, hfz79_2, hfz79_3⟩ := qf4_ BK367) | ((with_reducible refine gate_callee (f := 13) rfl ?_); refine goesL_ (some 70) rfl rfl Tryd.func13 (by kernel_rfl) rfl #[.agg #[.int .i64 a0_0, .int .i64 a0_1, .int .i64 a0_2, .int .i64 a0_3], .slice A1 l1.length c1, .int .i64 a2, .slice A3 l3.length c3] rfl ql_ ?_; (with_reducible refine (points_Order.calls kj8 a0_0 a0_1 a0_2 a0_3 _ _ l1 a2 _ _ l3 t381 t384 _ ?side1 ?side2 ?side3 ?side4 ?side5 A22.out).mono ?_); (case side1 => exact qc_ HR1); (case side2 => exact HC1.out); (case side3 => exact qc_ HR3); (case side4 => exact HC3.out); (case side5 => exact TabOK.below HTA.out qb_); rintro e w80 ⟨v382, rfl, ho0, hb⟩; refine ⟨_, rfl, ?_⟩; replace HO378 := qrb_ HO378 hb; have HO383 := Aside0.mk (Kd.R_lower ho0 (below_size qb_)); replace BK367 := qkb_ BK367 hb; replace HB := qbs_ hb; (try clear hb); (try clear hb2); (try clear hk); (try clear hi); (try clear ho0); obtain ⟨hcz81_0, hcz81_1, hcz81_2, hcz81_3⟩ := qz4_ BK367; obtain ⟨hfz81_0, hfz81_1, hfz81_2, hfz81_3⟩ := qf4_ BK367) | ((with_reducible refine gate_callee (f := 13) rfl ?_); refine goesL_ (some 78) rfl rfl Tryd.func13 (by kernel_rfl) rfl #[.agg #[.int .i64 a0_0, .int .i64 a0_1, .int .i64 a0_2, .int .i64 a0_3], .slice (some ⟨go21, 0, none⟩) y380.length co76, .int .i64 a2, .slice A3 l3.length c3] rfl (by (try simp only [List.map_toArray, List.map_cons, List.map_nil]); first | done | (rw [show y380.length = y376.length from (Kd.R_reads' HO378.out).1.symm] <;> rfl) | rfl | (simp only [List.length_drop, List.length_take]; rfl)) ?_; (with_reducible refine (points_Order.calls kj8 a0_0 a0_1 a0_2 a0_3 _ _ y380 a2 _ _ l3 t385 t388 _ ?side1 ?side2 ?side3 ?side4 ?side5 A23.out).mono ?_); (case side1 => exact qv_ (Kd.R_reads' HO378.out).2.2); (case side2 => rw [show y380.length = y376.length from (Kd.R_reads' HO378.out).1.symm]; exact (Kd.R_reads' HO378.out).2.1); (case side3 => exact qc_ HR3); (case side4 => exact HC3.out); (case side5 => exact TabOK.below HTA.out qb_); rintro e w82 ⟨v386, rfl, ho0, hb⟩; refine ⟨_, rfl, ?_⟩; replace HO378 := qrb_ HO378 hb; have HO387 := Aside0.mk (Kd.R_lower (Kd.R_new' ho0 (Kd.R_lt (qr_ HO383))) (below_size qb_)); replace HO383 := qel_ HO383 ho0 hb; replace BK367 := qkb_ BK367 hb; replace HB := qbs_ hb; (try clear hb); (try clear hb2); (try clear hk); (try clear hi); (try clear ho0)))
                      go_ret
                      exact ⟨by first | rfl | (simp [errW_none, errW_some] <;> rfl) | (simp only [← hji18]; first | rfl | (simp [errW_none, errW_some] <;> rfl)) | (simp [*, errW_none, errW_some] <;> rfl), qb_⟩
                  · replace c60 := Bool.eq_false_iff.mpr c60
                    subst c60
                    have H1 : (some false) = some r := by rw [if_neg (show ¬ (false = true) by decide)] at H; exact H
                    clear H
                    have H := H1
                    clear H1
                    obtain rfl := Option.some.inj H
                    go_wp2_with (first | ((with_reducible refine gate_dst (N := 52) rfl ?_); (try (refine gate_guard (by rfl) ?_; dsimp only)); refine Kd.R_lit k25 _ 25 ?hg (N := 52) ?hd (xs := ([] : List (S25))) (inner := []) (ok := fun _ => True) (okp := fun _ => True) ?hr ?hp (fun _ hk => hk) trivial (Below.refl _ _) (Nat.le_refl _) (by simp) ?_; (case hd => rfl); (case hg => rfl); (case hr => exact qq_); (case hp => exact (Reps.none _ _)); intro v374 w83 ho84 hb hg_ hnew_; clear hg_ hnew_; (first | rw [← Ny373.out] at ho84 | (simp only [Int.reduceToNat] at ho84; rw [← Ny373.out] at ho84)); have HO375 := Aside0.mk (Kd.R_lower ho84 (below_size qb_)); replace BK367 := qkb_ BK367 hb; replace HB := qbs_ hb; clear hb ho84) | ((with_reducible refine gate_builtin (b := .append) (xs := #[.tmp 52, .tmp 53]) rfl ?_); (try (refine gate_guard (by rfl) ?_; dsimp only)); at_builtin; refine Kd.R_append_rows k25 (w0 := w) w.heap.size rfl (.tmp 52) (.tmp 53) 26 25 (.agg #[(.int .i64 0), (.int .i64 0), (.int .i64 0), (.int .i64 0), (.int .i64 0)]) 40 rfl Tryd.underlying26 info25 rfl (by decide) (by omega) v374 y373 l1 _ _ _ (fun _ => True) (fun _ => False) rfl rfl ?aO ?aR (fun _ _ h => h) (fun _ h => h.elim) ?aF ?aB ?aS ?aL ?_; (case aR => repeat (first | exact (Kd.C_below HR1.out HB.out) | (with_reducible refine Kd.C_alloc ?_ _) | (with_reducible refine Kd.C_drewN ?_ _) | (with_reducible refine Kd.C_drew ?_))); (case aB => exact qb_); (case aF => exact (fun _ _ => trivial)); (case aO => exact (qr_ HO375)); (case aS => exact (below_size qb_)); (case aL => have := LMc17.out; omega); intro v377 w85 ho hb hg hat; rw [← Ny376.out] at ho; replace BK367 := Aside0.mk (blk_grown (g := gb367) (o := .cells #[.int .i64 a0_0, .int .i64 a0_1, .int .i64 a0_2, .int .i64 a0_3] 23 (0, 0)) (qk_ BK367) hg (Kd.R_ne HO375.out BK367.out (by decide))); replace HB := Aside0.mk (hb); have HO378 := Aside0.mk (ho); clear HO375 ho hb hg hat; obtain ⟨Ao86, co86, eo86⟩ := Kd.R_slice HO378.out; subst eo86; have p379 : 0 ≤ ((ji18) : Int) := of_decide_eq_true qa_; have q379 : (ji18) < (y376.length : Int) := of_decide_eq_true qa_; obtain ⟨ad379, e379, hx379_0, hx379_1, hx379_2, hx379_3, hx379_4⟩ := at_T25 (Kd.R_reads' HO378.out).2.2 (ji18) p379 q379; cases e379; replace p379 := eq_true p379; replace q379 := eq_true q379; have p21 : 0 ≤ ((ji18) : Int) := of_decide_eq_true qa_; have q21 : ((ji18) : Int) < ((y376.length : Int) : Int) := of_decide_eq_true qa_; obtain ⟨go21, co21, eo21, gb21, gl21, cl21, HG21⟩ := Kd.R_form HO378.out (by omega); (first | cases eo21 | (injection eo21 with ea_ en_ ec_; (first | subst ea_ | (injection ea_ with ea_; subst ea_)); subst ec_; clear en_)); have GB21 := Aside0.mk gb21; have GG21 := Aside0.mk HG21; clear gb21 gl21 HG21; (first | simp only [add_plain] at hx379_0 | skip); (first | simp only [add_plain] at hx379_1 | skip); (first | simp only [add_plain] at hx379_2 | skip); (first | simp only [add_plain] at hx379_3 | skip); (first | simp only [add_plain] at hx379_4 | skip); obtain ⟨ce21, hcl21, hM21, hcc21, hfr21⟩ := Kd.R_elem HO378.out z25 ((ji18) : Int) p21 q21; obtain rfl := k25_openM hM21; have hx21_0 : w85.cell? ⟨go21, ((ji18) : Int).toNat * 5, none⟩ = some (.int .i64 ((rd_T25 y376 (ji18)).f0)) := hcc21 0 _ rfl; have hx21_1 : w85.cell? ⟨go21, ((ji18) : Int).toNat * 5 + 1, none⟩ = some (.int .i64 ((rd_T25 y376 (ji18)).f1)) := hcc21 1 _ rfl; have hx21_2 : w85.cell? ⟨go21, ((ji18) : Int).toNat * 5 + 2, none⟩ = some (.int .i64 ((rd_T25 y376 (ji18)).f2)) := hcc21 2 _ rfl; have hx21_3 : w85.cell? ⟨go21, ((ji18) : Int).toNat * 5 + 3, none⟩ = some (.int .i64 ((rd_T25 y376 (ji18)).f3)) := hcc21 3 _ rfl; have hx21_4 : w85.cell? ⟨go21, ((ji18) : Int).toNat * 5 + 4, none⟩ = some (.int .i64 ((rd_T25 y376 (ji18)).f4)) := hcc21 4 _ rfl; have hf21_0 : w85.frozen? ⟨go21, ((ji18) : Int).toNat * 5, none⟩ = false := hfr21 0; have hf21_1 : w85.frozen? ⟨go21, ((ji18) : Int).toNat * 5 + 1, none⟩ = false := hfr21 1; have hf21_2 : w85.frozen? ⟨go21, ((ji18) : Int).toNat * 5 + 2, none⟩ = false := hfr21 2; have hf21_3 : w85.frozen? ⟨go21, ((ji18) : Int).toNat * 5 + 3, none⟩ = false := hfr21 3; have hf21_4 : w85.frozen? ⟨go21, ((ji18) : Int).toNat * 5 + 4, none⟩ = false := hfr21 4; clear hcl21 hcc21 hfr21 hM21; replace p21 := eq_true p21; replace q21 := eq_true q21; have HX87 := Aside0.mk (show Kd.R k25 25 w85 w.heap.size (fun _ => True) (.slice (some ⟨go21, 0, none⟩) y376.length co86) y376 from (qr_ HO378)); obtain ⟨ce87, hcl87, hM87, hcc87, hfr87⟩ := Kd.R_elem HX87.out z25 ((ji18) : Int) (of_decide_eq_true qa_) (by have h_ : ((ji18) : Int) < ((y376.length : Int) : Int) := of_decide_eq_true qa_; first | exact h_ | (have e_ := (Kd.R_reads' HO378.out).1; omega) | simpa using h_); obtain rfl := k25_openM hM87; have HP87 := Kd.R_seg HX87.out ((ji18) : Int) (of_decide_eq_true qa_) (by have h_ : ((ji18) : Int) < ((y376.length : Int) : Int) := of_decide_eq_true qa_; first | exact h_ | (have e_ := (Kd.R_reads' HO378.out).1; omega) | simpa using h_) (seg := [.int .i64 (wrap64 (((rd_T25 y376 (ji18)).f3) + (wrap64 (a5))))]) (j := 3) hcl87 hcc87 (show 4 ≤ 5 from by decide) (x' := (⟨(rd_T25 y376 (ji18)).f0, (rd_T25 y376 (ji18)).f1, (rd_T25 y376 (ji18)).f2, wrap64 (((rd_T25 y376 (ji18)).f3) + (wrap64 (a5))), (rd_T25 y376 (ji18)).f4⟩ : S25)) (k25_mkM _ _ _ (⟨(rd_T25 y376 (ji18)).f0, (rd_T25 y376 (ji18)).f1, (rd_T25 y376 (ji18)).f2, wrap64 (((rd_T25 y376 (ji18)).f3) + (wrap64 (a5))), (rd_T25 y376 (ji18)).f4⟩ : S25) ) (fun _ hk => hk); have hx87_3 := hcc87 3 _ rfl; (try simp only [show (k25).sz = 5 from rfl, Nat.mul_one, Nat.add_zero] at hx87_3); have hf87_3 := hfr87 3; (try simp only [show (k25).sz = 5 from rfl, Nat.mul_one, Nat.add_zero] at hf87_3); clear hcl87 hcc87 hfr87 hM87) | ((with_reducible refine gate_store (t := 3) (p := 64) rfl ?_); refine store_event (t := 3) (p := 64) (v := ?vo_w88) (w1 := (w85.setCell ⟨go21, ((ji18) : Int).toNat * 5 + 3, none⟩ (.int .i64 (wrap64 (((rd_T25 y376 (ji18)).f3) + (wrap64 (a5))))))) ?hg ?ho ?hn ?hr ?_; (case ho => rfl); (case hg => rfl); (case hn => rfl); (case hr => exact qq_); intro w88 hw; have hg : w85.grownBy w88 (some go21) := (by rw [hw]; exact HP87.2); have hp_ : Kd.R k25 25 w88 w.heap.size (fun _ => True) (.slice (some ⟨go21, 0, none⟩) y376.length co86) y380 := (by rw [hw, Ny380.out]; exact HP87.1); clear HP87; replace BK367 := Aside0.mk (blk_grown (g := gb367) (o := .cells #[.int .i64 a0_0, .int .i64 a0_1, .int .i64 a0_2, .int .i64 a0_3] 23 (0, 0)) (qk_ BK367) hg (Kd.R_ne HO378.out BK367.out (by decide))); replace HO378 := Aside0.mk (hp_); replace HB := Aside0.mk ((by rw [hw]; exact below_set (HB.out) GB21.out : Below w.heap.size w w88)); clear hg hw hp_; obtain ⟨hcz89_0, hcz89_1, hcz89_2, hcz89_3⟩ := qz4_ BK367; obtain ⟨hfz89_0, hfz89_1, hfz89_2, hfz89_3⟩ := qf4_ BK367) | ((with_reducible refine gate_callee (f := 13) rfl ?_); refine goesL_ (some 70) rfl rfl Tryd.func13 (by kernel_rfl) rfl #[.agg #[.int .i64 a0_0, .int .i64 a0_1, .int .i64 a0_2, .int .i64 a0_3], .slice A1 l1.length c1, .int .i64 a2, .slice A3 l3.length c3] rfl ql_ ?_; (with_reducible refine (points_Order.calls kj8 a0_0 a0_1 a0_2 a0_3 _ _ l1 a2 _ _ l3 t381 t384 _ ?side1 ?side2 ?side3 ?side4 ?side5 A22.out).mono ?_); (case side1 => exact qc_ HR1); (case side2 => exact HC1.out); (case side3 => exact qc_ HR3); (case side4 => exact HC3.out); (case side5 => exact TabOK.below HTA.out qb_); rintro e w90 ⟨v382, rfl, ho0, hb⟩; refine ⟨_, rfl, ?_⟩; replace HO378 := qrb_ HO378 hb; have HO383 := Aside0.mk (Kd.R_lower ho0 (below_size qb_)); replace BK367 := qkb_ BK367 hb; replace HB := qbs_ hb; (try clear hb); (try clear hb2); (try clear hk); (try clear hi); (try clear ho0); obtain ⟨hcz91_0, hcz91_1, hcz91_2, hcz91_3⟩ := qz4_ BK367; obtain ⟨hfz91_0, hfz91_1, hfz91_2, hfz91_3⟩ := qf4_ BK367) | ((with_reducible refine gate_callee (f := 13) rfl ?_); refine goesL_ (some 78) rfl rfl Tryd.func13 (by kernel_rfl) rfl #[.agg #[.int .i64 a0_0, .int .i64 a0_1, .int .i64 a0_2, .int .i64 a0_3], .slice (some ⟨go21, 0, none⟩) y380.length co86, .int .i64 a2, .slice A3 l3.length c3] rfl (by (try simp only [List.map_toArray, List.map_cons, List.map_nil]); first | done | (rw [show y380.length = y376.length from (Kd.R_reads' HO378.out).1.symm] <;> rfl) | rfl | (simp only [List.length_drop, List.length_take]; rfl)) ?_; (with_reducible refine (points_Order.calls kj8 a0_0 a0_1 a0_2 a0_3 _ _ y380 a2 _ _ l3 t385 t388 _ ?side1 ?side2 ?side3 ?side4 ?side5 A23.out).mono ?_); (case side1 => exact qv_ (Kd.R_reads' HO378.out).2.2); (case side2 => rw [show y380.length = y376.length from (Kd.R_reads' HO378.out).1.symm]; exact (Kd.R_reads' HO378.out).2.1); (case side3 => exact qc_ HR3); (case side4 => exact HC3.out); (case side5 => exact TabOK.below HTA.out qb_); rintro e w92 ⟨v386, rfl, ho0, hb⟩; refine ⟨_, rfl, ?_⟩; replace HO378 := qrb_ HO378 hb; have HO387 := Aside0.mk (Kd.R_lower (Kd.R_new' ho0 (Kd.R_lt (qr_ HO383))) (below_size qb_)); replace HO383 := qel_ HO383 ho0 hb; replace BK367 := qkb_ BK367 hb; replace HB := qbs_ hb; (try clear hb); (try clear hb2); (try clear hk); (try clear hi); (try clear ho0)))
                    go_ret
                    exact ⟨by first | rfl | (simp [errW_none, errW_some] <;> rfl) | (simp only [← hji18]; first | rfl | (simp [errW_none, errW_some] <;> rfl)) | (simp [*, errW_none, errW_some] <;> rfl), qb_⟩
              · rw [if_neg c20] at H
                exact absurd H (by simp)
            · rw [if_neg c19] at H
              exact absurd H (by simp)
          · rw [if_neg c17] at H
            exact absurd H (by simp)

end Go.Proofs.YtfhmbfadbfnnaaaDoor.Px
