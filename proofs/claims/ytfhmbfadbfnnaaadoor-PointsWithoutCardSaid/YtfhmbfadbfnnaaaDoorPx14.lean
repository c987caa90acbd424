/- Contracts of Go functions, written by a program of this session's own (wip/tools/myprint.py) out of the translation: each Go function does what the Lean function of its name says. Conditions: as each theorem states. -/
import Derived.Test.YtfhmbfadbfnnaaaDoorPx0
import Derived.Test.YtfhmbfadbfnnaaaDoorPx3
import Derived.Test.YtfhmbfadbfnnaaaDoorPx8
import Derived.Test.YtfhmbfadbfnnaaaDoorPx10
namespace Go.Proofs.YtfhmbfadbfnnaaaDoor.Px
open Go.Proofs.YtfhmbfadbfnnaaaDoor.Given
open Go.RowKit Go.Proofs.YtfhmbfadbfnnaaaDoorW.PrintWords Go.Proofs.YtfhmbfadbfnnaaaDoorW.PrintLast Go.Proofs.YtfhmbfadbfnnaaaDoorW.PrintMore
attribute [local go_sem] max2_int min2_int max_two min_two max_three min_three max_four min_four   -- for this text's walks alone
set_option linter.unusedVariables false
set_option linter.unusedSimpArgs false

/-! ### cohousinglaw21_usable: function 17 -/
mutual
def cohousinglaw21_usable.j0 : Nat → List (S25) → Int → Bool → Int → Int → Int → Int → Option (List Int × Bool)
  | 0, _, _, _, _, _, _, _ => none
  | k + 1, x1, x2, x25, x291000, x291001, x291002, x291003 => if x25 = true then (some (([] : List Int), false)) else (cohousinglaw21_usable.l0 k x2 ([] : List Int) x1 (x1.length : Int) 0 x291000 x291001 x291002 x291003 ([] : List (Int × Bool)))
def cohousinglaw21_usable.l0 : Nat → Int → List Int → List (S25) → Int → Int → Int → Int → Int → Int → List (Int × Bool) → Option (List Int × Bool)
  | 0, _, _, _, _, _, _, _, _, _, _ => none
  | k + 1, x2, x10, x27, x28, x29, x291000, x291001, x291002, x291003, x293000 => if x29 < x28 then (if 0 ≤ x29 then (if x29 < (x27.length : Int) then ((points_Count.f k x291000 x291001 x291002 x291003 ((rd_T25 x27 x29).f0) ((rd_T25 x27 x29).f1) ((rd_T25 x27 x29).f2) ((rd_T25 x27 x29).f3) ((rd_T25 x27 x29).f4) x2).bind fun bt296 => (if bt296.2 = 0 then (if mgetB x293000 ((rd_T25 x27 x29).f0) = true then (some (([] : List Int), false)) else (if x10.length < 17592186044416 then (cohousinglaw21_usable.l0 k x2 (x10 ++ [bt296.1]) x27 x28 (wrap64 (x29 + 1)) x291000 x291001 x291002 x291003 (mput x293000 ((rd_T25 x27 x29).f0) true)) else (none))) else (some (([] : List Int), false)))) else (none)) else (none)) else ((cohousingref21_Weights.f x291000 x291001 x291002 x291003).bind fun t293 => (some (x10, t293)))
end
def cohousinglaw21_usable.f (k : Nat) (a0_0 a0_1 a0_2 a0_3 : Int) (l1 : List (S25)) (a2 : Int) (l3 : List Int) : Option (List Int × Bool) := if (l1.length : Int) > 64 then (cohousinglaw21_usable.j0 k l1 a2 true a0_0 a0_1 a0_2 a0_3) else ((cohousingref21_Lots.f k l3 (l1.length : Int)).bind fun t291 => (cohousinglaw21_usable.j0 k l1 a2 (!t291) a0_0 a0_1 a0_2 a0_3))
theorem cohousinglaw21_usable.mono_l : ∀ k, (∀ y0 y1 y2 y3 y4 y5 y6, LeO (cohousinglaw21_usable.j0 k y0 y1 y2 y3 y4 y5 y6) (cohousinglaw21_usable.j0 (k + 1) y0 y1 y2 y3 y4 y5 y6)) ∧ (∀ y0 y1 y2 y3 y4 y5 y6 y7 y8 y9, LeO (cohousinglaw21_usable.l0 k y0 y1 y2 y3 y4 y5 y6 y7 y8 y9) (cohousinglaw21_usable.l0 (k + 1) y0 y1 y2 y3 y4 y5 y6 y7 y8 y9))
  | 0 => ⟨fun _ _ _ _ _ _ _ r h => by simp [cohousinglaw21_usable.j0] at h, fun _ _ _ _ _ _ _ _ _ _ r h => by simp [cohousinglaw21_usable.l0] at h⟩
  | k + 1 => by
    obtain ⟨ih0, ih1⟩ := cohousinglaw21_usable.mono_l k
    refine ⟨?_, ?_⟩
    · intro y0 y1 y2 y3 y4 y5 y6
      unfold cohousinglaw21_usable.j0
      with_reducible (repeat' first | apply ih0 | apply ih1 | apply cohousingref21_Lots.mono | apply points_Count.mono | apply LeO.refl | apply LeO.none | apply LeO.ite | refine LeO.bind ?_ (fun _ => ?_))
    · intro y0 y1 y2 y3 y4 y5 y6 y7 y8 y9
      unfold cohousinglaw21_usable.l0
      with_reducible (repeat' first | apply ih0 | apply ih1 | apply cohousingref21_Lots.mono | apply points_Count.mono | apply LeO.refl | apply LeO.none | apply LeO.ite | refine LeO.bind ?_ (fun _ => ?_))
theorem cohousinglaw21_usable.mono : ∀ a0 a1 a2 a3 a4 a5 a6 k, LeO (cohousinglaw21_usable.f k a0 a1 a2 a3 a4 a5 a6) (cohousinglaw21_usable.f (k + 1) a0 a1 a2 a3 a4 a5 a6) := by
  intro a0 a1 a2 a3 a4 a5 a6 k
  obtain ⟨ih0, ih1⟩ := cohousinglaw21_usable.mono_l k
  unfold cohousinglaw21_usable.f
  with_reducible (repeat' first | apply ih0 | apply ih1 | apply cohousingref21_Lots.mono | apply points_Count.mono | apply LeO.refl | apply LeO.none | apply LeO.ite | refine LeO.bind ?_ (fun _ => ?_))
set_option maxHeartbeats 8000000 in
set_option maxRecDepth 100000 in
theorem cohousinglaw21_usable.calls (k : Nat) (a0_0 a0_1 a0_2 a0_3 : Int) (A1 : Option Addr) (c1 : Nat) (l1 : List (S25)) (a2 : Int) (A3 : Option Addr) (c3 : Nat) (l3 r1 : List Int) (r2 : Bool) (w : World) (hr1 : Kd.C k25 w A1 l1.length l1) (hc1 : l1.length ≤ c1) (hr3 : Kd.C (Kd.int .i64) w A3 l3.length l3) (hc3 : l3.length ≤ c3) (HT : TabOK w) (h : cohousinglaw21_usable.f k a0_0 a0_1 a0_2 a0_3 l1 a2 l3 = some (r1, r2)) :
    Calls Tryd.prog 17 #[.agg #[.int .i64 a0_0, .int .i64 a0_1, .int .i64 a0_2, .int .i64 a0_3], .slice A1 l1.length c1, .int .i64 a2, .slice A3 l3.length c3] w fun e w' => ∃ v0_ : Value, e = .returned (.tuple #[v0_, .bool r2]) ∧ Kd.R (Kd.int .i64) 3 w' w.heap.size (fun _ => True) v0_ r1 ∧ Below w.heap.size w w' := by
  have hu23 := Tryd.underlying23
  have hu25 := Tryd.underlying25
  have HTA := Aside0.mk HT
  clear HT
  have HR1 := Aside0.mk hr1
  have HC1 := Aside0.mk hc1
  clear hr1 hc1
  have HR3 := Aside0.mk hr3
  have HC3 := Aside0.mk hc3
  clear hr3 hc3
  have HB := Aside0.mk (Below.refl w.heap.size w)
  have H : (if (l1.length : Int) > 64 then (cohousinglaw21_usable.j0 k l1 a2 true a0_0 a0_1 a0_2 a0_3) else ((cohousingref21_Lots.f k l3 (l1.length : Int)).bind fun t291 => (cohousinglaw21_usable.j0 k l1 a2 (!t291) a0_0 a0_1 a0_2 a0_3))) = some (r1, r2) := h
  clear h
  have HC5 := Aside0.mk H
  clear H
  go_enter Tryd.func17, Tryd.ntmps17
  go_upto_region 1 with (first | ((with_reducible refine gate_dst (N := 4) rfl ?_); (try (refine gate_guard (by rfl) ?_; dsimp only)); refine qev_ 4 #[.int .i64 a0_0, .int .i64 a0_1, .int .i64 a0_2, .int .i64 a0_3] 23 ?_; intro gb290 hg w6 hbox hb; have BK290 := Aside0.mk (hbox); have GW290 := qga_ hg; have GE290 := qga_ hg; replace HB := qbs_ hb; clear hb hbox hg))
  (try simp only [Act.put, List.setIfInBounds_toArray, List.set_cons_zero, List.set_cons_succ])
  go_cut [25] (fun v25 wc => ∃ (kq : Nat) (x25_4 : Bool), v25 = .bool x25_4 ∧ Aside0 (cohousinglaw21_usable.j0 kq l1 a2 x25_4 a0_0 a0_1 a0_2 a0_3 = some (r1, r2)) ∧ Aside0 (kq ≤ k) ∧ Aside0 (wc.heap[gb290]? = some (.cells #[.int .i64 a0_0, .int .i64 a0_1, .int .i64 a0_2, .int .i64 a0_3] 23 (0, 0))) ∧ Aside0 (Below w.heap.size w wc))
  case first =>
    have H := HC5.out
    clear HC5
    by_cases c7 : (l1.length : Int) > 64
    · rw [if_pos c7] at H
      have c7b0 : decide (64 < (l1.length : Int)) = true := decide_eq_true c7
      have c7b1 : decide (64 < l1.length) = true := decide_eq_true (by omega)
      clear c7
      (first | rw [c7b0] | (simp only [i64_w, i32_w]; rw [c7b0]) | skip)
      have H' := Aside0.mk H
      clear H
      go_wp2
      go_meet
      case rel => exact ⟨_, (true), qs_, H', ⟨qo_⟩, ⟨qk_ BK290⟩, ⟨qb_⟩⟩
    · rw [if_neg c7] at H
      have c7b0 : decide (64 < (l1.length : Int)) = false := decide_eq_false c7
      have c7b1 : decide (64 < l1.length) = false := decide_eq_false (by omega)
      clear c7
      (first | rw [c7b0] | (simp only [i64_w, i32_w]; rw [c7b0]) | skip)
      replace H := Option.bind_eq_some_iff.mp H
      obtain ⟨t291, A80, H⟩ := H
      replace H : (cohousinglaw21_usable.j0 k l1 a2 (!t291) a0_0 a0_1 a0_2 a0_3) = some (r1, r2) := H
      have A8 := Aside0.mk A80
      clear A80
      have H' := Aside0.mk H
      clear H
      go_wp2_with (first | (go_at_call 19; (with_reducible refine (cohousingref21_Lots.calls k _ _ l3 (l1.length : Int) t291 _ ?side1 ?side2 A8.out).mono ?_); (case side1 => exact qc_ HR3); (case side2 => exact HC3.out); rintro e w' ⟨rfl, ⟨nd, rfl⟩⟩))
      go_meet
      case rel => exact ⟨_, (!t291), qs_, H', ⟨qo_⟩, ⟨qk_ BK290⟩, ⟨qb_⟩⟩
  case rest =>
    clear HC5
    try clear c1
    try clear p2
    try clear c3
    try clear c7
    try clear c7b0
    try clear c7b1
    obtain ⟨kq, x25_4, rfl, HA, HJ4, BK290, HB⟩ := hcut
    cases kq with
    | zero => exact absurd HA.out (by simp [cohousinglaw21_usable.j0])
    | succ kj4 =>
      have H := HA.out
      clear HA
      simp only [cohousinglaw21_usable.j0] at H
      by_cases c9 : x25_4 = true
      · subst c9
        have H1 : (some (([] : List Int), false)) = some (r1, r2) := by rw [if_pos rfl] at H; exact H
        clear H
        have H := H1
        clear H1
        simp only [Option.some.injEq, Prod.mk.injEq] at H
        obtain ⟨rfl, rfl⟩ := H
        go_wp2
        go_ret2
        exact ⟨_, qx_, by first | exact Kd.R_nil _ _ _ _ _ | exact Kd.N_nil _ _ _ _ _ | exact Kd.V_nil _ _ _ _ _ | exact Kd.Q_nil _ _ _ _ _ | exact Kd.S_nil _ _ _ _ _, qb_⟩
      · replace c9 := Bool.eq_false_iff.mpr c9
        subst c9
        have H1 : (cohousinglaw21_usable.l0 kj4 a2 ([] : List Int) l1 (l1.length : Int) 0 a0_0 a0_1 a0_2 a0_3 ([] : List (Int × Bool))) = some (r1, r2) := by rw [if_neg (show ¬ (false = true) by decide)] at H; exact H
        clear H
        have H := H1
        clear H1
        have H' := Aside0.mk H
        clear H
        go_wp2_with (first | ((with_reducible refine gate_dst (N := 26) rfl ?_); (try (refine gate_guard (by rfl) ?_; dsimp only)); refine map_event (Value.bool) ?hg (N := 26) ?hd (T := 41) ?ho ?_; (case hg => rfl); (case hd => rfl); (case ho => rfl); intro gb292 hg w10 hbox hb; have BK292 := Aside0.mk (hbox); have GW292 := qga_ hg; have GE292 := qga_ hg; replace HB := qbs_ hb; have NB290_292 := Aside0.mk ((by rw [hg]; exact Nat.ne_of_lt (blk_lt (qk_ BK290)) : gb290 ≠ gb292)); have NB292_290 := Aside0.mk ((by rw [hg]; exact Nat.ne_of_gt (blk_lt (qk_ BK290)) : gb292 ≠ gb290)); replace BK290 := qkb_ BK290 hb; clear hb hbox hg))
        go_loopg [10, 29] kj4 (fun kq v10 v29 w' => ∃ (x10_2 : List Int) (x29_2 : Int) (x293000_2 : List (Int × Bool)), v29 = .int .i64 x29_2 ∧ Aside0 (cohousinglaw21_usable.l0 kq a2 x10_2 l1 (l1.length : Int) x29_2 a0_0 a0_1 a0_2 a0_3 x293000_2 = some (r1, r2)) ∧ Aside0 (kq ≤ kj4) ∧ Aside0 (Kd.R (Kd.int .i64) 3 w' w.heap.size (fun _ => True) v10 x10_2) ∧ Aside0 (w'.heap[gb290]? = some (.cells #[.int .i64 a0_0, .int .i64 a0_1, .int .i64 a0_2, .int .i64 a0_3] 23 (0, 0))) ∧ Aside0 (w'.heap[gb292]? = some (mapObj (Value.bool) x293000_2)) ∧ Aside0 (Below w.heap.size w w'))
        case atStart => exact ⟨(([] : List Int)), (0), (([] : List (Int × Bool))), qs_, H', ⟨Nat.le_refl _⟩, ⟨by first | exact Kd.R_nil _ _ _ _ _ | exact Kd.N_nil _ _ _ _ _ | exact Kd.V_nil _ _ _ _ _ | exact Kd.Q_nil _ _ _ _ _ | exact Kd.S_nil _ _ _ _ _⟩, ⟨qk_ BK290⟩, ⟨qk_ BK292⟩, ⟨qb_⟩⟩
        case round =>
          clear H'
          try clear c1
          try clear p2
          try clear c3
          try clear c7
          try clear c7b0
          try clear c7b1
          try clear c9
          try clear p2
          obtain ⟨x10_2, x29_2, x293000_2, rfl, HA, HK2, HO_10, BK290, BK292, HB⟩ := hrel
          cases gk with
          | zero => exact absurd HA.out (by simp [cohousinglaw21_usable.l0])
          | succ k2 =>
            have H := HA.out
            clear HA
            simp only [cohousinglaw21_usable.l0] at H
            by_cases c11 : x29_2 < (l1.length : Int)
            · rw [if_pos c11] at H
              have c11b0 : decide (x29_2 < (l1.length : Int)) = true := decide_eq_true c11
              clear c11
              by_cases c12 : 0 ≤ x29_2
              · rw [if_pos c12] at H
                have c12b0 : decide (0 ≤ x29_2) = true := decide_eq_true c12
                clear c12
                by_cases c13 : x29_2 < (l1.length : Int)
                · rw [if_pos c13] at H
                  have c13b0 : decide (x29_2 < (l1.length : Int)) = true := decide_eq_true c13
                  clear c13
                  replace H := Option.bind_eq_some_iff.mp H
                  obtain ⟨⟨t296, t297⟩, A140, H⟩ := H
                  replace H : (if t297 = 0 then (if mgetB x293000_2 ((rd_T25 l1 x29_2).f0) = true then (some (([] : List Int), false)) else (if x10_2.length < 17592186044416 then (cohousinglaw21_usable.l0 k2 a2 (x10_2 ++ [t296]) l1 (l1.length : Int) (wrap64 (x29_2 + 1)) a0_0 a0_1 a0_2 a0_3 (mput x293000_2 ((rd_T25 l1 x29_2).f0) true)) else (none))) else (some (([] : List Int), false))) = some (r1, r2) := H
                  have A14 := Aside0.mk A140
                  clear A140
                  by_cases c15 : t297 = 0
                  · rw [if_pos c15] at H
                    have c15b0 : (t297 == 0) = true := beq_iff_eq.mpr c15
                    have c15b1 : (t297 != 0) = false := bne_eq_false_iff_eq.mpr c15
                    clear c15
                    by_cases c16 : mgetB x293000_2 ((rd_T25 l1 x29_2).f0) = true
                    · rw [if_pos c16] at H
                      have c16b0 : mgetB x293000_2 ((rd_T25 l1 x29_2).f0) = true := c16
                      clear c16
                      simp only [Option.some.injEq, Prod.mk.injEq] at H
                      obtain ⟨rfl, rfl⟩ := H
                      have p294 : 0 ≤ (x29_2 : Int) := of_decide_eq_true qa_
                      have q294 : x29_2 < (l1.length : Int) := of_decide_eq_true qa_
                      obtain ⟨ad294, e294, hx294_0, hx294_1, hx294_2, hx294_3, hx294_4⟩ := at_T25 HR1.out x29_2 p294 q294
                      cases e294
                      replace hx294_0 := qh_ HB hx294_0
                      replace hx294_1 := qh_ HB hx294_1
                      replace hx294_2 := qh_ HB hx294_2
                      replace hx294_3 := qh_ HB hx294_3
                      replace hx294_4 := qh_ HB hx294_4
                      replace p294 := eq_true p294
                      replace q294 := eq_true q294
                      go_wp2_with (first | ((with_reducible refine gate_dst (N := 13) rfl ?_); (try (refine gate_guard (by rfl) ?_; dsimp only)); refine qev_ 13 #[.int .i64 0, .int .i64 0, .int .i64 0, .int .i64 0, .int .i64 0] 25 ?_; intro gb295 hg w17 hbox hb; replace HO_10 := qrb_ HO_10 hb; have BK295 := Aside0.mk (hbox); have GW295 := qga_ hg; have GE295 := qga_ hg; replace HB := qbs_ hb; have NB290_295 := Aside0.mk ((by rw [hg]; exact Nat.ne_of_lt (blk_lt (qk_ BK290)) : gb290 ≠ gb295)); have NB295_290 := Aside0.mk ((by rw [hg]; exact Nat.ne_of_gt (blk_lt (qk_ BK290)) : gb295 ≠ gb290)); replace BK290 := qkb_ BK290 hb; have NB292_295 := Aside0.mk ((by rw [hg]; exact Nat.ne_of_lt (blk_lt (g := gb292) (o := mapObj (Value.bool) x293000_2) (qk_ BK292)) : gb292 ≠ gb295)); have NB295_292 := Aside0.mk ((by rw [hg]; exact Nat.ne_of_gt (blk_lt (g := gb292) (o := mapObj (Value.bool) x293000_2) (qk_ BK292)) : gb295 ≠ gb292)); replace BK292 := Aside0.mk (blk_below (g := gb292) (o := mapObj (Value.bool) x293000_2) (qk_ BK292) hb); clear hb hbox hg; have hnb18 := NB295_290.out; have hnc18 := NB290_295.out; have hnb19 := NB295_292.out; have hnc19 := NB292_295.out; obtain ⟨hcz20_0, hcz20_1, hcz20_2, hcz20_3, hcz20_4⟩ := qz5_ BK295; obtain ⟨hfz20_0, hfz20_1, hfz20_2, hfz20_3, hfz20_4⟩ := qf5_ BK295; have hnb21 := NB290_292.out; have hnc21 := NB292_290.out; obtain ⟨hcz22_0, hcz22_1, hcz22_2, hcz22_3⟩ := qz4_ BK290; obtain ⟨hfz22_0, hfz22_1, hfz22_2, hfz22_3⟩ := qf4_ BK290) | ((with_reducible refine gate_callee (f := 11) rfl ?_); refine goesL_ (some 37) rfl rfl Tryd.func11 (by kernel_rfl) rfl #[.agg #[.int .i64 a0_0, .int .i64 a0_1, .int .i64 a0_2, .int .i64 a0_3], .agg #[.int .i64 ((rd_T25 l1 x29_2).f0), .int .i64 ((rd_T25 l1 x29_2).f1), .int .i64 ((rd_T25 l1 x29_2).f2), .int .i64 ((rd_T25 l1 x29_2).f3), .int .i64 ((rd_T25 l1 x29_2).f4)], .int .i64 a2] rfl ql_ ?_; (with_reducible refine (points_Count.calls k2 a0_0 a0_1 a0_2 a0_3 ((rd_T25 l1 x29_2).f0) ((rd_T25 l1 x29_2).f1) ((rd_T25 l1 x29_2).f2) ((rd_T25 l1 x29_2).f3) ((rd_T25 l1 x29_2).f4) a2 t296 t297 _ ?side1 A14.out).mono ?_); (case side1 => exact TabOK.below HTA.out qb_); rintro e w23 ⟨rfl, hb⟩; refine ⟨_, rfl, ?_⟩; replace HO_10 := Aside0.mk (Kd.R_below (by (with_reducible repeat (first | apply Kd.R_alloc | apply Kd.R_drewN | apply Kd.R_drew)); exact (Kd.R_mono (Kd.R_far (p := ⟨gb295, 4, none⟩) (Kd.R_far (p := ⟨gb295, 3, none⟩) (Kd.R_far (p := ⟨gb295, 2, none⟩) (Kd.R_far (p := ⟨gb295, 1, none⟩) (Kd.R_far (p := ⟨gb295, 0, none⟩) (Kd.R_types HO_10.out BK295.out (by decide)) (fun _ hk => hk.2) (.int .i64 ((rd_T25 l1 x29_2).f0))) (fun _ hk => hk.2) (.int .i64 ((rd_T25 l1 x29_2).f1))) (fun _ hk => hk.2) (.int .i64 ((rd_T25 l1 x29_2).f2))) (fun _ hk => hk.2) (.int .i64 ((rd_T25 l1 x29_2).f3))) (fun _ hk => hk.2) (.int .i64 ((rd_T25 l1 x29_2).f4))) (fun _ h_ => h_.1))) hb); replace BK290 := Aside0.mk (blk_below (g := gb290) (o := .cells #[.int .i64 a0_0, .int .i64 a0_1, .int .i64 a0_2, .int .i64 a0_3] 23 (0, 0)) (by refine qd_ ?_; refine blk_far ?_ NB290_295.out _; refine qd_ ?_; refine blk_far ?_ NB290_295.out _; refine qd_ ?_; refine blk_far ?_ NB290_295.out _; refine qd_ ?_; refine blk_far ?_ NB290_295.out _; refine qd_ ?_; refine blk_far ?_ NB290_295.out _; refine qd_ ?_; exact BK290.out) hb); replace BK292 := Aside0.mk (blk_below (g := gb292) (o := mapObj (Value.bool) x293000_2) (by refine qd_ ?_; refine blk_farO ?_ NB292_295.out _; refine qd_ ?_; refine blk_farO ?_ NB292_295.out _; refine qd_ ?_; refine blk_farO ?_ NB292_295.out _; refine qd_ ?_; refine blk_farO ?_ NB292_295.out _; refine qd_ ?_; refine blk_farO ?_ NB292_295.out _; refine qd_ ?_; exact BK292.out) hb); replace BK295 := Aside0.mk (blk_below (g := gb295) (o := .cells #[.int .i64 ((rd_T25 l1 x29_2).f0), .int .i64 ((rd_T25 l1 x29_2).f1), .int .i64 ((rd_T25 l1 x29_2).f2), .int .i64 ((rd_T25 l1 x29_2).f3), .int .i64 ((rd_T25 l1 x29_2).f4)] 25 (0, 0)) (by refine qd_ ?_; refine blk_put (cs := #[.int .i64 ((rd_T25 l1 x29_2).f0), .int .i64 ((rd_T25 l1 x29_2).f1), .int .i64 ((rd_T25 l1 x29_2).f2), .int .i64 ((rd_T25 l1 x29_2).f3), .int .i64 0]) ?_ 4 _ rfl; refine qd_ ?_; refine blk_put (cs := #[.int .i64 ((rd_T25 l1 x29_2).f0), .int .i64 ((rd_T25 l1 x29_2).f1), .int .i64 ((rd_T25 l1 x29_2).f2), .int .i64 0, .int .i64 0]) ?_ 3 _ rfl; refine qd_ ?_; refine blk_put (cs := #[.int .i64 ((rd_T25 l1 x29_2).f0), .int .i64 ((rd_T25 l1 x29_2).f1), .int .i64 0, .int .i64 0, .int .i64 0]) ?_ 2 _ rfl; refine qd_ ?_; refine blk_put (cs := #[.int .i64 ((rd_T25 l1 x29_2).f0), .int .i64 0, .int .i64 0, .int .i64 0, .int .i64 0]) ?_ 1 _ rfl; refine qd_ ?_; refine blk_put (cs := #[.int .i64 0, .int .i64 0, .int .i64 0, .int .i64 0, .int .i64 0]) ?_ 0 _ rfl; refine qd_ ?_; exact BK295.out) hb); replace HB := qbs_ hb; (try clear hb); (try clear hb2); (try clear hk); (try clear hi); obtain ⟨hcz24_0, hcz24_1, hcz24_2, hcz24_3, hcz24_4⟩ := qz5_ BK295; obtain ⟨hfz24_0, hfz24_1, hfz24_2, hfz24_3, hfz24_4⟩ := qf5_ BK295) | ((with_reducible refine gate_dst (N := 46) rfl ?_); (try (refine gate_guard (by rfl) ?_; dsimp only)); refine mlookB_event rfl (N := 46) rfl rfl (M := x293000_2) (k := (rd_T25 l1 x29_2).f0) Tryd.underlying41 Tryd.underlying3 (zero_bool _) (qk_ BK292) rfl ?hx ?_; (case hx => first | rfl | (go_simp; done) | (go_simp; rfl))))
                      go_ret2
                      exact ⟨_, qx_, by first | exact Kd.R_nil _ _ _ _ _ | exact Kd.N_nil _ _ _ _ _ | exact Kd.V_nil _ _ _ _ _ | exact Kd.Q_nil _ _ _ _ _ | exact Kd.S_nil _ _ _ _ _, qb_⟩
                    · rw [if_neg c16] at H
                      have c16b0 : mgetB x293000_2 ((rd_T25 l1 x29_2).f0) = false := by simpa using c16
                      clear c16
                      by_cases c25 : x10_2.length < 17592186044416
                      · rw [if_pos c25] at H
                        have LMc25 := Aside0.mk c25
                        clear c25
                        obtain ⟨y298, hy298⟩ : ∃ y_ : List Int, y_ = (x10_2 ++ [t296]) := ⟨_, rfl⟩
                        replace H : (cohousinglaw21_usable.l0 k2 a2 y298 l1 (l1.length : Int) (wrap64 (x29_2 + 1)) a0_0 a0_1 a0_2 a0_3 (mput x293000_2 ((rd_T25 l1 x29_2).f0) true)) = some (r1, r2) := by first | (rw [hy298]; with_reducible exact H) | (have H2_ := (Option.bind_some _ _).symm.trans H; rw [hy298]; with_reducible exact H2_) | (have H2_ := (Option.bind_some _ _).symm.trans H; with_reducible exact H2_) | with_reducible exact H | (rw [hy298]; exact H) | exact H
                        have Ny298 := Aside0.mk hy298
                        clear hy298
                        have H' := Aside0.mk H
                        clear H
                        have p294 : 0 ≤ (x29_2 : Int) := of_decide_eq_true qa_
                        have q294 : x29_2 < (l1.length : Int) := of_decide_eq_true qa_
                        obtain ⟨ad294, e294, hx294_0, hx294_1, hx294_2, hx294_3, hx294_4⟩ := at_T25 HR1.out x29_2 p294 q294
                        cases e294
                        replace hx294_0 := qh_ HB hx294_0
                        replace hx294_1 := qh_ HB hx294_1
                        replace hx294_2 := qh_ HB hx294_2
                        replace hx294_3 := qh_ HB hx294_3
                        replace hx294_4 := qh_ HB hx294_4
                        replace p294 := eq_true p294
                        replace q294 := eq_true q294
                        go_wp2_with (first | ((with_reducible refine gate_dst (N := 13) rfl ?_); (try (refine gate_guard (by rfl) ?_; dsimp only)); refine qev_ 13 #[.int .i64 0, .int .i64 0, .int .i64 0, .int .i64 0, .int .i64 0] 25 ?_; intro gb295 hg w26 hbox hb; replace HO_10 := qrb_ HO_10 hb; have BK295 := Aside0.mk (hbox); have GW295 := qga_ hg; have GE295 := qga_ hg; replace HB := qbs_ hb; have NB290_295 := Aside0.mk ((by rw [hg]; exact Nat.ne_of_lt (blk_lt (qk_ BK290)) : gb290 ≠ gb295)); have NB295_290 := Aside0.mk ((by rw [hg]; exact Nat.ne_of_gt (blk_lt (qk_ BK290)) : gb295 ≠ gb290)); replace BK290 := qkb_ BK290 hb; have NB292_295 := Aside0.mk ((by rw [hg]; exact Nat.ne_of_lt (blk_lt (g := gb292) (o := mapObj (Value.bool) x293000_2) (qk_ BK292)) : gb292 ≠ gb295)); have NB295_292 := Aside0.mk ((by rw [hg]; exact Nat.ne_of_gt (blk_lt (g := gb292) (o := mapObj (Value.bool) x293000_2) (qk_ BK292)) : gb295 ≠ gb292)); replace BK292 := Aside0.mk (blk_below (g := gb292) (o := mapObj (Value.bool) x293000_2) (qk_ BK292) hb); clear hb hbox hg; have hnb27 := NB295_290.out; have hnc27 := NB290_295.out; have hnb28 := NB295_292.out; have hnc28 := NB292_295.out; obtain ⟨hcz29_0, hcz29_1, hcz29_2, hcz29_3, hcz29_4⟩ := qz5_ BK295; obtain ⟨hfz29_0, hfz29_1, hfz29_2, hfz29_3, hfz29_4⟩ := qf5_ BK295; have hnb30 := NB290_292.out; have hnc30 := NB292_290.out; obtain ⟨hcz31_0, hcz31_1, hcz31_2, hcz31_3⟩ := qz4_ BK290; obtain ⟨hfz31_0, hfz31_1, hfz31_2, hfz31_3⟩ := qf4_ BK290) | ((with_reducible refine gate_callee (f := 11) rfl ?_); refine goesL_ (some 37) rfl rfl Tryd.func11 (by kernel_rfl) rfl #[.agg #[.int .i64 a0_0, .int .i64 a0_1, .int .i64 a0_2, .int .i64 a0_3], .agg #[.int .i64 ((rd_T25 l1 x29_2).f0), .int .i64 ((rd_T25 l1 x29_2).f1), .int .i64 ((rd_T25 l1 x29_2).f2), .int .i64 ((rd_T25 l1 x29_2).f3), .int .i64 ((rd_T25 l1 x29_2).f4)], .int .i64 a2] rfl ql_ ?_; (with_reducible refine (points_Count.calls k2 a0_0 a0_1 a0_2 a0_3 ((rd_T25 l1 x29_2).f0) ((rd_T25 l1 x29_2).f1) ((rd_T25 l1 x29_2).f2) ((rd_T25 l1 x29_2).f3) ((rd_T25 l1 x29_2).f4) a2 t296 t297 _ ?side1 A14.out).mono ?_); (case side1 => exact TabOK.below HTA.out qb_); rintro e w32 ⟨rfl, hb⟩; refine ⟨_, rfl, ?_⟩; replace HO_10 := Aside0.mk (Kd.R_below (by (with_reducible repeat (first | apply Kd.R_alloc | apply Kd.R_drewN | apply Kd.R_drew)); exact (Kd.R_mono (Kd.R_far (p := ⟨gb295, 4, none⟩) (Kd.R_far (p := ⟨gb295, 3, none⟩) (Kd.R_far (p := ⟨gb295, 2, none⟩) (Kd.R_far (p := ⟨gb295, 1, none⟩) (Kd.R_far (p := ⟨gb295, 0, none⟩) (Kd.R_types HO_10.out BK295.out (by decide)) (fun _ hk => hk.2) (.int .i64 ((rd_T25 l1 x29_2).f0))) (fun _ hk => hk.2) (.int .i64 ((rd_T25 l1 x29_2).f1))) (fun _ hk => hk.2) (.int .i64 ((rd_T25 l1 x29_2).f2))) (fun _ hk => hk.2) (.int .i64 ((rd_T25 l1 x29_2).f3))) (fun _ hk => hk.2) (.int .i64 ((rd_T25 l1 x29_2).f4))) (fun _ h_ => h_.1))) hb); replace BK290 := Aside0.mk (blk_below (g := gb290) (o := .cells #[.int .i64 a0_0, .int .i64 a0_1, .int .i64 a0_2, .int .i64 a0_3] 23 (0, 0)) (by refine qd_ ?_; refine blk_far ?_ NB290_295.out _; refine qd_ ?_; refine blk_far ?_ NB290_295.out _; refine qd_ ?_; refine blk_far ?_ NB290_295.out _; refine qd_ ?_; refine blk_far ?_ NB290_295.out _; refine qd_ ?_; refine blk_far ?_ NB290_295.out _; refine qd_ ?_; exact BK290.out) hb); replace BK292 := Aside0.mk (blk_below (g := gb292) (o := mapObj (Value.bool) x293000_2) (by refine qd_ ?_; refine blk_farO ?_ NB292_295.out _; refine qd_ ?_; refine blk_farO ?_ NB292_295.out _; refine qd_ ?_; refine blk_farO ?_ NB292_295.out _; refine qd_ ?_; refine blk_farO ?_ NB292_295.out _; refine qd_ ?_; refine blk_farO ?_ NB292_295.out _; refine qd_ ?_; exact BK292.out) hb); replace BK295 := Aside0.mk (blk_below (g := gb295) (o := .cells #[.int .i64 ((rd_T25 l1 x29_2).f0), .int .i64 ((rd_T25 l1 x29_2).f1), .int .i64 ((rd_T25 l1 x29_2).f2), .int .i64 ((rd_T25 l1 x29_2).f3), .int .i64 ((rd_T25 l1 x29_2).f4)] 25 (0, 0)) (by refine qd_ ?_; refine blk_put (cs := #[.int .i64 ((rd_T25 l1 x29_2).f0), .int .i64 ((rd_T25 l1 x29_2).f1), .int .i64 ((rd_T25 l1 x29_2).f2), .int .i64 ((rd_T25 l1 x29_2).f3), .int .i64 0]) ?_ 4 _ rfl; refine qd_ ?_; refine blk_put (cs := #[.int .i64 ((rd_T25 l1 x29_2).f0), .int .i64 ((rd_T25 l1 x29_2).f1), .int .i64 ((rd_T25 l1 x29_2).f2), .int .i64 0, .int .i64 0]) ?_ 3 _ rfl; refine qd_ ?_; refine blk_put (cs := #[.int .i64 ((rd_T25 l1 x29_2).f0), .int .i64 ((rd_T25 l1 x29_2).f1), .int .i64 0, .int .i64 0, .int .i64 0]) ?_ 2 _ rfl; refine qd_ ?_; refine blk_put (cs := #[.int .i64 ((rd_T25 l1 x29_2).f0), .int .i64 0, .int .i64 0, .int .i64 0, .int .i64 0]) ?_ 1 _ rfl; refine qd_ ?_; refine blk_put (cs := #[.int .i64 0, .int .i64 0, .int .i64 0, .int .i64 0, .int .i64 0]) ?_ 0 _ rfl; refine qd_ ?_; exact BK295.out) hb); replace HB := qbs_ hb; (try clear hb); (try clear hb2); (try clear hk); (try clear hi); obtain ⟨hcz33_0, hcz33_1, hcz33_2, hcz33_3, hcz33_4⟩ := qz5_ BK295; obtain ⟨hfz33_0, hfz33_1, hfz33_2, hfz33_3, hfz33_4⟩ := qf5_ BK295) | ((with_reducible refine gate_dst (N := 46) rfl ?_); (try (refine gate_guard (by rfl) ?_; dsimp only)); refine mlookB_event rfl (N := 46) rfl rfl (M := x293000_2) (k := (rd_T25 l1 x29_2).f0) Tryd.underlying41 Tryd.underlying3 (zero_bool _) (qk_ BK292) rfl ?hx ?_; (case hx => first | rfl | (go_simp; done) | (go_simp; rfl))) | ((with_reducible refine gate_mput (t := 41) (p := 48) rfl ?_); refine mput_event rfl rfl (M := x293000_2) (k := (rd_T25 l1 x29_2).f0) (y := true) Tryd.underlying41 Tryd.underlying3 (qk_ BK292) rfl ?hx ?hv ?_; (case hx => first | rfl | (go_simp; done) | (go_simp; rfl)); (case hv => first | rfl | (go_simp; done) | (go_simp; rfl)); intro w34 hM hg; replace HO_10 := Aside0.mk (R_mapped (qr_ HO_10) (qk_ BK292) hg); replace BK290 := Aside0.mk (blk_grown (g := gb290) (o := .cells #[.int .i64 a0_0, .int .i64 a0_1, .int .i64 a0_2, .int .i64 a0_3] 23 (0, 0)) (qk_ BK290) hg (fun h_ => NB290_292.out (Option.some.inj h_))); replace BK292 := Aside0.mk (hM); replace BK295 := Aside0.mk (blk_grown (g := gb295) (o := .cells #[.int .i64 ((rd_T25 l1 x29_2).f0), .int .i64 ((rd_T25 l1 x29_2).f1), .int .i64 ((rd_T25 l1 x29_2).f2), .int .i64 ((rd_T25 l1 x29_2).f3), .int .i64 ((rd_T25 l1 x29_2).f4)] 25 (0, 0)) (qk_ BK295) hg (fun h_ => NB295_292.out (Option.some.inj h_))); replace HB := Aside0.mk (below_mapped qb_ hg GE292.out); clear hg hM) | ((with_reducible refine gate_builtin (b := .append) (xs := #[.tmp 51, .tmp 53]) rfl ?_); (try (refine gate_guard (by rfl) ?_; dsimp only)); at_builtin; refine Kd.R_append (Kd.int .i64) (w0 := w) w.heap.size rfl (.tmp 51) (.tmp 53) 27 3 (.int .i64 0) 8 rfl Tryd.underlying27 info3 rfl (by decide) (by omega) u10 x10_2 t296 [.int .i64 t296] (fun _ => True) (fun _ => False) rfl rfl ?aP (fun _ hk => hk.elim) ?aF ?aO ?aB ?aS ?aL ?_; (case aP => exact rfl); (case aB => exact qb_); (case aF => exact (fun _ _ => trivial)); (case aO => exact (qr_ HO_10)); (case aS => exact (below_size qb_)); (case aL => have := LMc25.out; omega); intro v299 w35 ho hb hg hat; rw [← Ny298.out] at ho; replace BK290 := Aside0.mk (blk_grown (g := gb290) (o := .cells #[.int .i64 a0_0, .int .i64 a0_1, .int .i64 a0_2, .int .i64 a0_3] 23 (0, 0)) (qk_ BK290) hg (Kd.R_ne HO_10.out BK290.out (by decide))); replace BK292 := Aside0.mk (blk_grown (g := gb292) (o := mapObj (Value.bool) (mput x293000_2 ((rd_T25 l1 x29_2).f0) true)) (qk_ BK292) hg (R_nem HO_10.out BK292.out)); replace BK295 := Aside0.mk (blk_grown (g := gb295) (o := .cells #[.int .i64 ((rd_T25 l1 x29_2).f0), .int .i64 ((rd_T25 l1 x29_2).f1), .int .i64 ((rd_T25 l1 x29_2).f2), .int .i64 ((rd_T25 l1 x29_2).f3), .int .i64 ((rd_T25 l1 x29_2).f4)] 25 (0, 0)) (qk_ BK295) hg (Kd.R_ne HO_10.out BK295.out (by decide))); replace HB := Aside0.mk (hb); have HO300 := Aside0.mk (ho); clear HO_10 ho hb hg hat))
                        go_roundg k2
                        case measure => have := HJ4.out; have := HK2.out; omega
                        case rel => exact ⟨(y298), (wrap64 (x29_2 + 1)), (mput x293000_2 ((rd_T25 l1 x29_2).f0) true), qs_, H', ⟨by have := HJ4.out; have := HK2.out; omega⟩, ⟨by (with_reducible repeat (first | apply Kd.R_alloc | apply Kd.R_drewN | apply Kd.R_drew)); exact HO300.out⟩, ⟨qk_ BK290⟩, ⟨qk_ BK292⟩, ⟨qb_⟩⟩
                      · rw [if_neg c25] at H
                        exact absurd H (by simp)
                  · rw [if_neg c15] at H
                    have c15b0 : (t297 == 0) = false := beq_eq_false_iff_ne.mpr c15
                    have c15b1 : (t297 != 0) = true := bne_iff_ne.mpr c15
                    simp only [Option.some.injEq, Prod.mk.injEq] at H
                    obtain ⟨rfl, rfl⟩ := H
                    have p294 : 0 ≤ (x29_2 : Int) := of_decide_eq_true qa_
                    have q294 : x29_2 < (l1.length : Int) := of_decide_eq_true qa_
                    obtain ⟨ad294, e294, hx294_0, hx294_1, hx294_2, hx294_3, hx294_4⟩ := at_T25 HR1.out x29_2 p294 q294
                    cases e294
                    replace hx294_0 := qh_ HB hx294_0
                    replace hx294_1 := qh_ HB hx294_1
                    replace hx294_2 := qh_ HB hx294_2
                    replace hx294_3 := qh_ HB hx294_3
                    replace hx294_4 := qh_ HB hx294_4
                    replace p294 := eq_true p294
                    replace q294 := eq_true q294
                    go_wp2_with (first | ((with_reducible refine gate_dst (N := 13) rfl ?_); (try (refine gate_guard (by rfl) ?_; dsimp only)); refine qev_ 13 #[.int .i64 0, .int .i64 0, .int .i64 0, .int .i64 0, .int .i64 0] 25 ?_; intro gb295 hg w36 hbox hb; replace HO_10 := qrb_ HO_10 hb; have BK295 := Aside0.mk (hbox); have GW295 := qga_ hg; have GE295 := qga_ hg; replace HB := qbs_ hb; have NB290_295 := Aside0.mk ((by rw [hg]; exact Nat.ne_of_lt (blk_lt (qk_ BK290)) : gb290 ≠ gb295)); have NB295_290 := Aside0.mk ((by rw [hg]; exact Nat.ne_of_gt (blk_lt (qk_ BK290)) : gb295 ≠ gb290)); replace BK290 := qkb_ BK290 hb; have NB292_295 := Aside0.mk ((by rw [hg]; exact Nat.ne_of_lt (blk_lt (g := gb292) (o := mapObj (Value.bool) x293000_2) (qk_ BK292)) : gb292 ≠ gb295)); have NB295_292 := Aside0.mk ((by rw [hg]; exact Nat.ne_of_gt (blk_lt (g := gb292) (o := mapObj (Value.bool) x293000_2) (qk_ BK292)) : gb295 ≠ gb292)); replace BK292 := Aside0.mk (blk_below (g := gb292) (o := mapObj (Value.bool) x293000_2) (qk_ BK292) hb); clear hb hbox hg; have hnb37 := NB295_290.out; have hnc37 := NB290_295.out; have hnb38 := NB295_292.out; have hnc38 := NB292_295.out; obtain ⟨hcz39_0, hcz39_1, hcz39_2, hcz39_3, hcz39_4⟩ := qz5_ BK295; obtain ⟨hfz39_0, hfz39_1, hfz39_2, hfz39_3, hfz39_4⟩ := qf5_ BK295; have hnb40 := NB290_292.out; have hnc40 := NB292_290.out; obtain ⟨hcz41_0, hcz41_1, hcz41_2, hcz41_3⟩ := qz4_ BK290; obtain ⟨hfz41_0, hfz41_1, hfz41_2, hfz41_3⟩ := qf4_ BK290) | ((with_reducible refine gate_callee (f := 11) rfl ?_); refine goesL_ (some 37) rfl rfl Tryd.func11 (by kernel_rfl) rfl #[.agg #[.int .i64 a0_0, .int .i64 a0_1, .int .i64 a0_2, .int .i64 a0_3], .agg #[.int .i64 ((rd_T25 l1 x29_2).f0), .int .i64 ((rd_T25 l1 x29_2).f1), .int .i64 ((rd_T25 l1 x29_2).f2), .int .i64 ((rd_T25 l1 x29_2).f3), .int .i64 ((rd_T25 l1 x29_2).f4)], .int .i64 a2] rfl ql_ ?_; (with_reducible refine (points_Count.calls k2 a0_0 a0_1 a0_2 a0_3 ((rd_T25 l1 x29_2).f0) ((rd_T25 l1 x29_2).f1) ((rd_T25 l1 x29_2).f2) ((rd_T25 l1 x29_2).f3) ((rd_T25 l1 x29_2).f4) a2 t296 t297 _ ?side1 A14.out).mono ?_); (case side1 => exact TabOK.below HTA.out qb_); rintro e w42 ⟨rfl, hb⟩; refine ⟨_, rfl, ?_⟩; replace HO_10 := Aside0.mk (Kd.R_below (by (with_reducible repeat (first | apply Kd.R_alloc | apply Kd.R_drewN | apply Kd.R_drew)); exact (Kd.R_mono (Kd.R_far (p := ⟨gb295, 4, none⟩) (Kd.R_far (p := ⟨gb295, 3, none⟩) (Kd.R_far (p := ⟨gb295, 2, none⟩) (Kd.R_far (p := ⟨gb295, 1, none⟩) (Kd.R_far (p := ⟨gb295, 0, none⟩) (Kd.R_types HO_10.out BK295.out (by decide)) (fun _ hk => hk.2) (.int .i64 ((rd_T25 l1 x29_2).f0))) (fun _ hk => hk.2) (.int .i64 ((rd_T25 l1 x29_2).f1))) (fun _ hk => hk.2) (.int .i64 ((rd_T25 l1 x29_2).f2))) (fun _ hk => hk.2) (.int .i64 ((rd_T25 l1 x29_2).f3))) (fun _ hk => hk.2) (.int .i64 ((rd_T25 l1 x29_2).f4))) (fun _ h_ => h_.1))) hb); replace BK290 := Aside0.mk (blk_below (g := gb290) (o := .cells #[.int .i64 a0_0, .int .i64 a0_1, .int .i64 a0_2, .int .i64 a0_3] 23 (0, 0)) (by refine qd_ ?_; refine blk_far ?_ NB290_295.out _; refine qd_ ?_; refine blk_far ?_ NB290_295.out _; refine qd_ ?_; refine blk_far ?_ NB290_295.out _; refine qd_ ?_; refine blk_far ?_ NB290_295.out _; refine qd_ ?_; refine blk_far ?_ NB290_295.out _; refine qd_ ?_; exact BK290.out) hb); replace BK292 := Aside0.mk (blk_below (g := gb292) (o := mapObj (Value.bool) x293000_2) (by refine qd_ ?_; refine blk_farO ?_ NB292_295.out _; refine qd_ ?_; refine blk_farO ?_ NB292_295.out _; refine qd_ ?_; refine blk_farO ?_ NB292_295.out _; refine qd_ ?_; refine blk_farO ?_ NB292_295.out _; refine qd_ ?_; refine blk_farO ?_ NB292_295.out _; refine qd_ ?_; exact BK292.out) hb); replace BK295 := Aside0.mk (blk_below (g := gb295) (o := .cells #[.int .i64 ((rd_T25 l1 x29_2).f0), .int .i64 ((rd_T25 l1 x29_2).f1), .int .i64 ((rd_T25 l1 x29_2).f2), .int .i64 ((rd_T25 l1 x29_2).f3), .int .i64 ((rd_T25 l1 x29_2).f4)] 25 (0, 0)) (by refine qd_ ?_; refine blk_put (cs := #[.int .i64 ((rd_T25 l1 x29_2).f0), .int .i64 ((rd_T25 l1 x29_2).f1), .int .i64 ((rd_T25 l1 x29_2).f2), .int .i64 ((rd_T25 l1 x29_2).f3), .int .i64 0]) ?_ 4 _ rfl; refine qd_ ?_; refine blk_put (cs := #[.int .i64 ((rd_T25 l1 x29_2).f0), .int .i64 ((rd_T25 l1 x29_2).f1), .int .i64 ((rd_T25 l1 x29_2).f2), .int .i64 0, .int .i64 0]) ?_ 3 _ rfl; refine qd_ ?_; refine blk_put (cs := #[.int .i64 ((rd_T25 l1 x29_2).f0), .int .i64 ((rd_T25 l1 x29_2).f1), .int .i64 0, .int .i64 0, .int .i64 0]) ?_ 2 _ rfl; refine qd_ ?_; refine blk_put (cs := #[.int .i64 ((rd_T25 l1 x29_2).f0), .int .i64 0, .int .i64 0, .int .i64 0, .int .i64 0]) ?_ 1 _ rfl; refine qd_ ?_; refine blk_put (cs := #[.int .i64 0, .int .i64 0, .int .i64 0, .int .i64 0, .int .i64 0]) ?_ 0 _ rfl; refine qd_ ?_; exact BK295.out) hb); replace HB := qbs_ hb; (try clear hb); (try clear hb2); (try clear hk); (try clear hi)))
                    go_ret2
                    exact ⟨_, qx_, by first | exact Kd.R_nil _ _ _ _ _ | exact Kd.N_nil _ _ _ _ _ | exact Kd.V_nil _ _ _ _ _ | exact Kd.Q_nil _ _ _ _ _ | exact Kd.S_nil _ _ _ _ _, qb_⟩
                · rw [if_neg c13] at H
                  exact absurd H (by simp)
              · rw [if_neg c12] at H
                exact absurd H (by simp)
            · rw [if_neg c11] at H
              have c11b0 : decide (x29_2 < (l1.length : Int)) = false := decide_eq_false c11
              clear c11
              replace H := Option.bind_eq_some_iff.mp H
              obtain ⟨t293, A430, H⟩ := H
              replace H : (some (x10_2, t293)) = some (r1, r2) := H
              have A43 := Aside0.mk A430
              clear A430
              simp only [Option.some.injEq, Prod.mk.injEq] at H
              obtain ⟨rfl, rfl⟩ := H
              have hnb44 := NB290_292.out
              have hnc44 := NB292_290.out
              obtain ⟨hcz45_0, hcz45_1, hcz45_2, hcz45_3⟩ := qz4_ BK290; obtain ⟨hfz45_0, hfz45_1, hfz45_2, hfz45_3⟩ := qf4_ BK290
              go_wp2_with (first | ((with_reducible refine gate_callee (f := 25) rfl ?_); refine goesL_ (some 58) rfl rfl Tryd.func25 (by kernel_rfl) rfl #[.agg #[.int .i64 a0_0, .int .i64 a0_1, .int .i64 a0_2, .int .i64 a0_3]] rfl ql_ ?_; (with_reducible refine (cohousingref21_Weights.calls a0_0 a0_1 a0_2 a0_3 t293 _ A43.out).mono ?_); rintro e w46 ⟨rfl, hb⟩; refine ⟨_, rfl, ?_⟩; replace HO_10 := qrb_ HO_10 hb; replace BK290 := qkb_ BK290 hb; replace BK292 := Aside0.mk (blk_below (g := gb292) (o := mapObj (Value.bool) x293000_2) (qk_ BK292) hb); replace HB := qbs_ hb; (try clear hb); (try clear hb2); (try clear hk); (try clear hi)))
              go_ret2
              exact ⟨_, qx_, by (with_reducible repeat (first | apply Kd.R_alloc | apply Kd.R_drewN | apply Kd.R_drew)); exact HO_10.out, qb_⟩

/-! ### cohousinglaw21_at: function 18 -/
def cohousinglaw21_at.l0 : Nat → Int → List Int → Int → Int → Option (Int)
  | 0, _, _, _, _ => none
  | k + 1, x1, x7, x8, x9 => if x9 < x8 then (if 0 ≤ x9 then (if x9 < (x7.length : Int) then (if (rd x7 x9) = x1 then (some x9) else (cohousinglaw21_at.l0 k x1 x7 x8 (wrap64 (x9 + 1)))) else (none)) else (none)) else (some (-1))
def cohousinglaw21_at.f (k : Nat) (l0 : List Int) (a1 : Int) : Option (Int) := cohousinglaw21_at.l0 k a1 l0 (l0.length : Int) 0
theorem cohousinglaw21_at.mono_l : ∀ k, (∀ y0 y1 y2 y3, LeO (cohousinglaw21_at.l0 k y0 y1 y2 y3) (cohousinglaw21_at.l0 (k + 1) y0 y1 y2 y3))
  | 0 => fun _ _ _ _ r h => by simp [cohousinglaw21_at.l0] at h
  | k + 1 => by
    have ih0 := cohousinglaw21_at.mono_l k
    · intro y0 y1 y2 y3
      unfold cohousinglaw21_at.l0
      with_reducible (repeat' first | apply ih0 | apply LeO.refl | apply LeO.none | apply LeO.ite | refine LeO.bind ?_ (fun _ => ?_))
theorem cohousinglaw21_at.mono : ∀ a0 a1 k, LeO (cohousinglaw21_at.f k a0 a1) (cohousinglaw21_at.f (k + 1) a0 a1) := by
  intro a0 a1 k
  have ih0 := cohousinglaw21_at.mono_l k
  unfold cohousinglaw21_at.f
  with_reducible (repeat' first | apply ih0 | apply LeO.refl | apply LeO.none | apply LeO.ite | refine LeO.bind ?_ (fun _ => ?_))
set_option maxHeartbeats 8000000 in
set_option maxRecDepth 100000 in
theorem cohousinglaw21_at.calls (k : Nat) (A0 : Option Addr) (c0 : Nat) (l0 : List Int) (a1 r : Int) (w : World) (hr0 : Kd.C (Kd.int .i64) w A0 l0.length l0) (hc0 : l0.length ≤ c0) (h : cohousinglaw21_at.f k l0 a1 = some r) :
    Calls Tryd.prog 18 #[.slice A0 l0.length c0, .int .i64 a1] w fun e w' => e = .returned (.int .i64 r) ∧ Drawn0 w w' := by
  have HR0 := Aside0.mk hr0
  have HC0 := Aside0.mk hc0
  clear hr0 hc0
  have H : (cohousinglaw21_at.l0 k a1 l0 (l0.length : Int) 0) = some r := h
  clear h
  have H' := Aside0.mk H
  clear H
  go_enter Tryd.func18, Tryd.ntmps18
  go_wp2
  go_loopg [9] k (fun kq v9 w' => ∃ (x9_1 : Int), v9 = .int .i64 x9_1 ∧ Aside0 (cohousinglaw21_at.l0 kq a1 l0 (l0.length : Int) x9_1 = some r) ∧ Aside0 (kq ≤ k) ∧ Drawn0 w w')
  case atStart => exact ⟨(0), qs_, H', ⟨Nat.le_refl _⟩, qy_⟩
  case round =>
    clear H'
    try clear c1
    try clear p2
    obtain ⟨x9_1, rfl, HA, HK1, ⟨m1, rfl⟩⟩ := hrel
    cases gk with
    | zero => exact absurd HA.out (by simp [cohousinglaw21_at.l0])
    | succ k1 =>
      have H := HA.out
      clear HA
      simp only [cohousinglaw21_at.l0] at H
      by_cases c3 : x9_1 < (l0.length : Int)
      · rw [if_pos c3] at H
        have c3b0 : decide (x9_1 < (l0.length : Int)) = true := decide_eq_true c3
        clear c3
        by_cases c4 : 0 ≤ x9_1
        · rw [if_pos c4] at H
          have c4b0 : decide (0 ≤ x9_1) = true := decide_eq_true c4
          clear c4
          by_cases c5 : x9_1 < (l0.length : Int)
          · rw [if_pos c5] at H
            have c5b0 : decide (x9_1 < (l0.length : Int)) = true := decide_eq_true c5
            clear c5
            by_cases c6 : (rd l0 x9_1) = a1
            · rw [if_pos c6] at H
              have c6b0 : ((rd l0 x9_1) == a1) = true := beq_iff_eq.mpr c6
              have c6b1 : ((rd l0 x9_1) != a1) = false := bne_eq_false_iff_eq.mpr c6
              clear c6
              obtain rfl := Option.some.inj H
              have p301 : 0 ≤ (x9_1 : Int) := of_decide_eq_true qa_
              have q301 : x9_1 < (l0.length : Int) := of_decide_eq_true qa_
              obtain ⟨ad301, e301, hx301_0⟩ := Kd.at_int HR0.out x9_1 p301 q301
              cases e301
              replace p301 := eq_true p301
              replace q301 := eq_true q301
              go_wp2
              go_ret
              exact ⟨qs_, qy_⟩
            · rw [if_neg c6] at H
              have c6b0 : ((rd l0 x9_1) == a1) = false := beq_eq_false_iff_ne.mpr c6
              have c6b1 : ((rd l0 x9_1) != a1) = true := bne_iff_ne.mpr c6
              have H' := Aside0.mk H
              clear H
              have p301 : 0 ≤ (x9_1 : Int) := of_decide_eq_true qa_
              have q301 : x9_1 < (l0.length : Int) := of_decide_eq_true qa_
              obtain ⟨ad301, e301, hx301_0⟩ := Kd.at_int HR0.out x9_1 p301 q301
              cases e301
              replace p301 := eq_true p301
              replace q301 := eq_true q301
              go_wp2
              go_roundg k1
              case measure => have := HK1.out; omega
              case rel => exact ⟨(wrap64 (x9_1 + 1)), qs_, H', ⟨by have := HK1.out; omega⟩, qy_⟩
          · rw [if_neg c5] at H
            exact absurd H (by simp)
        · rw [if_neg c4] at H
          exact absurd H (by simp)
      · rw [if_neg c3] at H
        have c3b0 : decide (x9_1 < (l0.length : Int)) = false := decide_eq_false c3
        clear c3
        obtain rfl := Option.some.inj H
        go_wp2
        go_ret
        exact ⟨qs_, qy_⟩

end Go.Proofs.YtfhmbfadbfnnaaaDoor.Px
