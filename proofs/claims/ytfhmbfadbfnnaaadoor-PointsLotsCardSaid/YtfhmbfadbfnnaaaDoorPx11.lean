/- Contracts of Go functions, written by a program of this session's own (wip/tools/myprint.py) out of the translation: each Go function does what the Lean function of its name says. Conditions: as each theorem states. -/
import Derived.Test.YtfhmbfadbfnnaaaDoorPx0
import Derived.Test.YtfhmbfadbfnnaaaDoorPx8
import Derived.Test.YtfhmbfadbfnnaaaDoorPx9
import Derived.Test.YtfhmbfadbfnnaaaDoorPx10
namespace Go.Proofs.YtfhmbfadbfnnaaaDoor.Px
open Go.Proofs.YtfhmbfadbfnnaaaDoor.Given
open Go.RowKit Go.Proofs.YtfhmbfadbfnnaaaDoorW.PrintWords Go.Proofs.YtfhmbfadbfnnaaaDoorW.PrintLast Go.Proofs.YtfhmbfadbfnnaaaDoorW.PrintMore
attribute [local go_sem] max2_int min2_int max_two min_two max_three min_three max_four min_four   -- for this text's walks alone
set_option linter.unusedVariables false
set_option linter.unusedSimpArgs false

/-! ### cohousingref21_Order: function 14 -/
mutual
def cohousingref21_Order.j0 : Nat → List (S25) → Int → List Int → Bool → Int → Int → Int → Int → Option (List Int × Int)
  | 0, _, _, _, _, _, _, _, _ => none
  | k + 1, x1, x2, x3, x38, x221000, x221001, x221002, x221003 => if x38 = true then (some (([] : List Int), 1)) else (cohousingref21_Order.l0 k x1 x2 x3 ([] : List Int) 0 x221000 x221001 x221002 x221003)
def cohousingref21_Order.l0 : Nat → List (S25) → Int → List Int → List Int → Int → Int → Int → Int → Int → Option (List Int × Int)
  | 0, _, _, _, _, _, _, _, _, _ => none
  | k + 1, x1, x2, x3, x10, x11, x221000, x221001, x221002, x221003 => if x11 < (x1.length : Int) then (if 0 ≤ x11 then ((cohousingref21_Count.f k x221000 x221001 x221002 x221003 ((rd_T25 x1 x11).f0) ((rd_T25 x1 x11).f1) ((rd_T25 x1 x11).f2) ((rd_T25 x1 x11).f3) ((rd_T25 x1 x11).f4) x2).bind fun bt225 => (if bt225.2 = 0 then (if x10.length < 17592186044416 then (cohousingref21_Order.l0 k x1 x2 x3 (x10 ++ [bt225.1]) (wrap64 (x11 + 1)) x221000 x221001 x221002 x221003) else (none)) else (some (([] : List Int), bt225.2)))) else (none)) else (if 0 ≤ (x1.length : Int) then (if ((x1.length : Int) : Int).toNat ≤ 281474976710656 then (cohousingref21_Order.l1 k x1 x3 x10 (List.replicate ((x1.length : Int) : Int).toNat false) ([] : List Int)) else (none)) else (none))
def cohousingref21_Order.l1 : Nat → List (S25) → List Int → List Int → List Bool → List Int → Option (List Int × Int)
  | 0, _, _, _, _, _ => none
  | k + 1, x1, x3, x10, x14, x15 => if (x15.length : Int) < (x1.length : Int) then (cohousingref21_Order.l2 k x1 x3 x10 x14 x15 (-1) 0) else (some (x15, 0))
def cohousingref21_Order.l2 : Nat → List (S25) → List Int → List Int → List Bool → List Int → Int → Int → Option (List Int × Int)
  | 0, _, _, _, _, _, _, _ => none
  | k + 1, x1, x3, x10, x14, x15, x16, x17 => if x17 < (x3.length : Int) then (if 0 ≤ x17 then (if 0 ≤ (wrap64 ((rd x3 x17) - 1)) then (if (wrap64 ((rd x3 x17) - 1)) < (x14.length : Int) then (if (rdOf false x14 (wrap64 ((rd x3 x17) - 1)) = true) then (cohousingref21_Order.j4 k x1 x3 x10 x14 x15 x16 x17 (wrap64 ((rd x3 x17) - 1)) false) else (if x16 < 0 then (cohousingref21_Order.j4 k x1 x3 x10 x14 x15 x16 x17 (wrap64 ((rd x3 x17) - 1)) true) else (if (wrap64 ((rd x3 x17) - 1)) < (x10.length : Int) then (if 0 ≤ x16 then (if x16 < (x10.length : Int) then (cohousingref21_Order.j4 k x1 x3 x10 x14 x15 x16 x17 (wrap64 ((rd x3 x17) - 1)) (decide ((rd x10 (wrap64 ((rd x3 x17) - 1))) > (rd x10 x16)))) else (none)) else (none)) else (none)))) else (none)) else (none)) else (none)) else (if 0 ≤ x16 then (if x16 < (x14.length : Int) then (if x15.length < 17592186044416 then (cohousingref21_Order.l1 k x1 x3 x10 (x14.set (x16 : Int).toNat true) (x15 ++ [x16])) else (none)) else (none)) else (none))
def cohousingref21_Order.j4 : Nat → List (S25) → List Int → List Int → List Bool → List Int → Int → Int → Int → Bool → Option (List Int × Int)
  | 0, _, _, _, _, _, _, _, _, _ => none
  | k + 1, x1, x3, x10, x14, x15, x16, x17, x18, x100 => if x100 = true then (cohousingref21_Order.l2 k x1 x3 x10 x14 x15 x18 (wrap64 (x17 + 1))) else (cohousingref21_Order.l2 k x1 x3 x10 x14 x15 x16 (wrap64 (x17 + 1)))
end
def cohousingref21_Order.f (k : Nat) (a0_0 a0_1 a0_2 a0_3 : Int) (l1 : List (S25)) (a2 : Int) (l3 : List Int) : Option (List Int × Int) := (cohousingref21_Weights.f a0_0 a0_1 a0_2 a0_3).bind fun t221 => (if t221 = true then (if (l1.length : Int) > 64 then (cohousingref21_Order.j0 k l1 a2 l3 true a0_0 a0_1 a0_2 a0_3) else ((cohousingref21_apart.f k l1).bind fun t222 => (if t222 = true then ((cohousingref21_Lots.f k l3 (l1.length : Int)).bind fun t223 => (cohousingref21_Order.j0 k l1 a2 l3 (!t223) a0_0 a0_1 a0_2 a0_3)) else (cohousingref21_Order.j0 k l1 a2 l3 true a0_0 a0_1 a0_2 a0_3)))) else (cohousingref21_Order.j0 k l1 a2 l3 true a0_0 a0_1 a0_2 a0_3))
theorem cohousingref21_Order.mono_l : ∀ k, (∀ y0 y1 y2 y3 y4 y5 y6 y7, LeO (cohousingref21_Order.j0 k y0 y1 y2 y3 y4 y5 y6 y7) (cohousingref21_Order.j0 (k + 1) y0 y1 y2 y3 y4 y5 y6 y7)) ∧ (∀ y0 y1 y2 y3 y4 y5 y6 y7 y8, LeO (cohousingref21_Order.l0 k y0 y1 y2 y3 y4 y5 y6 y7 y8) (cohousingref21_Order.l0 (k + 1) y0 y1 y2 y3 y4 y5 y6 y7 y8)) ∧ (∀ y0 y1 y2 y3 y4, LeO (cohousingref21_Order.l1 k y0 y1 y2 y3 y4) (cohousingref21_Order.l1 (k + 1) y0 y1 y2 y3 y4)) ∧ (∀ y0 y1 y2 y3 y4 y5 y6, LeO (cohousingref21_Order.l2 k y0 y1 y2 y3 y4 y5 y6) (cohousingref21_Order.l2 (k + 1) y0 y1 y2 y3 y4 y5 y6)) ∧ (∀ y0 y1 y2 y3 y4 y5 y6 y7 y8, LeO (cohousingref21_Order.j4 k y0 y1 y2 y3 y4 y5 y6 y7 y8) (cohousingref21_Order.j4 (k + 1) y0 y1 y2 y3 y4 y5 y6 y7 y8))
  | 0 => ⟨fun _ _ _ _ _ _ _ _ r h => by simp [cohousingref21_Order.j0] at h, fun _ _ _ _ _ _ _ _ _ r h => by simp [cohousingref21_Order.l0] at h, fun _ _ _ _ _ r h => by simp [cohousingref21_Order.l1] at h, fun _ _ _ _ _ _ _ r h => by simp [cohousingref21_Order.l2] at h, fun _ _ _ _ _ _ _ _ _ r h => by simp [cohousingref21_Order.j4] at h⟩
  | k + 1 => by
    obtain ⟨ih0, ih1, ih2, ih3, ih4⟩ := cohousingref21_Order.mono_l k
    refine ⟨?_, ?_, ?_, ?_, ?_⟩
    · intro y0 y1 y2 y3 y4 y5 y6 y7
      unfold cohousingref21_Order.j0
      with_reducible (repeat' first | apply ih0 | apply ih1 | apply ih2 | apply ih3 | apply ih4 | apply cohousingref21_Count.mono | apply cohousingref21_Lots.mono | apply cohousingref21_apart.mono | apply LeO.refl | apply LeO.none | apply LeO.ite | refine LeO.bind ?_ (fun _ => ?_))
    · intro y0 y1 y2 y3 y4 y5 y6 y7 y8
      unfold cohousingref21_Order.l0
      with_reducible (repeat' first | apply ih0 | apply ih1 | apply ih2 | apply ih3 | apply ih4 | apply cohousingref21_Count.mono | apply cohousingref21_Lots.mono | apply cohousingref21_apart.mono | apply LeO.refl | apply LeO.none | apply LeO.ite | refine LeO.bind ?_ (fun _ => ?_))
    · intro y0 y1 y2 y3 y4
      unfold cohousingref21_Order.l1
      with_reducible (repeat' first | apply ih0 | apply ih1 | apply ih2 | apply ih3 | apply ih4 | apply cohousingref21_Count.mono | apply cohousingref21_Lots.mono | apply cohousingref21_apart.mono | apply LeO.refl | apply LeO.none | apply LeO.ite | refine LeO.bind ?_ (fun _ => ?_))
    · intro y0 y1 y2 y3 y4 y5 y6
      unfold cohousingref21_Order.l2
      with_reducible (repeat' first | apply ih0 | apply ih1 | apply ih2 | apply ih3 | apply ih4 | apply cohousingref21_Count.mono | apply cohousingref21_Lots.mono | apply cohousingref21_apart.mono | apply LeO.refl | apply LeO.none | apply LeO.ite | refine LeO.bind ?_ (fun _ => ?_))
    · intro y0 y1 y2 y3 y4 y5 y6 y7 y8
      unfold cohousingref21_Order.j4
      with_reducible (repeat' first | apply ih0 | apply ih1 | apply ih2 | apply ih3 | apply ih4 | apply cohousingref21_Count.mono | apply cohousingref21_Lots.mono | apply cohousingref21_apart.mono | apply LeO.refl | apply LeO.none | apply LeO.ite | refine LeO.bind ?_ (fun _ => ?_))
theorem cohousingref21_Order.mono : ∀ a0 a1 a2 a3 a4 a5 a6 k, LeO (cohousingref21_Order.f k a0 a1 a2 a3 a4 a5 a6) (cohousingref21_Order.f (k + 1) a0 a1 a2 a3 a4 a5 a6) := by
  intro a0 a1 a2 a3 a4 a5 a6 k
  obtain ⟨ih0, ih1, ih2, ih3, ih4⟩ := cohousingref21_Order.mono_l k
  unfold cohousingref21_Order.f
  with_reducible (repeat' first | apply ih0 | apply ih1 | apply ih2 | apply ih3 | apply ih4 | apply cohousingref21_Count.mono | apply cohousingref21_Lots.mono | apply cohousingref21_apart.mono | apply LeO.refl | apply LeO.none | apply LeO.ite | refine LeO.bind ?_ (fun _ => ?_))
def cohousingref21_Order.T7 : Bool × List (List Nat × List Nat) := (true, [([], []), ([], []), ([], []), ([1, 2], [1, 2]), ([3], [3]), ([], []), ([0, 4, 5], [0, 4, 5]), ([6], [6]), ([7], [7]), ([7], [7]), ([8, 6, 0, 1, 2, 3, 4, 5, 6, 7, 8], [8]), ([9, 10, 0, 1, 2, 3, 4, 5, 6, 7, 8, 9, 10], [9])])
def cohousingref21_Order.B7 : List Nat := [0, 0, 0, 6, 14, 0, 63, 127, 255, 255, 511, 2047]
theorem cohousingref21_Order.tab7 : rtab .any (opsOf Tryd.f14 7) = cohousingref21_Order.T7 := by kernel_rfl
theorem cohousingref21_Order.bits7 : waitsOk cohousingref21_Order.T7.2 cohousingref21_Order.B7 = true := by kernel_rfl
def cohousingref21_Order.T19 : Bool × List (List Nat × List Nat) := (true, [([], []), ([], []), ([0, 1], [0, 1]), ([2], [2]), ([3], [3]), ([4], [4]), ([5], [5]), ([6, 5], [5, 6]), ([7, 5, 5], [5, 7]), ([8], [8]), ([8], [8]), ([9, 10, 8], [8, 9, 10]), ([11, 8], [8, 11]), ([8], [8]), ([8], [8]), ([13, 14, 8], [8, 13, 14]), ([15, 8], [8, 15]), ([12, 16, 8], [8, 12, 16]), ([8, 17, 5], [5, 8, 17]), ([5, 18], [5, 18])])
def cohousingref21_Order.B19 : List Nat := [0, 0, 3, 7, 15, 31, 63, 127, 255, 511, 511, 2047, 4095, 511, 511, 25087, 57855, 131071, 262143, 524287]
theorem cohousingref21_Order.tab19 : rtab .any (opsOf Tryd.f14 19) = cohousingref21_Order.T19 := by kernel_rfl
theorem cohousingref21_Order.bits19 : waitsOk cohousingref21_Order.T19.2 cohousingref21_Order.B19 = true := by kernel_rfl
set_option maxHeartbeats 8000000 in
set_option maxRecDepth 100000 in
theorem cohousingref21_Order.calls (k : Nat) (a0_0 a0_1 a0_2 a0_3 : Int) (A1 : Option Addr) (c1 : Nat) (l1 : List (S25)) (a2 : Int) (A3 : Option Addr) (c3 : Nat) (l3 r1 : List Int) (r2 : Int) (w : World) (hr1 : Kd.C k25 w A1 l1.length l1) (hc1 : l1.length ≤ c1) (hr3 : Kd.C (Kd.int .i64) w A3 l3.length l3) (hc3 : l3.length ≤ c3) (h : cohousingref21_Order.f k a0_0 a0_1 a0_2 a0_3 l1 a2 l3 = some (r1, r2)) :
    Calls Tryd.prog 14 #[.agg #[.int .i64 a0_0, .int .i64 a0_1, .int .i64 a0_2, .int .i64 a0_3], .slice A1 l1.length c1, .int .i64 a2, .slice A3 l3.length c3] w fun e w' => ∃ v0_ : Value, e = .returned (.tuple #[v0_, .int .i64 r2]) ∧ Kd.R (Kd.int .i64) 3 w' w.heap.size (fun _ => True) v0_ r1 ∧ Below w.heap.size w w' := by
  have hu23 := Tryd.underlying23
  have hu25 := Tryd.underlying25
  have HR1 := Aside0.mk hr1
  have HC1 := Aside0.mk hc1
  clear hr1 hc1
  have HR3 := Aside0.mk hr3
  have HC3 := Aside0.mk hc3
  clear hr3 hc3
  have HB := Aside0.mk (Below.refl w.heap.size w)
  have H : ((cohousingref21_Weights.f a0_0 a0_1 a0_2 a0_3).bind fun t221 => (if t221 = true then (if (l1.length : Int) > 64 then (cohousingref21_Order.j0 k l1 a2 l3 true a0_0 a0_1 a0_2 a0_3) else ((cohousingref21_apart.f k l1).bind fun t222 => (if t222 = true then ((cohousingref21_Lots.f k l3 (l1.length : Int)).bind fun t223 => (cohousingref21_Order.j0 k l1 a2 l3 (!t223) a0_0 a0_1 a0_2 a0_3)) else (cohousingref21_Order.j0 k l1 a2 l3 true a0_0 a0_1 a0_2 a0_3)))) else (cohousingref21_Order.j0 k l1 a2 l3 true a0_0 a0_1 a0_2 a0_3))) = some (r1, r2) := h
  clear h
  have HC5 := Aside0.mk H
  clear H
  go_enter Tryd.func14, Tryd.ntmps14
  go_upto_region 1 with (first | ((with_reducible refine gate_dst (N := 4) rfl ?_); (try (refine gate_guard (by rfl) ?_; dsimp only)); refine qev_ 4 #[.int .i64 a0_0, .int .i64 a0_1, .int .i64 a0_2, .int .i64 a0_3] 23 ?_; intro gb220 hg w6 hbox hb; have BK220 := Aside0.mk (hbox); have GW220 := qga_ hg; have GE220 := qga_ hg; replace HB := qbs_ hb; clear hb hbox hg))
  (try simp only [Act.put, List.setIfInBounds_toArray, List.set_cons_zero, List.set_cons_succ])
  go_cut [38] (fun v38 wc => ∃ (kq : Nat) (x38_4 : Bool), v38 = .bool x38_4 ∧ Aside0 (cohousingref21_Order.j0 kq l1 a2 l3 x38_4 a0_0 a0_1 a0_2 a0_3 = some (r1, r2)) ∧ Aside0 (kq ≤ k) ∧ Aside0 (wc.heap[gb220]? = some (.cells #[.int .i64 a0_0, .int .i64 a0_1, .int .i64 a0_2, .int .i64 a0_3] 23 (0, 0))) ∧ Aside0 (Below w.heap.size w wc))
  case first =>
    have H := HC5.out
    clear HC5
    replace H := Option.bind_eq_some_iff.mp H
    obtain ⟨t221, A70, H⟩ := H
    replace H : (if t221 = true then (if (l1.length : Int) > 64 then (cohousingref21_Order.j0 k l1 a2 l3 true a0_0 a0_1 a0_2 a0_3) else ((cohousingref21_apart.f k l1).bind fun t222 => (if t222 = true then ((cohousingref21_Lots.f k l3 (l1.length : Int)).bind fun t223 => (cohousingref21_Order.j0 k l1 a2 l3 (!t223) a0_0 a0_1 a0_2 a0_3)) else (cohousingref21_Order.j0 k l1 a2 l3 true a0_0 a0_1 a0_2 a0_3)))) else (cohousingref21_Order.j0 k l1 a2 l3 true a0_0 a0_1 a0_2 a0_3)) = some (r1, r2) := H
    have A7 := Aside0.mk A70
    clear A70
    by_cases c8 : t221 = true
    · subst c8
      have H1 : (if (l1.length : Int) > 64 then (cohousingref21_Order.j0 k l1 a2 l3 true a0_0 a0_1 a0_2 a0_3) else ((cohousingref21_apart.f k l1).bind fun t222 => (if t222 = true then ((cohousingref21_Lots.f k l3 (l1.length : Int)).bind fun t223 => (cohousingref21_Order.j0 k l1 a2 l3 (!t223) a0_0 a0_1 a0_2 a0_3)) else (cohousingref21_Order.j0 k l1 a2 l3 true a0_0 a0_1 a0_2 a0_3)))) = some (r1, r2) := by rw [if_pos rfl] at H; exact H
      clear H
      have H := H1
      clear H1
      by_cases c9 : (l1.length : Int) > 64
      · rw [if_pos c9] at H
        have c9b0 : decide (64 < (l1.length : Int)) = true := decide_eq_true c9
        have c9b1 : decide (64 < l1.length) = true := decide_eq_true (by omega)
        clear c9
        (first | rw [c9b0] | (simp only [i64_w, i32_w]; rw [c9b0]) | skip)
        have H' := Aside0.mk H
        clear H
        obtain ⟨hcz10_0, hcz10_1, hcz10_2, hcz10_3⟩ := qz4_ BK220; obtain ⟨hfz10_0, hfz10_1, hfz10_2, hfz10_3⟩ := qf4_ BK220
        go_wp2_with (first | ((with_reducible refine gate_callee (f := 25) rfl ?_); refine goesL_ (some 20) rfl rfl Tryd.func25 (by kernel_rfl) rfl #[.agg #[.int .i64 a0_0, .int .i64 a0_1, .int .i64 a0_2, .int .i64 a0_3]] rfl ql_ ?_; (with_reducible refine (cohousingref21_Weights.calls a0_0 a0_1 a0_2 a0_3 true _ A7.out).mono ?_); rintro e w11 ⟨rfl, hb⟩; refine ⟨_, rfl, ?_⟩; replace BK220 := qkb_ BK220 hb; replace HB := qbs_ hb; (try clear hb); (try clear hb2); (try clear hk); (try clear hi)))
        go_meet
        case rel => exact ⟨_, (true), qs_, H', ⟨qo_⟩, ⟨qk_ BK220⟩, ⟨qb_⟩⟩
      · rw [if_neg c9] at H
        have c9b0 : decide (64 < (l1.length : Int)) = false := decide_eq_false c9
        have c9b1 : decide (64 < l1.length) = false := decide_eq_false (by omega)
        clear c9
        (first | rw [c9b0] | (simp only [i64_w, i32_w]; rw [c9b0]) | skip)
        replace H := Option.bind_eq_some_iff.mp H
        obtain ⟨t222, A120, H⟩ := H
        replace H : (if t222 = true then ((cohousingref21_Lots.f k l3 (l1.length : Int)).bind fun t223 => (cohousingref21_Order.j0 k l1 a2 l3 (!t223) a0_0 a0_1 a0_2 a0_3)) else (cohousingref21_Order.j0 k l1 a2 l3 true a0_0 a0_1 a0_2 a0_3)) = some (r1, r2) := H
        have A12 := Aside0.mk A120
        clear A120
        by_cases c13 : t222 = true
        · subst c13
          have H1 : ((cohousingref21_Lots.f k l3 (l1.length : Int)).bind fun t223 => (cohousingref21_Order.j0 k l1 a2 l3 (!t223) a0_0 a0_1 a0_2 a0_3)) = some (r1, r2) := by rw [if_pos rfl] at H; exact H
          clear H
          have H := H1
          clear H1
          replace H := Option.bind_eq_some_iff.mp H
          obtain ⟨t223, A140, H⟩ := H
          replace H : (cohousingref21_Order.j0 k l1 a2 l3 (!t223) a0_0 a0_1 a0_2 a0_3) = some (r1, r2) := H
          have A14 := Aside0.mk A140
          clear A140
          have H' := Aside0.mk H
          clear H
          obtain ⟨hcz15_0, hcz15_1, hcz15_2, hcz15_3⟩ := qz4_ BK220; obtain ⟨hfz15_0, hfz15_1, hfz15_2, hfz15_3⟩ := qf4_ BK220
          go_wp2_with (first | ((with_reducible refine gate_callee (f := 25) rfl ?_); refine goesL_ (some 20) rfl rfl Tryd.func25 (by kernel_rfl) rfl #[.agg #[.int .i64 a0_0, .int .i64 a0_1, .int .i64 a0_2, .int .i64 a0_3]] rfl ql_ ?_; (with_reducible refine (cohousingref21_Weights.calls a0_0 a0_1 a0_2 a0_3 true _ A7.out).mono ?_); rintro e w16 ⟨rfl, hb⟩; refine ⟨_, rfl, ?_⟩; replace BK220 := qkb_ BK220 hb; replace HB := qbs_ hb; (try clear hb); (try clear hb2); (try clear hk); (try clear hi)) | (go_at_call 33; (with_reducible refine (cohousingref21_apart.calls k _ _ l1 true _ ?side1 ?side2 A12.out).mono ?_); (case side1 => exact qc_ HR1); (case side2 => exact HC1.out); rintro e w17 ⟨rfl, hb⟩; replace BK220 := qkb_ BK220 hb; replace HB := qbs_ hb; (try clear hb); (try clear hb2); (try clear hk); (try clear hi)) | (go_at_call 19; (with_reducible refine (cohousingref21_Lots.calls k _ _ l3 (l1.length : Int) t223 _ ?side1 ?side2 A14.out).mono ?_); (case side1 => exact qc_ HR3); (case side2 => exact HC3.out); rintro e w' ⟨rfl, ⟨nd, rfl⟩⟩))
          go_meet
          case rel => exact ⟨_, (!t223), qs_, H', ⟨qo_⟩, ⟨qk_ BK220⟩, ⟨qb_⟩⟩
        · replace c13 := Bool.eq_false_iff.mpr c13
          subst c13
          have H1 : (cohousingref21_Order.j0 k l1 a2 l3 true a0_0 a0_1 a0_2 a0_3) = some (r1, r2) := by rw [if_neg (show ¬ (false = true) by decide)] at H; exact H
          clear H
          have H := H1
          clear H1
          have H' := Aside0.mk H
          clear H
          obtain ⟨hcz18_0, hcz18_1, hcz18_2, hcz18_3⟩ := qz4_ BK220; obtain ⟨hfz18_0, hfz18_1, hfz18_2, hfz18_3⟩ := qf4_ BK220
          go_wp2_with (first | ((with_reducible refine gate_callee (f := 25) rfl ?_); refine goesL_ (some 20) rfl rfl Tryd.func25 (by kernel_rfl) rfl #[.agg #[.int .i64 a0_0, .int .i64 a0_1, .int .i64 a0_2, .int .i64 a0_3]] rfl ql_ ?_; (with_reducible refine (cohousingref21_Weights.calls a0_0 a0_1 a0_2 a0_3 true _ A7.out).mono ?_); rintro e w19 ⟨rfl, hb⟩; refine ⟨_, rfl, ?_⟩; replace BK220 := qkb_ BK220 hb; replace HB := qbs_ hb; (try clear hb); (try clear hb2); (try clear hk); (try clear hi)) | (go_at_call 33; (with_reducible refine (cohousingref21_apart.calls k _ _ l1 false _ ?side1 ?side2 A12.out).mono ?_); (case side1 => exact qc_ HR1); (case side2 => exact HC1.out); rintro e w20 ⟨rfl, hb⟩; replace BK220 := qkb_ BK220 hb; replace HB := qbs_ hb; (try clear hb); (try clear hb2); (try clear hk); (try clear hi)))
          go_meet
          case rel => exact ⟨_, (true), qs_, H', ⟨qo_⟩, ⟨qk_ BK220⟩, ⟨qb_⟩⟩
    · replace c8 := Bool.eq_false_iff.mpr c8
      subst c8
      have H1 : (cohousingref21_Order.j0 k l1 a2 l3 true a0_0 a0_1 a0_2 a0_3) = some (r1, r2) := by rw [if_neg (show ¬ (false = true) by decide)] at H; exact H
      clear H
      have H := H1
      clear H1
      have H' := Aside0.mk H
      clear H
      obtain ⟨hcz21_0, hcz21_1, hcz21_2, hcz21_3⟩ := qz4_ BK220; obtain ⟨hfz21_0, hfz21_1, hfz21_2, hfz21_3⟩ := qf4_ BK220
      go_wp2_with (first | ((with_reducible refine gate_callee (f := 25) rfl ?_); refine goesL_ (some 20) rfl rfl Tryd.func25 (by kernel_rfl) rfl #[.agg #[.int .i64 a0_0, .int .i64 a0_1, .int .i64 a0_2, .int .i64 a0_3]] rfl ql_ ?_; (with_reducible refine (cohousingref21_Weights.calls a0_0 a0_1 a0_2 a0_3 false _ A7.out).mono ?_); rintro e w22 ⟨rfl, hb⟩; refine ⟨_, rfl, ?_⟩; replace BK220 := qkb_ BK220 hb; replace HB := qbs_ hb; (try clear hb); (try clear hb2); (try clear hk); (try clear hi)))
      go_meet
      case rel => exact ⟨_, (true), qs_, H', ⟨qo_⟩, ⟨qk_ BK220⟩, ⟨qb_⟩⟩
  case rest =>
    clear HC5
    try clear c1
    try clear c2
    try clear p2
    try clear c3
    try clear c8
    try clear c9
    try clear c9b0
    try clear c9b1
    try clear c13
    try clear c14
    try clear hcz10_0 hcz10_1 hcz10_2 hcz10_3
    try clear hcz15_0 hcz15_1 hcz15_2 hcz15_3
    try clear hcz18_0 hcz18_1 hcz18_2 hcz18_3
    try clear hcz21_0 hcz21_1 hcz21_2 hcz21_3
    try clear hfz10_0 hfz10_1 hfz10_2 hfz10_3
    try clear hfz15_0 hfz15_1 hfz15_2 hfz15_3
    try clear hfz18_0 hfz18_1 hfz18_2 hfz18_3
    try clear hfz21_0 hfz21_1 hfz21_2 hfz21_3
    obtain ⟨kq, x38_4, rfl, HA, HJ4, BK220, HB⟩ := hcut
    cases kq with
    | zero => exact absurd HA.out (by simp [cohousingref21_Order.j0])
    | succ kj4 =>
      have H := HA.out
      clear HA
      simp only [cohousingref21_Order.j0] at H
      by_cases c23 : x38_4 = true
      · subst c23
        have H1 : (some (([] : List Int), 1)) = some (r1, r2) := by rw [if_pos rfl] at H; exact H
        clear H
        have H := H1
        clear H1
        simp only [Option.some.injEq, Prod.mk.injEq] at H
        obtain ⟨rfl, rfl⟩ := H
        go_wp2
        go_ret2
        exact ⟨_, qx_, by first | exact Kd.R_nil _ _ _ _ _ | exact Kd.N_nil _ _ _ _ _ | exact Kd.V_nil _ _ _ _ _ | exact Kd.Q_nil _ _ _ _ _ | exact Kd.S_nil _ _ _ _ _, qb_⟩
      · replace c23 := Bool.eq_false_iff.mpr c23
        subst c23
        have H1 : (cohousingref21_Order.l0 kj4 l1 a2 l3 ([] : List Int) 0 a0_0 a0_1 a0_2 a0_3) = some (r1, r2) := by rw [if_neg (show ¬ (false = true) by decide)] at H; exact H
        clear H
        have H := H1
        clear H1
        have H' := Aside0.mk H
        clear H
        go_wp2
        go_loopg [10, 11] kj4 (fun kq v10 v11 w' => ∃ (x10_2 : List Int) (x11_2 : Int), v11 = .int .i64 x11_2 ∧ Aside0 (cohousingref21_Order.l0 kq l1 a2 l3 x10_2 x11_2 a0_0 a0_1 a0_2 a0_3 = some (r1, r2)) ∧ Aside0 (kq ≤ kj4) ∧ Aside0 (Kd.R (Kd.int .i64) 3 w' w.heap.size (fun _ => True) v10 x10_2) ∧ Aside0 (w'.heap[gb220]? = some (.cells #[.int .i64 a0_0, .int .i64 a0_1, .int .i64 a0_2, .int .i64 a0_3] 23 (0, 0))) ∧ Aside0 (Below w.heap.size w w'))
        case atStart => exact ⟨(([] : List Int)), (0), qs_, H', ⟨Nat.le_refl _⟩, ⟨by first | exact Kd.R_nil _ _ _ _ _ | exact Kd.N_nil _ _ _ _ _ | exact Kd.V_nil _ _ _ _ _ | exact Kd.Q_nil _ _ _ _ _ | exact Kd.S_nil _ _ _ _ _⟩, ⟨qk_ BK220⟩, ⟨qb_⟩⟩
        case round =>
          clear H'
          try clear c1
          try clear c2
          try clear p2
          try clear c3
          try clear c8
          try clear c9
          try clear c9b0
          try clear c9b1
          try clear c13
          try clear c14
          try clear c23
          try clear hcz10_0 hcz10_1 hcz10_2 hcz10_3
          try clear hcz15_0 hcz15_1 hcz15_2 hcz15_3
          try clear hcz18_0 hcz18_1 hcz18_2 hcz18_3
          try clear hcz21_0 hcz21_1 hcz21_2 hcz21_3
          try clear hfz10_0 hfz10_1 hfz10_2 hfz10_3
          try clear hfz15_0 hfz15_1 hfz15_2 hfz15_3
          try clear hfz18_0 hfz18_1 hfz18_2 hfz18_3
          try clear hfz21_0 hfz21_1 hfz21_2 hfz21_3
          try clear p2
          obtain ⟨x10_2, x11_2, rfl, HA, HK2, HO_10, BK220, HB⟩ := hrel
          cases gk with
          | zero => exact absurd HA.out (by simp [cohousingref21_Order.l0])
          | succ k2 =>
            have H := HA.out
            clear HA
            simp only [cohousingref21_Order.l0] at H
            by_cases c24 : x11_2 < (l1.length : Int)
            · rw [if_pos c24] at H
              have c24b0 : decide (x11_2 < (l1.length : Int)) = true := decide_eq_true c24
              clear c24
              by_cases c25 : 0 ≤ x11_2
              · rw [if_pos c25] at H
                have c25b0 : decide (0 ≤ x11_2) = true := decide_eq_true c25
                clear c25
                replace H := Option.bind_eq_some_iff.mp H
                obtain ⟨⟨t225, t226⟩, A260, H⟩ := H
                replace H : (if t226 = 0 then (if x10_2.length < 17592186044416 then (cohousingref21_Order.l0 k2 l1 a2 l3 (x10_2 ++ [t225]) (wrap64 (x11_2 + 1)) a0_0 a0_1 a0_2 a0_3) else (none)) else (some (([] : List Int), t226))) = some (r1, r2) := H
                have A26 := Aside0.mk A260
                clear A260
                by_cases c27 : t226 = 0
                · rw [if_pos c27] at H
                  have c27b0 : (t226 == 0) = true := beq_iff_eq.mpr c27
                  have c27b1 : (t226 != 0) = false := bne_eq_false_iff_eq.mpr c27
                  clear c27
                  by_cases c28 : x10_2.length < 17592186044416
                  · rw [if_pos c28] at H
                    have LMc28 := Aside0.mk c28
                    clear c28
                    obtain ⟨y227, hy227⟩ : ∃ y_ : List Int, y_ = (x10_2 ++ [t225]) := ⟨_, rfl⟩
                    replace H : (cohousingref21_Order.l0 k2 l1 a2 l3 y227 (wrap64 (x11_2 + 1)) a0_0 a0_1 a0_2 a0_3) = some (r1, r2) := by first | (rw [hy227]; with_reducible exact H) | (have H2_ := (Option.bind_some _ _).symm.trans H; rw [hy227]; with_reducible exact H2_) | (have H2_ := (Option.bind_some _ _).symm.trans H; with_reducible exact H2_) | with_reducible exact H | (rw [hy227]; exact H) | exact H
                    have Ny227 := Aside0.mk hy227
                    clear hy227
                    have H' := Aside0.mk H
                    clear H
                    try go_wp2
                    replace HO_10 := Aside0.mk (Kd.R_drew HO_10.out)
                    replace BK220 := Aside0.mk (blk_drew BK220.out)
                    replace HB := Aside0.mk (below_drew1 HB.out)
                    have p224 : 0 ≤ (x11_2 : Int) := of_decide_eq_true qa_
                    have q224 : x11_2 < (l1.length : Int) := of_decide_eq_true qa_
                    obtain ⟨ad224, e224, hx224_0, hx224_1, hx224_2, hx224_3, hx224_4⟩ := at_T25 HR1.out x11_2 p224 q224
                    have hw224_4 := hx224_4
                    have hw224_3 := hx224_3
                    have hw224_2 := hx224_2
                    have hw224_1 := hx224_1
                    have hw224_0 := hx224_0
                    cases e224
                    replace hx224_0 := qh_ HB hx224_0
                    replace hx224_1 := qh_ HB hx224_1
                    replace hx224_2 := qh_ HB hx224_2
                    replace hx224_3 := qh_ HB hx224_3
                    replace hx224_4 := qh_ HB hx224_4
                    replace p224 := eq_true p224
                    replace q224 := eq_true q224
                    refine start_ (n := 12) (S := fun w' => w'.cell? ⟨gb220, 0, none⟩ = some (.int .i64 a0_0) ∧ w'.cell? ⟨gb220, 1, none⟩ = some (.int .i64 a0_1) ∧ w'.cell? ⟨gb220, 2, none⟩ = some (.int .i64 a0_2) ∧ w'.cell? ⟨gb220, 3, none⟩ = some (.int .i64 a0_3) ∧ w'.cell? (ad224.add ((x11_2).toNat * 5)) = some (.int .i64 ((rd_T25 l1 x11_2).f0)) ∧ w'.cell? ⟨(ad224.add ((x11_2).toNat * 5)).block, (ad224.add ((x11_2).toNat * 5)).off + 1, none⟩ = some (.int .i64 ((rd_T25 l1 x11_2).f1)) ∧ w'.cell? ⟨(ad224.add ((x11_2).toNat * 5)).block, (ad224.add ((x11_2).toNat * 5)).off + 2, none⟩ = some (.int .i64 ((rd_T25 l1 x11_2).f2)) ∧ w'.cell? ⟨(ad224.add ((x11_2).toNat * 5)).block, (ad224.add ((x11_2).toNat * 5)).off + 3, none⟩ = some (.int .i64 ((rd_T25 l1 x11_2).f3)) ∧ w'.cell? ⟨(ad224.add ((x11_2).toNat * 5)).block, (ad224.add ((x11_2).toNat * 5)).off + 4, none⟩ = some (.int .i64 ((rd_T25 l1 x11_2).f4))) (ds := []) #[i_,i_,i_,i_,i_,i_,i_,i_,i_,i_,i_,i_] (by kernel_rfl) rfl rfl ⟨(blk_cell BK220.out 0).trans rfl, (blk_cell BK220.out 1).trans rfl, (blk_cell BK220.out 2).trans rfl, (blk_cell BK220.out 3).trans rfl, ((HB.out.cell (World.block_lt_of_cell? w _ hw224_0)).trans hw224_0), ((HB.out.cell (World.block_lt_of_cell? w _ hw224_1)).trans hw224_1), ((HB.out.cell (World.block_lt_of_cell? w _ hw224_2)).trans hw224_2), ((HB.out.cell (World.block_lt_of_cell? w _ hw224_3)).trans hw224_3), ((HB.out.cell (World.block_lt_of_cell? w _ hw224_4)).trans hw224_4)⟩ (fun hHeld => ?_); refine with_tabW cohousingref21_Order.tab7 cohousingref21_Order.bits7 (fun HT_ HW_ => ?_)
                    generalize wr.drew = w29 at HO_10 BK220 HB hx224_0 hx224_1 hx224_2 hx224_3 hx224_4 hHeld ⊢
                    refine qpu_ 1 (some 47) #[i_,o_,i_,i_,i_,i_,i_,i_,i_,i_,i_,i_] ?_
                    refine qpu_ 2 (some 48) #[i_,o_,o_,i_,i_,i_,i_,i_,i_,i_,i_,i_] ?_
                    refine qpu_ 3 (some 49) #[i_,o_,o_,o_,i_,i_,i_,i_,i_,i_,i_,i_] ?_
                    refine qpu_ 5 (some 51) #[i_,o_,o_,o_,i_,o_,i_,i_,i_,i_,i_,i_] ?_
                    refine take_ (i := 0) (N := some 46) (v := ?_) (a' := ?_) #[o_,o_,o_,o_,i_,o_,i_,i_,i_,i_,i_,i_] rfl rfl (take_ofW HT_.out HW_.out (by kernel_rfl)) (fun _ _ _ h => h) (Or.inl ⟨by rfl, ?_⟩) hHeld ?_ ?_
                    rotate_left
                    · rintro w' ⟨s0, s1, s2, s3, s4, s5, s6, s7, s8⟩
                      go_simp
                      with_reducible rfl
                    rotate_left
                    · exact qp_
                    refine take_ (i := 4) (N := some 50) (v := ?_) (a' := ?_) #[o_,o_,o_,o_,o_,o_,i_,i_,i_,i_,i_,i_] rfl rfl (take_ofW HT_.out HW_.out (by kernel_rfl)) (fun _ _ _ h => h) (Or.inl ⟨by rfl, ?_⟩) hHeld ?_ ?_
                    rotate_left
                    · rintro w' ⟨s0, s1, s2, s3, s4, s5, s6, s7, s8⟩
                      go_simp
                      with_reducible rfl
                    rotate_left
                    · exact qp_
                    refine one_ (i := 6) (N := some 52) #[o_,o_,o_,o_,o_,o_,o_,i_,i_,i_,i_,i_] rfl rfl (one_of HT_.out (by kernel_rfl)) (by decide) (fun K hK => ?_)
                    refine goes_ Tryd.func12 (by kernel_rfl) rfl #[.agg #[.int .i64 a0_0, .int .i64 a0_1, .int .i64 a0_2, .int .i64 a0_3], .agg #[.int .i64 ((rd_T25 l1 x11_2).f0), .int .i64 ((rd_T25 l1 x11_2).f1), .int .i64 ((rd_T25 l1 x11_2).f2), .int .i64 ((rd_T25 l1 x11_2).f3), .int .i64 ((rd_T25 l1 x11_2).f4)], .int .i64 a2] (by rfl) rfl rfl ql_ ?_
                    with_reducible refine (cohousingref21_Count.calls k2 a0_0 a0_1 a0_2 a0_3 ((rd_T25 l1 x11_2).f0) ((rd_T25 l1 x11_2).f1) ((rd_T25 l1 x11_2).f2) ((rd_T25 l1 x11_2).f3) ((rd_T25 l1 x11_2).f4) a2 t225 t226 _ A26.out).mono ?_
                    rintro e w30 ⟨rfl, hb⟩
                    refine ⟨_, rfl, ?_⟩
                    replace HO_10 := qrb_ HO_10 hb
                    replace BK220 := qkb_ BK220 hb
                    replace HB := qbs_ hb
                    (try clear hb)
                    (try clear hb2)
                    (try clear hk)
                    (try clear hi)
                    refine hK.out _ _ ⟨(blk_cell BK220.out 0).trans rfl, (blk_cell BK220.out 1).trans rfl, (blk_cell BK220.out 2).trans rfl, (blk_cell BK220.out 3).trans rfl, ((HB.out.cell (World.block_lt_of_cell? w _ hw224_0)).trans hw224_0), ((HB.out.cell (World.block_lt_of_cell? w _ hw224_1)).trans hw224_1), ((HB.out.cell (World.block_lt_of_cell? w _ hw224_2)).trans hw224_2), ((HB.out.cell (World.block_lt_of_cell? w _ hw224_3)).trans hw224_3), ((HB.out.cell (World.block_lt_of_cell? w _ hw224_4)).trans hw224_4)⟩ (fun hHeld => ?_)
                    clear hK K
                    refine norm_ (a' := ?_) ?_ ?_
                    rotate_left
                    · show Act.put _ (some 52) _ = _
                      exact qp_
                    refine qpu_ 7 (some 45) #[o_,o_,o_,o_,o_,o_,o_,o_,i_,i_,i_,i_] ?_
                    refine qpu_ 8 (some 53) #[o_,o_,o_,o_,o_,o_,o_,o_,o_,i_,i_,i_] ?_
                    refine qpu_ 9 (some 54) #[o_,o_,o_,o_,o_,o_,o_,o_,o_,o_,i_,i_] ?_
                    refine qpu_ 10 (some 12) #[o_,o_,o_,o_,o_,o_,o_,o_,o_,o_,o_,i_] ?_
                    refine qpu_ 11 (some 13) #[o_,o_,o_,o_,o_,o_,o_,o_,o_,o_,o_,o_] ?_
                    refine done_ (done_of HT_.out (by kernel_rfl)) ?_
                    try go_wp2_with (first | ((with_reducible refine gate_builtin (b := .append) (xs := #[.tmp 58, .tmp 60]) rfl ?_); (try (refine gate_guard (by rfl) ?_; dsimp only)); at_builtin; refine Kd.R_append (Kd.int .i64) (w0 := w) w.heap.size rfl (.tmp 58) (.tmp 60) 27 3 (.int .i64 0) 8 rfl Tryd.underlying27 info3 rfl (by decide) (by omega) u10 x10_2 t225 [.int .i64 t225] (fun _ => True) (fun _ => False) rfl rfl ?aP (fun _ hk => hk.elim) ?aF ?aO ?aB ?aS ?aL ?_; (case aP => exact rfl); (case aB => exact qb_); (case aF => exact (fun _ _ => trivial)); (case aO => exact (qr_ HO_10)); (case aS => exact (below_size qb_)); (case aL => have := LMc28.out; omega); intro v228 w31 ho hb hg hat; rw [← Ny227.out] at ho; replace BK220 := Aside0.mk (blk_grown (g := gb220) (o := .cells #[.int .i64 a0_0, .int .i64 a0_1, .int .i64 a0_2, .int .i64 a0_3] 23 (0, 0)) (qk_ BK220) hg (Kd.R_ne HO_10.out BK220.out (by decide))); replace HB := Aside0.mk (hb); have HO229 := Aside0.mk (ho); clear HO_10 ho hb hg hat))
                    go_roundg k2
                    case measure => have := HJ4.out; have := HK2.out; omega
                    case rel => exact ⟨(y227), (wrap64 (x11_2 + 1)), qs_, H', ⟨by have := HJ4.out; have := HK2.out; omega⟩, ⟨by (with_reducible repeat (first | apply Kd.R_alloc | apply Kd.R_drewN | apply Kd.R_drew)); exact HO229.out⟩, ⟨qk_ BK220⟩, ⟨qb_⟩⟩
                  · rw [if_neg c28] at H
                    exact absurd H (by simp)
                · rw [if_neg c27] at H
                  have c27b0 : (t226 == 0) = false := beq_eq_false_iff_ne.mpr c27
                  have c27b1 : (t226 != 0) = true := bne_iff_ne.mpr c27
                  simp only [Option.some.injEq, Prod.mk.injEq] at H
                  obtain ⟨rfl, rfl⟩ := H
                  try go_wp2
                  replace HO_10 := Aside0.mk (Kd.R_drew HO_10.out)
                  replace BK220 := Aside0.mk (blk_drew BK220.out)
                  replace HB := Aside0.mk (below_drew1 HB.out)
                  have p224 : 0 ≤ (x11_2 : Int) := of_decide_eq_true qa_
                  have q224 : x11_2 < (l1.length : Int) := of_decide_eq_true qa_
                  obtain ⟨ad224, e224, hx224_0, hx224_1, hx224_2, hx224_3, hx224_4⟩ := at_T25 HR1.out x11_2 p224 q224
                  have hw224_4 := hx224_4
                  have hw224_3 := hx224_3
                  have hw224_2 := hx224_2
                  have hw224_1 := hx224_1
                  have hw224_0 := hx224_0
                  cases e224
                  replace hx224_0 := qh_ HB hx224_0
                  replace hx224_1 := qh_ HB hx224_1
                  replace hx224_2 := qh_ HB hx224_2
                  replace hx224_3 := qh_ HB hx224_3
                  replace hx224_4 := qh_ HB hx224_4
                  replace p224 := eq_true p224
                  replace q224 := eq_true q224
                  refine start_ (n := 12) (S := fun w' => w'.cell? ⟨gb220, 0, none⟩ = some (.int .i64 a0_0) ∧ w'.cell? ⟨gb220, 1, none⟩ = some (.int .i64 a0_1) ∧ w'.cell? ⟨gb220, 2, none⟩ = some (.int .i64 a0_2) ∧ w'.cell? ⟨gb220, 3, none⟩ = some (.int .i64 a0_3) ∧ w'.cell? (ad224.add ((x11_2).toNat * 5)) = some (.int .i64 ((rd_T25 l1 x11_2).f0)) ∧ w'.cell? ⟨(ad224.add ((x11_2).toNat * 5)).block, (ad224.add ((x11_2).toNat * 5)).off + 1, none⟩ = some (.int .i64 ((rd_T25 l1 x11_2).f1)) ∧ w'.cell? ⟨(ad224.add ((x11_2).toNat * 5)).block, (ad224.add ((x11_2).toNat * 5)).off + 2, none⟩ = some (.int .i64 ((rd_T25 l1 x11_2).f2)) ∧ w'.cell? ⟨(ad224.add ((x11_2).toNat * 5)).block, (ad224.add ((x11_2).toNat * 5)).off + 3, none⟩ = some (.int .i64 ((rd_T25 l1 x11_2).f3)) ∧ w'.cell? ⟨(ad224.add ((x11_2).toNat * 5)).block, (ad224.add ((x11_2).toNat * 5)).off + 4, none⟩ = some (.int .i64 ((rd_T25 l1 x11_2).f4))) (ds := []) #[i_,i_,i_,i_,i_,i_,i_,i_,i_,i_,i_,i_] (by kernel_rfl) rfl rfl ⟨(blk_cell BK220.out 0).trans rfl, (blk_cell BK220.out 1).trans rfl, (blk_cell BK220.out 2).trans rfl, (blk_cell BK220.out 3).trans rfl, ((HB.out.cell (World.block_lt_of_cell? w _ hw224_0)).trans hw224_0), ((HB.out.cell (World.block_lt_of_cell? w _ hw224_1)).trans hw224_1), ((HB.out.cell (World.block_lt_of_cell? w _ hw224_2)).trans hw224_2), ((HB.out.cell (World.block_lt_of_cell? w _ hw224_3)).trans hw224_3), ((HB.out.cell (World.block_lt_of_cell? w _ hw224_4)).trans hw224_4)⟩ (fun hHeld => ?_); refine with_tabW cohousingref21_Order.tab7 cohousingref21_Order.bits7 (fun HT_ HW_ => ?_)
                  generalize wr.drew = w32 at HO_10 BK220 HB hx224_0 hx224_1 hx224_2 hx224_3 hx224_4 hHeld ⊢
                  refine qpu_ 1 (some 47) #[i_,o_,i_,i_,i_,i_,i_,i_,i_,i_,i_,i_] ?_
                  refine qpu_ 2 (some 48) #[i_,o_,o_,i_,i_,i_,i_,i_,i_,i_,i_,i_] ?_
                  refine qpu_ 3 (some 49) #[i_,o_,o_,o_,i_,i_,i_,i_,i_,i_,i_,i_] ?_
                  refine qpu_ 5 (some 51) #[i_,o_,o_,o_,i_,o_,i_,i_,i_,i_,i_,i_] ?_
                  refine take_ (i := 0) (N := some 46) (v := ?_) (a' := ?_) #[o_,o_,o_,o_,i_,o_,i_,i_,i_,i_,i_,i_] rfl rfl (take_ofW HT_.out HW_.out (by kernel_rfl)) (fun _ _ _ h => h) (Or.inl ⟨by rfl, ?_⟩) hHeld ?_ ?_
                  rotate_left
                  · rintro w' ⟨s0, s1, s2, s3, s4, s5, s6, s7, s8⟩
                    go_simp
                    with_reducible rfl
                  rotate_left
                  · exact qp_
                  refine take_ (i := 4) (N := some 50) (v := ?_) (a' := ?_) #[o_,o_,o_,o_,o_,o_,i_,i_,i_,i_,i_,i_] rfl rfl (take_ofW HT_.out HW_.out (by kernel_rfl)) (fun _ _ _ h => h) (Or.inl ⟨by rfl, ?_⟩) hHeld ?_ ?_
                  rotate_left
                  · rintro w' ⟨s0, s1, s2, s3, s4, s5, s6, s7, s8⟩
                    go_simp
                    with_reducible rfl
                  rotate_left
                  · exact qp_
                  refine one_ (i := 6) (N := some 52) #[o_,o_,o_,o_,o_,o_,o_,i_,i_,i_,i_,i_] rfl rfl (one_of HT_.out (by kernel_rfl)) (by decide) (fun K hK => ?_)
                  refine goes_ Tryd.func12 (by kernel_rfl) rfl #[.agg #[.int .i64 a0_0, .int .i64 a0_1, .int .i64 a0_2, .int .i64 a0_3], .agg #[.int .i64 ((rd_T25 l1 x11_2).f0), .int .i64 ((rd_T25 l1 x11_2).f1), .int .i64 ((rd_T25 l1 x11_2).f2), .int .i64 ((rd_T25 l1 x11_2).f3), .int .i64 ((rd_T25 l1 x11_2).f4)], .int .i64 a2] (by rfl) rfl rfl ql_ ?_
                  with_reducible refine (cohousingref21_Count.calls k2 a0_0 a0_1 a0_2 a0_3 ((rd_T25 l1 x11_2).f0) ((rd_T25 l1 x11_2).f1) ((rd_T25 l1 x11_2).f2) ((rd_T25 l1 x11_2).f3) ((rd_T25 l1 x11_2).f4) a2 t225 t226 _ A26.out).mono ?_
                  rintro e w33 ⟨rfl, hb⟩
                  refine ⟨_, rfl, ?_⟩
                  replace HO_10 := qrb_ HO_10 hb
                  replace BK220 := qkb_ BK220 hb
                  replace HB := qbs_ hb
                  (try clear hb)
                  (try clear hb2)
                  (try clear hk)
                  (try clear hi)
                  refine hK.out _ _ ⟨(blk_cell BK220.out 0).trans rfl, (blk_cell BK220.out 1).trans rfl, (blk_cell BK220.out 2).trans rfl, (blk_cell BK220.out 3).trans rfl, ((HB.out.cell (World.block_lt_of_cell? w _ hw224_0)).trans hw224_0), ((HB.out.cell (World.block_lt_of_cell? w _ hw224_1)).trans hw224_1), ((HB.out.cell (World.block_lt_of_cell? w _ hw224_2)).trans hw224_2), ((HB.out.cell (World.block_lt_of_cell? w _ hw224_3)).trans hw224_3), ((HB.out.cell (World.block_lt_of_cell? w _ hw224_4)).trans hw224_4)⟩ (fun hHeld => ?_)
                  clear hK K
                  refine norm_ (a' := ?_) ?_ ?_
                  rotate_left
                  · show Act.put _ (some 52) _ = _
                    exact qp_
                  refine qpu_ 7 (some 45) #[o_,o_,o_,o_,o_,o_,o_,o_,i_,i_,i_,i_] ?_
                  refine qpu_ 8 (some 53) #[o_,o_,o_,o_,o_,o_,o_,o_,o_,i_,i_,i_] ?_
                  refine qpu_ 9 (some 54) #[o_,o_,o_,o_,o_,o_,o_,o_,o_,o_,i_,i_] ?_
                  refine qpu_ 10 (some 12) #[o_,o_,o_,o_,o_,o_,o_,o_,o_,o_,o_,i_] ?_
                  refine qpu_ 11 (some 13) #[o_,o_,o_,o_,o_,o_,o_,o_,o_,o_,o_,o_] ?_
                  refine done_ (done_of HT_.out (by kernel_rfl)) ?_
                  try go_wp2
                  go_ret2
                  exact ⟨_, qx_, by first | exact Kd.R_nil _ _ _ _ _ | exact Kd.N_nil _ _ _ _ _ | exact Kd.V_nil _ _ _ _ _ | exact Kd.Q_nil _ _ _ _ _ | exact Kd.S_nil _ _ _ _ _, qb_⟩
              · rw [if_neg c25] at H
                exact absurd H (by simp)
            · rw [if_neg c24] at H
              have c24b0 : decide (x11_2 < (l1.length : Int)) = false := decide_eq_false c24
              clear c24
              by_cases c34 : 0 ≤ (l1.length : Int)
              · rw [if_pos c34] at H
                have c34b0 := eq_true c34
                have c34b1 : decide (0 ≤ (l1.length : Int)) = true := decide_eq_true c34
                clear c34
                by_cases c35 : ((l1.length : Int) : Int).toNat ≤ 281474976710656
                · rw [if_pos c35] at H
                  have c35b0 := eq_true c35
                  have c35b1 : decide (((l1.length : Int) : Int).toNat ≤ 281474976710656) = true := decide_eq_true c35
                  clear c35
                  obtain ⟨y230, hy230⟩ : ∃ y_ : List Bool, y_ = (List.replicate ((l1.length : Int) : Int).toNat false) := ⟨_, rfl⟩
                  replace H : (cohousingref21_Order.l1 k2 l1 l3 x10_2 y230 ([] : List Int)) = some (r1, r2) := by first | (rw [hy230]; with_reducible exact H) | (have H2_ := (Option.bind_some _ _).symm.trans H; rw [hy230]; with_reducible exact H2_) | (have H2_ := (Option.bind_some _ _).symm.trans H; with_reducible exact H2_) | with_reducible exact H | (rw [hy230]; exact H) | exact H
                  have Ny230 := Aside0.mk hy230
                  clear hy230
                  have H' := Aside0.mk H
                  clear H
                  go_wp2_with (first | ((with_reducible refine gate_dst (N := 64) rfl ?_); (try (refine gate_guard (by rfl) ?_; dsimp only)); refine Kd.R_make Kd.bool _ 4 rfl (N := 64) rfl 68 _ _ rfl (l1.length : Int) rfl rfl Tryd.underlying68 (.bool false) 1 info4 rfl (by decide) (by omega) false (ok := fun _ => True) (okp := fun _ => True) rfl (fun _ hk => hk) trivial (of_decide_eq_true qa_) (Nat.le_trans (Nat.mul_le_mul_right _ (of_decide_eq_true qa_ : (l1.length : Int).toNat ≤ 281474976710656)) (by omega)) (Below.refl _ _) (Nat.le_refl _) ?_; intro v231 w36 ho37 hb hg_ hnew_; clear hg_ hnew_; (first | rw [← Ny230.out] at ho37 | (simp only [Int.reduceToNat] at ho37; rw [← Ny230.out] at ho37)); replace HO_10 := qrb_ HO_10 hb; have HO232 := Aside0.mk (Kd.R_lower ho37 (below_size qb_)); replace BK220 := qkb_ BK220 hb; replace HB := qbs_ hb; clear hb ho37))
                  go_loopg [15] k2 (fun kq v15 w' => ∃ (x14_3 : List Bool) (x15_3 : List Int), Aside0 (cohousingref21_Order.l1 kq l1 l3 x10_2 x14_3 x15_3 = some (r1, r2)) ∧ Aside0 (kq ≤ k2) ∧ Aside0 (Kd.R (Kd.int .i64) 3 w' w.heap.size (fun k_ => some k_ ≠ (v15 : Value).ownBlock) u10 x10_2) ∧ Aside0 (Kd.R Kd.bool 4 w' w.heap.size (fun _ => True) v231 x14_3) ∧ Aside0 (Kd.R (Kd.int .i64) 3 w' w.heap.size (fun k_ => some k_ ≠ (u10 : Value).ownBlock) v15 x15_3) ∧ Aside0 (w'.heap[gb220]? = some (.cells #[.int .i64 a0_0, .int .i64 a0_1, .int .i64 a0_2, .int .i64 a0_3] 23 (0, 0))) ∧ Aside0 (Below w.heap.size w w'))
                  case atStart => exact ⟨(y230), (([] : List Int)), H', ⟨Nat.le_refl _⟩, ⟨by (with_reducible repeat (first | apply Kd.R_alloc | apply Kd.R_drewN | apply Kd.R_drew)); exact Kd.R_mono HO_10.out (fun _ hk => (by simp [Value.ownBlock]))⟩, ⟨by (with_reducible repeat (first | apply Kd.R_alloc | apply Kd.R_drewN | apply Kd.R_drew)); exact HO232.out⟩, ⟨by first | exact Kd.R_nil _ _ _ _ _ | exact Kd.N_nil _ _ _ _ _ | exact Kd.V_nil _ _ _ _ _ | exact Kd.Q_nil _ _ _ _ _ | exact Kd.S_nil _ _ _ _ _⟩, ⟨qk_ BK220⟩, ⟨qb_⟩⟩
                  case round =>
                    clear H'
                    try clear c1
                    try clear c2
                    try clear p2
                    try clear q2
                    try clear hx2
                    try clear c3
                    try clear p6
                    try clear c8
                    try clear c9
                    try clear c9b0
                    try clear c9b1
                    try clear c12
                    try clear c13
                    try clear c14
                    try clear p22
                    try clear q22
                    try clear hx22
                    try clear c23
                    try clear c24
                    try clear c24b0
                    try clear c25
                    try clear c25b0
                    try clear c27
                    try clear c27b0
                    try clear c27b1
                    try clear c28
                    try clear c34
                    try clear c34b0
                    try clear c34b1
                    try clear c35
                    try clear c35b0
                    try clear c35b1
                    try clear hcz10_0 hcz10_1 hcz10_2 hcz10_3
                    try clear hcz15_0 hcz15_1 hcz15_2 hcz15_3
                    try clear hcz18_0 hcz18_1 hcz18_2 hcz18_3
                    try clear hcz21_0 hcz21_1 hcz21_2 hcz21_3
                    try clear hfz10_0 hfz10_1 hfz10_2 hfz10_3
                    try clear hfz15_0 hfz15_1 hfz15_2 hfz15_3
                    try clear hfz18_0 hfz18_1 hfz18_2 hfz18_3
                    try clear hfz21_0 hfz21_1 hfz21_2 hfz21_3
                    try clear hx224_0
                    try clear hx224_1
                    try clear hx224_2
                    try clear hx224_3
                    try clear hx224_4
                    try clear p2
                    try clear p224
                    try clear q224
                    obtain ⟨x14_3, x15_3, HA, HK3, HO_10, HO_14, HO_15, BK220, HB⟩ := hrel
                    cases gk with
                    | zero => exact absurd HA.out (by simp [cohousingref21_Order.l1])
                    | succ k3 =>
                      have H := HA.out
                      clear HA
                      simp only [cohousingref21_Order.l1] at H
                      by_cases c38 : (x15_3.length : Int) < (l1.length : Int)
                      · rw [if_pos c38] at H
                        have c38b0 : decide ((x15_3.length : Int) < (l1.length : Int)) = true := decide_eq_true c38
                        have c38b1 : decide (x15_3.length < l1.length) = true := decide_eq_true (Int.ofNat_lt.mp c38)
                        clear c38
                        have H' := Aside0.mk H
                        clear H
                        obtain ⟨Ao39, co39, eo39⟩ := Kd.R_slice HO_15.out
                        subst eo39
                        go_wp2
                        go_loopg [16, 17] k3 (fun kq v16 v17 w' => ∃ (x16_4 : Int) (x17_4 : Int), v16 = .int .i64 x16_4 ∧ v17 = .int .i64 x17_4 ∧ Aside0 (cohousingref21_Order.l2 kq l1 l3 x10_2 x14_3 x15_3 x16_4 x17_4 = some (r1, r2)) ∧ Aside0 (kq ≤ k3) ∧ Aside0 (Kd.R (Kd.int .i64) 3 w' w.heap.size (fun k_ => some k_ ≠ ((.slice Ao39 x15_3.length co39) : Value).ownBlock) u10 x10_2) ∧ Aside0 (Kd.R Kd.bool 4 w' w.heap.size (fun _ => True) v231 x14_3) ∧ Aside0 (Kd.R (Kd.int .i64) 3 w' w.heap.size (fun k_ => some k_ ≠ (u10 : Value).ownBlock) (.slice Ao39 x15_3.length co39) x15_3) ∧ Aside0 (w'.heap[gb220]? = some (.cells #[.int .i64 a0_0, .int .i64 a0_1, .int .i64 a0_2, .int .i64 a0_3] 23 (0, 0))) ∧ Aside0 (Below w.heap.size w w'))
                        case atStart => exact ⟨((-1)), (0), qs_, qs_, H', ⟨Nat.le_refl _⟩, ⟨by (with_reducible repeat (first | apply Kd.R_alloc | apply Kd.R_drewN | apply Kd.R_drew)); exact HO_10.out⟩, ⟨by (with_reducible repeat (first | apply Kd.R_alloc | apply Kd.R_drewN | apply Kd.R_drew)); exact HO_14.out⟩, ⟨by (with_reducible repeat (first | apply Kd.R_alloc | apply Kd.R_drewN | apply Kd.R_drew)); exact HO_15.out⟩, ⟨qk_ BK220⟩, ⟨qb_⟩⟩
                        case round =>
                          clear H'
                          try clear c1
                          try clear c2
                          try clear p2
                          try clear q2
                          try clear hx2
                          try clear c3
                          try clear p6
                          try clear c8
                          try clear c9
                          try clear c9b0
                          try clear c9b1
                          try clear c12
                          try clear c13
                          try clear c14
                          try clear p22
                          try clear q22
                          try clear hx22
                          try clear c23
                          try clear c24
                          try clear c24b0
                          try clear c25
                          try clear c25b0
                          try clear c27
                          try clear c27b0
                          try clear c27b1
                          try clear c28
                          try clear c34
                          try clear c34b0
                          try clear c34b1
                          try clear c35
                          try clear c35b0
                          try clear c35b1
                          try clear c38
                          try clear c38b0
                          try clear c38b1
                          try clear hcz10_0 hcz10_1 hcz10_2 hcz10_3
                          try clear hcz15_0 hcz15_1 hcz15_2 hcz15_3
                          try clear hcz18_0 hcz18_1 hcz18_2 hcz18_3
                          try clear hcz21_0 hcz21_1 hcz21_2 hcz21_3
                          try clear hfz10_0 hfz10_1 hfz10_2 hfz10_3
                          try clear hfz15_0 hfz15_1 hfz15_2 hfz15_3
                          try clear hfz18_0 hfz18_1 hfz18_2 hfz18_3
                          try clear hfz21_0 hfz21_1 hfz21_2 hfz21_3
                          try clear hx224_0
                          try clear hx224_1
                          try clear hx224_2
                          try clear hx224_3
                          try clear hx224_4
                          try clear p2
                          try clear p22
                          try clear p224
                          try clear p6
                          try clear q2
                          try clear q22
                          try clear q224
                          obtain ⟨x16_4, x17_4, rfl, rfl, HA, HK4, HO_10, HO_14, HO_15, BK220, HB⟩ := hrel
                          cases gk with
                          | zero => exact absurd HA.out (by simp [cohousingref21_Order.l2])
                          | succ k4 =>
                            have H := HA.out
                            clear HA
                            simp only [cohousingref21_Order.l2] at H
                            by_cases c40 : x17_4 < (l3.length : Int)
                            · rw [if_pos c40] at H
                              have c40b0 : decide (x17_4 < (l3.length : Int)) = true := decide_eq_true c40
                              clear c40
                              by_cases c41 : 0 ≤ x17_4
                              · rw [if_pos c41] at H
                                have c41b0 : decide (0 ≤ x17_4) = true := decide_eq_true c41
                                clear c41
                                have HC42 := Aside0.mk H
                                clear H
                                have p237 : 0 ≤ (x17_4 : Int) := of_decide_eq_true qa_
                                have q237 : x17_4 < (l3.length : Int) := of_decide_eq_true qa_
                                obtain ⟨ad237, e237, hx237_0⟩ := Kd.at_int HR3.out x17_4 p237 q237
                                cases e237
                                replace hx237_0 := qh_ HB hx237_0
                                replace p237 := eq_true p237
                                replace q237 := eq_true q237
                                go_upto_region 19 with (fail)
                                go_cut [100] (fun v100 wc => ∃ (kq : Nat) (x100_41 : Bool), v100 = .bool x100_41 ∧ Aside0 (cohousingref21_Order.j4 kq l1 l3 x10_2 x14_3 x15_3 x16_4 x17_4 (wrap64 ((rd l3 x17_4) - 1)) x100_41 = some (r1, r2)) ∧ Aside0 (kq ≤ k4) ∧ Aside0 (Kd.R (Kd.int .i64) 3 wc w.heap.size (fun k_ => some k_ ≠ ((.slice Ao39 x15_3.length co39) : Value).ownBlock) u10 x10_2) ∧ Aside0 (Kd.R Kd.bool 4 wc w.heap.size (fun _ => True) v231 x14_3) ∧ Aside0 (Kd.R (Kd.int .i64) 3 wc w.heap.size (fun k_ => some k_ ≠ (u10 : Value).ownBlock) (.slice Ao39 x15_3.length co39) x15_3) ∧ Aside0 (wc.heap[gb220]? = some (.cells #[.int .i64 a0_0, .int .i64 a0_1, .int .i64 a0_2, .int .i64 a0_3] 23 (0, 0))) ∧ Aside0 (Below w.heap.size w wc))
                                case first =>
                                  have H := HC42.out
                                  clear HC42
                                  obtain ⟨ji43, hji43⟩ : ∃ j_ : Int, (wrap64 ((rd l3 x17_4) - 1)) = j_ := ⟨_, rfl⟩
                                  replace H : (if 0 ≤ (ji43) then (if (ji43) < (x14_3.length : Int) then (if (rdOf false x14_3 (ji43) = true) then (cohousingref21_Order.j4 k4 l1 l3 x10_2 x14_3 x15_3 x16_4 x17_4 ji43 false) else (if x16_4 < 0 then (cohousingref21_Order.j4 k4 l1 l3 x10_2 x14_3 x15_3 x16_4 x17_4 ji43 true) else (if (ji43) < (x10_2.length : Int) then (if 0 ≤ x16_4 then (if x16_4 < (x10_2.length : Int) then (cohousingref21_Order.j4 k4 l1 l3 x10_2 x14_3 x15_3 x16_4 x17_4 ji43 (decide ((rd x10_2 (ji43)) > (rd x10_2 x16_4)))) else (none)) else (none)) else (none)))) else (none)) else (none)) = some (r1, r2) := by first | (rw [hji43] at H; exact H) | (simp only [hji43] at H ⊢; exact H)
                                  have hji43w : (IntKind.i64.wrap ((rd l3 x17_4) - 1)) = ji43 := (i64_w _).trans hji43
                                  by_cases c44 : 0 ≤ (ji43)
                                  · rw [if_pos c44] at H
                                    have c44b0 : decide (0 ≤ (ji43)) = true := decide_eq_true c44
                                    clear c44
                                    (first | rw [c44b0] | (simp only [i64_w, i32_w]; rw [c44b0]) | skip)
                                    by_cases c45 : (ji43) < (x14_3.length : Int)
                                    · rw [if_pos c45] at H
                                      have c45b0 : decide ((ji43) < (x14_3.length : Int)) = true := decide_eq_true c45
                                      clear c45
                                      obtain ⟨bq46, hbq46⟩ : ∃ b_ : Bool, b_ = (rdOf false x14_3 (ji43)) := ⟨_, rfl⟩
                                      replace H : (if (bq46 = true) then (cohousingref21_Order.j4 k4 l1 l3 x10_2 x14_3 x15_3 x16_4 x17_4 ji43 false) else (if x16_4 < 0 then (cohousingref21_Order.j4 k4 l1 l3 x10_2 x14_3 x15_3 x16_4 x17_4 ji43 true) else (if (ji43) < (x10_2.length : Int) then (if 0 ≤ x16_4 then (if x16_4 < (x10_2.length : Int) then (cohousingref21_Order.j4 k4 l1 l3 x10_2 x14_3 x15_3 x16_4 x17_4 ji43 (decide ((rd x10_2 (ji43)) > (rd x10_2 x16_4)))) else (none)) else (none)) else (none)))) = some (r1, r2) := by rw [← hbq46] at H; exact H
                                      have Nbq46 := Aside0.mk hbq46
                                      clear hbq46
                                      by_cases c47 : (bq46 = true)
                                      · subst c47
                                        have H1 : (cohousingref21_Order.j4 k4 l1 l3 x10_2 x14_3 x15_3 x16_4 x17_4 ji43 false) = some (r1, r2) := by rw [if_pos rfl] at H; exact H
                                        clear H
                                        have H := H1
                                        clear H1
                                        have H' := Aside0.mk H
                                        clear H
                                        try go_wp2
                                        replace HO_10 := Aside0.mk (Kd.R_drew HO_10.out)
                                        replace HO_14 := Aside0.mk (Kd.R_drew HO_14.out)
                                        replace HO_15 := Aside0.mk (Kd.R_drew HO_15.out)
                                        replace BK220 := Aside0.mk (blk_drew BK220.out)
                                        replace HB := Aside0.mk (below_drew1 HB.out)
                                        obtain ⟨Ao49, co49, eo49⟩ := Kd.R_slice HO_14.out
                                        (first | subst eo49 | (injection eo49 with f1_ f2_ f3_; have f4_ := f1_.symm; have f5_ := f3_.symm; clear f1_ f2_ f3_; subst f4_; subst f5_))
                                        have p238 : 0 ≤ ((ji43) : Int) := of_decide_eq_true qa_
                                        have q238 : (ji43) < (x14_3.length : Int) := of_decide_eq_true qa_
                                        obtain ⟨ad238, e238, hx238_0⟩ := Kd.at_bool (Kd.R_reads' HO_14.out).2.2 (ji43) p238 q238
                                        (try rw [← Nbq46.out] at hx238_0)
                                        cases e238
                                        replace p238 := eq_true p238
                                        replace q238 := eq_true q238
                                        refine start_ (n := 20) (S := fun w' => w'.cell? (ad238.add ((ji43)).toNat) = some (.bool true)) (ds := []) #[i_,i_,i_,i_,i_,i_,i_,i_,i_,i_,i_,i_,i_,i_,i_,i_,i_,i_,i_,i_] (by kernel_rfl) rfl rfl (hx238_0) (fun hHeld => ?_); refine with_tabW cohousingref21_Order.tab19 cohousingref21_Order.bits19 (fun HT_ HW_ => ?_)
                                        generalize wr.drew = w48 at HO_10 HO_14 HO_15 BK220 HB hx238_0 hHeld ⊢
                                        refine qpu_ 0 (some 81) #[o_,i_,i_,i_,i_,i_,i_,i_,i_,i_,i_,i_,i_,i_,i_,i_,i_,i_,i_,i_] ?_
                                        refine qpu_ 1 (some 82) #[o_,o_,i_,i_,i_,i_,i_,i_,i_,i_,i_,i_,i_,i_,i_,i_,i_,i_,i_,i_] ?_
                                        refine qpu_ 2 (some 83) #[o_,o_,o_,i_,i_,i_,i_,i_,i_,i_,i_,i_,i_,i_,i_,i_,i_,i_,i_,i_] ?_
                                        refine take_ (i := 3) (N := some 84) (v := ?_) (a' := ?_) #[o_,o_,o_,o_,i_,i_,i_,i_,i_,i_,i_,i_,i_,i_,i_,i_,i_,i_,i_,i_] rfl rfl (take_ofW HT_.out HW_.out (by kernel_rfl)) (fun _ _ _ h => h) (Or.inl ⟨by rfl, ?_⟩) hHeld ?_ ?_
                                        rotate_left
                                        · intro w' s0
                                          go_simp
                                          with_reducible rfl
                                        rotate_left
                                        · exact qp_
                                        refine qpu_ 4 (some 85) #[o_,o_,o_,o_,o_,i_,i_,i_,i_,i_,i_,i_,i_,i_,i_,i_,i_,i_,i_,i_] ?_
                                        refine qpu_ 5 (some 86) #[o_,o_,o_,o_,o_,o_,i_,i_,i_,i_,i_,i_,i_,i_,i_,i_,i_,i_,i_,i_] ?_
                                        refine qpv_ 6 (some 87) #[o_,o_,o_,o_,o_,o_,o_,i_,i_,i_,i_,i_,i_,i_,i_,i_,i_,i_,i_,i_] ?_
                                        refine qpv_ 7 (some 88) #[o_,o_,o_,o_,o_,o_,o_,o_,i_,i_,i_,i_,i_,i_,i_,i_,i_,i_,i_,i_] ?_
                                        refine qpv_ 8 (some 89) #[o_,o_,o_,o_,o_,o_,o_,o_,o_,i_,i_,i_,i_,i_,i_,i_,i_,i_,i_,i_] ?_
                                        refine qpv_ 9 (some 90) #[o_,o_,o_,o_,o_,o_,o_,o_,o_,o_,i_,i_,i_,i_,i_,i_,i_,i_,i_,i_] ?_
                                        refine qpv_ 10 (some 91) #[o_,o_,o_,o_,o_,o_,o_,o_,o_,o_,o_,i_,i_,i_,i_,i_,i_,i_,i_,i_] ?_
                                        refine qpv_ 11 (some 92) #[o_,o_,o_,o_,o_,o_,o_,o_,o_,o_,o_,o_,i_,i_,i_,i_,i_,i_,i_,i_] ?_
                                        refine qpv_ 12 (some 93) #[o_,o_,o_,o_,o_,o_,o_,o_,o_,o_,o_,o_,o_,i_,i_,i_,i_,i_,i_,i_] ?_
                                        refine qpv_ 13 (some 94) #[o_,o_,o_,o_,o_,o_,o_,o_,o_,o_,o_,o_,o_,o_,i_,i_,i_,i_,i_,i_] ?_
                                        refine qpv_ 14 (some 95) #[o_,o_,o_,o_,o_,o_,o_,o_,o_,o_,o_,o_,o_,o_,o_,i_,i_,i_,i_,i_] ?_
                                        refine qpv_ 15 (some 96) #[o_,o_,o_,o_,o_,o_,o_,o_,o_,o_,o_,o_,o_,o_,o_,o_,i_,i_,i_,i_] ?_
                                        refine qpv_ 16 (some 97) #[o_,o_,o_,o_,o_,o_,o_,o_,o_,o_,o_,o_,o_,o_,o_,o_,o_,i_,i_,i_] ?_
                                        refine qpv_ 17 (some 98) #[o_,o_,o_,o_,o_,o_,o_,o_,o_,o_,o_,o_,o_,o_,o_,o_,o_,o_,i_,i_] ?_
                                        refine qpv_ 18 (some 99) #[o_,o_,o_,o_,o_,o_,o_,o_,o_,o_,o_,o_,o_,o_,o_,o_,o_,o_,o_,i_] ?_
                                        refine qpu_ 19 (some 100) #[o_,o_,o_,o_,o_,o_,o_,o_,o_,o_,o_,o_,o_,o_,o_,o_,o_,o_,o_,o_] ?_
                                        refine done_ (done_of HT_.out (by kernel_rfl)) ?_
                                        try go_wp2
                                        try subst hji43
                                        go_meet
                                        case rel => exact ⟨_, (false), qs_, H', ⟨by have := HJ4.out; have := HK2.out; have := HK3.out; have := HK4.out; first | omega | exact Nat.le_refl _⟩, ⟨by (with_reducible repeat (first | apply Kd.R_alloc | apply Kd.R_drewN | apply Kd.R_drew)); exact HO_10.out⟩, ⟨by (with_reducible repeat (first | apply Kd.R_alloc | apply Kd.R_drewN | apply Kd.R_drew)); exact HO_14.out⟩, ⟨by (with_reducible repeat (first | apply Kd.R_alloc | apply Kd.R_drewN | apply Kd.R_drew)); exact HO_15.out⟩, ⟨qk_ BK220⟩, ⟨qb_⟩⟩
                                      · replace c47 := Bool.eq_false_iff.mpr c47
                                        subst c47
                                        have H1 : (if x16_4 < 0 then (cohousingref21_Order.j4 k4 l1 l3 x10_2 x14_3 x15_3 x16_4 x17_4 ji43 true) else (if (ji43) < (x10_2.length : Int) then (if 0 ≤ x16_4 then (if x16_4 < (x10_2.length : Int) then (cohousingref21_Order.j4 k4 l1 l3 x10_2 x14_3 x15_3 x16_4 x17_4 ji43 (decide ((rd x10_2 (ji43)) > (rd x10_2 x16_4)))) else (none)) else (none)) else (none))) = some (r1, r2) := by rw [if_neg (show ¬ (false = true) by decide)] at H; exact H
                                        clear H
                                        have H := H1
                                        clear H1
                                        by_cases c50 : x16_4 < 0
                                        · rw [if_pos c50] at H
                                          have c50b0 : decide (x16_4 < 0) = true := decide_eq_true c50
                                          clear c50
                                          have H' := Aside0.mk H
                                          clear H
                                          try go_wp2
                                          replace HO_10 := Aside0.mk (Kd.R_drew HO_10.out)
                                          replace HO_14 := Aside0.mk (Kd.R_drew HO_14.out)
                                          replace HO_15 := Aside0.mk (Kd.R_drew HO_15.out)
                                          replace BK220 := Aside0.mk (blk_drew BK220.out)
                                          replace HB := Aside0.mk (below_drew1 HB.out)
                                          obtain ⟨Ao52, co52, eo52⟩ := Kd.R_slice HO_14.out
                                          (first | subst eo52 | (injection eo52 with f1_ f2_ f3_; have f4_ := f1_.symm; have f5_ := f3_.symm; clear f1_ f2_ f3_; subst f4_; subst f5_))
                                          have p238 : 0 ≤ ((ji43) : Int) := of_decide_eq_true qa_
                                          have q238 : (ji43) < (x14_3.length : Int) := of_decide_eq_true qa_
                                          obtain ⟨ad238, e238, hx238_0⟩ := Kd.at_bool (Kd.R_reads' HO_14.out).2.2 (ji43) p238 q238
                                          (try rw [← Nbq46.out] at hx238_0)
                                          cases e238
                                          replace p238 := eq_true p238
                                          replace q238 := eq_true q238
                                          refine start_ (n := 20) (S := fun w' => w'.cell? (ad238.add ((ji43)).toNat) = some (.bool false)) (ds := []) #[i_,i_,i_,i_,i_,i_,i_,i_,i_,i_,i_,i_,i_,i_,i_,i_,i_,i_,i_,i_] (by kernel_rfl) rfl rfl (hx238_0) (fun hHeld => ?_); refine with_tabW cohousingref21_Order.tab19 cohousingref21_Order.bits19 (fun HT_ HW_ => ?_)
                                          generalize wr.drew = w51 at HO_10 HO_14 HO_15 BK220 HB hx238_0 hHeld ⊢
                                          refine qpu_ 0 (some 81) #[o_,i_,i_,i_,i_,i_,i_,i_,i_,i_,i_,i_,i_,i_,i_,i_,i_,i_,i_,i_] ?_
                                          refine qpu_ 1 (some 82) #[o_,o_,i_,i_,i_,i_,i_,i_,i_,i_,i_,i_,i_,i_,i_,i_,i_,i_,i_,i_] ?_
                                          refine qpu_ 2 (some 83) #[o_,o_,o_,i_,i_,i_,i_,i_,i_,i_,i_,i_,i_,i_,i_,i_,i_,i_,i_,i_] ?_
                                          refine take_ (i := 3) (N := some 84) (v := ?_) (a' := ?_) #[o_,o_,o_,o_,i_,i_,i_,i_,i_,i_,i_,i_,i_,i_,i_,i_,i_,i_,i_,i_] rfl rfl (take_ofW HT_.out HW_.out (by kernel_rfl)) (fun _ _ _ h => h) (Or.inl ⟨by rfl, ?_⟩) hHeld ?_ ?_
                                          rotate_left
                                          · intro w' s0
                                            go_simp
                                            with_reducible rfl
                                          rotate_left
                                          · exact qp_
                                          refine qpu_ 4 (some 85) #[o_,o_,o_,o_,o_,i_,i_,i_,i_,i_,i_,i_,i_,i_,i_,i_,i_,i_,i_,i_] ?_
                                          refine qpu_ 5 (some 86) #[o_,o_,o_,o_,o_,o_,i_,i_,i_,i_,i_,i_,i_,i_,i_,i_,i_,i_,i_,i_] ?_
                                          refine qpu_ 6 (some 87) #[o_,o_,o_,o_,o_,o_,o_,i_,i_,i_,i_,i_,i_,i_,i_,i_,i_,i_,i_,i_] ?_
                                          refine qpu_ 7 (some 88) #[o_,o_,o_,o_,o_,o_,o_,o_,i_,i_,i_,i_,i_,i_,i_,i_,i_,i_,i_,i_] ?_
                                          refine qpu_ 8 (some 89) #[o_,o_,o_,o_,o_,o_,o_,o_,o_,i_,i_,i_,i_,i_,i_,i_,i_,i_,i_,i_] ?_
                                          refine qpv_ 9 (some 90) #[o_,o_,o_,o_,o_,o_,o_,o_,o_,o_,i_,i_,i_,i_,i_,i_,i_,i_,i_,i_] ?_
                                          refine qpv_ 10 (some 91) #[o_,o_,o_,o_,o_,o_,o_,o_,o_,o_,o_,i_,i_,i_,i_,i_,i_,i_,i_,i_] ?_
                                          refine qpv_ 11 (some 92) #[o_,o_,o_,o_,o_,o_,o_,o_,o_,o_,o_,o_,i_,i_,i_,i_,i_,i_,i_,i_] ?_
                                          refine qpv_ 12 (some 93) #[o_,o_,o_,o_,o_,o_,o_,o_,o_,o_,o_,o_,o_,i_,i_,i_,i_,i_,i_,i_] ?_
                                          refine qpv_ 13 (some 94) #[o_,o_,o_,o_,o_,o_,o_,o_,o_,o_,o_,o_,o_,o_,i_,i_,i_,i_,i_,i_] ?_
                                          refine qpv_ 14 (some 95) #[o_,o_,o_,o_,o_,o_,o_,o_,o_,o_,o_,o_,o_,o_,o_,i_,i_,i_,i_,i_] ?_
                                          refine qpv_ 15 (some 96) #[o_,o_,o_,o_,o_,o_,o_,o_,o_,o_,o_,o_,o_,o_,o_,o_,i_,i_,i_,i_] ?_
                                          refine qpv_ 16 (some 97) #[o_,o_,o_,o_,o_,o_,o_,o_,o_,o_,o_,o_,o_,o_,o_,o_,o_,i_,i_,i_] ?_
                                          refine qpv_ 17 (some 98) #[o_,o_,o_,o_,o_,o_,o_,o_,o_,o_,o_,o_,o_,o_,o_,o_,o_,o_,i_,i_] ?_
                                          refine qpu_ 18 (some 99) #[o_,o_,o_,o_,o_,o_,o_,o_,o_,o_,o_,o_,o_,o_,o_,o_,o_,o_,o_,i_] ?_
                                          refine qpu_ 19 (some 100) #[o_,o_,o_,o_,o_,o_,o_,o_,o_,o_,o_,o_,o_,o_,o_,o_,o_,o_,o_,o_] ?_
                                          refine done_ (done_of HT_.out (by kernel_rfl)) ?_
                                          try go_wp2
                                          try subst hji43
                                          go_meet
                                          case rel => exact ⟨_, (true), qs_, H', ⟨by have := HJ4.out; have := HK2.out; have := HK3.out; have := HK4.out; first | omega | exact Nat.le_refl _⟩, ⟨by (with_reducible repeat (first | apply Kd.R_alloc | apply Kd.R_drewN | apply Kd.R_drew)); exact HO_10.out⟩, ⟨by (with_reducible repeat (first | apply Kd.R_alloc | apply Kd.R_drewN | apply Kd.R_drew)); exact HO_14.out⟩, ⟨by (with_reducible repeat (first | apply Kd.R_alloc | apply Kd.R_drewN | apply Kd.R_drew)); exact HO_15.out⟩, ⟨qk_ BK220⟩, ⟨qb_⟩⟩
                                        · rw [if_neg c50] at H
                                          have c50b0 : decide (x16_4 < 0) = false := decide_eq_false c50
                                          clear c50
                                          by_cases c53 : (ji43) < (x10_2.length : Int)
                                          · rw [if_pos c53] at H
                                            have c53b0 : decide ((ji43) < (x10_2.length : Int)) = true := decide_eq_true c53
                                            clear c53
                                            by_cases c54 : 0 ≤ x16_4
                                            · rw [if_pos c54] at H
                                              have c54b0 : decide (0 ≤ x16_4) = true := decide_eq_true c54
                                              clear c54
                                              by_cases c55 : x16_4 < (x10_2.length : Int)
                                              · rw [if_pos c55] at H
                                                have c55b0 : decide (x16_4 < (x10_2.length : Int)) = true := decide_eq_true c55
                                                clear c55
                                                have H' := Aside0.mk H
                                                clear H
                                                try go_wp2
                                                replace HO_10 := Aside0.mk (Kd.R_drew HO_10.out)
                                                replace HO_14 := Aside0.mk (Kd.R_drew HO_14.out)
                                                replace HO_15 := Aside0.mk (Kd.R_drew HO_15.out)
                                                replace BK220 := Aside0.mk (blk_drew BK220.out)
                                                replace HB := Aside0.mk (below_drew1 HB.out)
                                                obtain ⟨Ao57, co57, eo57⟩ := Kd.R_slice HO_14.out
                                                (first | subst eo57 | (injection eo57 with f1_ f2_ f3_; have f4_ := f1_.symm; have f5_ := f3_.symm; clear f1_ f2_ f3_; subst f4_; subst f5_))
                                                have p238 : 0 ≤ ((ji43) : Int) := of_decide_eq_true qa_
                                                have q238 : (ji43) < (x14_3.length : Int) := of_decide_eq_true qa_
                                                obtain ⟨ad238, e238, hx238_0⟩ := Kd.at_bool (Kd.R_reads' HO_14.out).2.2 (ji43) p238 q238
                                                (try rw [← Nbq46.out] at hx238_0)
                                                cases e238
                                                replace p238 := eq_true p238
                                                replace q238 := eq_true q238
                                                obtain ⟨Ao58, co58, eo58⟩ := Kd.R_slice HO_10.out
                                                (first | subst eo58 | (injection eo58 with f1_ f2_ f3_; have f4_ := f1_.symm; have f5_ := f3_.symm; clear f1_ f2_ f3_; subst f4_; subst f5_))
                                                have p239 : 0 ≤ ((ji43) : Int) := of_decide_eq_true qa_
                                                have q239 : (ji43) < (x10_2.length : Int) := of_decide_eq_true qa_
                                                obtain ⟨ad239, e239, hx239_0⟩ := Kd.at_int (Kd.R_reads' HO_10.out).2.2 (ji43) p239 q239
                                                cases e239
                                                replace p239 := eq_true p239
                                                replace q239 := eq_true q239
                                                have p240 : 0 ≤ (x16_4 : Int) := of_decide_eq_true qa_
                                                have q240 : x16_4 < (x10_2.length : Int) := of_decide_eq_true qa_
                                                obtain ⟨ad240, e240, hx240_0⟩ := Kd.at_int (Kd.R_reads' HO_10.out).2.2 x16_4 p240 q240
                                                obtain rfl : ad239 = ad240 := (by injection e240)
                                                replace p240 := eq_true p240
                                                replace q240 := eq_true q240
                                                refine start_ (n := 20) (S := fun w' => w'.cell? (ad238.add ((ji43)).toNat) = some (.bool false) ∧ w'.cell? (ad239.add ((ji43)).toNat) = some (.int .i64 (rd x10_2 (ji43))) ∧ w'.cell? (ad239.add (x16_4).toNat) = some (.int .i64 (rd x10_2 x16_4))) (ds := []) #[i_,i_,i_,i_,i_,i_,i_,i_,i_,i_,i_,i_,i_,i_,i_,i_,i_,i_,i_,i_] (by kernel_rfl) rfl rfl ⟨hx238_0, hx239_0, hx240_0⟩ (fun hHeld => ?_); refine with_tabW cohousingref21_Order.tab19 cohousingref21_Order.bits19 (fun HT_ HW_ => ?_)
                                                generalize wr.drew = w56 at HO_10 HO_14 HO_15 BK220 HB hx238_0 hx239_0 hx240_0 hHeld ⊢
                                                refine qpu_ 0 (some 81) #[o_,i_,i_,i_,i_,i_,i_,i_,i_,i_,i_,i_,i_,i_,i_,i_,i_,i_,i_,i_] ?_
                                                refine qpu_ 1 (some 82) #[o_,o_,i_,i_,i_,i_,i_,i_,i_,i_,i_,i_,i_,i_,i_,i_,i_,i_,i_,i_] ?_
                                                refine qpu_ 2 (some 83) #[o_,o_,o_,i_,i_,i_,i_,i_,i_,i_,i_,i_,i_,i_,i_,i_,i_,i_,i_,i_] ?_
                                                refine take_ (i := 3) (N := some 84) (v := ?_) (a' := ?_) #[o_,o_,o_,o_,i_,i_,i_,i_,i_,i_,i_,i_,i_,i_,i_,i_,i_,i_,i_,i_] rfl rfl (take_ofW HT_.out HW_.out (by kernel_rfl)) (fun _ _ _ h => h) (Or.inl ⟨by rfl, ?_⟩) hHeld ?_ ?_
                                                rotate_left
                                                · rintro w' ⟨s0, s1, s2⟩
                                                  go_simp
                                                  with_reducible rfl
                                                rotate_left
                                                · exact qp_
                                                refine qpu_ 4 (some 85) #[o_,o_,o_,o_,o_,i_,i_,i_,i_,i_,i_,i_,i_,i_,i_,i_,i_,i_,i_,i_] ?_
                                                refine qpu_ 5 (some 86) #[o_,o_,o_,o_,o_,o_,i_,i_,i_,i_,i_,i_,i_,i_,i_,i_,i_,i_,i_,i_] ?_
                                                refine qpu_ 6 (some 87) #[o_,o_,o_,o_,o_,o_,o_,i_,i_,i_,i_,i_,i_,i_,i_,i_,i_,i_,i_,i_] ?_
                                                refine qpu_ 7 (some 88) #[o_,o_,o_,o_,o_,o_,o_,o_,i_,i_,i_,i_,i_,i_,i_,i_,i_,i_,i_,i_] ?_
                                                refine qpu_ 8 (some 89) #[o_,o_,o_,o_,o_,o_,o_,o_,o_,i_,i_,i_,i_,i_,i_,i_,i_,i_,i_,i_] ?_
                                                refine qpu_ 9 (some 90) #[o_,o_,o_,o_,o_,o_,o_,o_,o_,o_,i_,i_,i_,i_,i_,i_,i_,i_,i_,i_] ?_
                                                refine qpu_ 10 (some 91) #[o_,o_,o_,o_,o_,o_,o_,o_,o_,o_,o_,i_,i_,i_,i_,i_,i_,i_,i_,i_] ?_
                                                refine qpu_ 11 (some 92) #[o_,o_,o_,o_,o_,o_,o_,o_,o_,o_,o_,o_,i_,i_,i_,i_,i_,i_,i_,i_] ?_
                                                refine qpu_ 13 (some 94) #[o_,o_,o_,o_,o_,o_,o_,o_,o_,o_,o_,o_,i_,o_,i_,i_,i_,i_,i_,i_] ?_
                                                refine qpu_ 14 (some 95) #[o_,o_,o_,o_,o_,o_,o_,o_,o_,o_,o_,o_,i_,o_,o_,i_,i_,i_,i_,i_] ?_
                                                refine qpu_ 15 (some 96) #[o_,o_,o_,o_,o_,o_,o_,o_,o_,o_,o_,o_,i_,o_,o_,o_,i_,i_,i_,i_] ?_
                                                refine take_ (i := 12) (N := some 93) (v := ?_) (a' := ?_) #[o_,o_,o_,o_,o_,o_,o_,o_,o_,o_,o_,o_,o_,o_,o_,o_,i_,i_,i_,i_] rfl rfl (take_ofW HT_.out HW_.out (by kernel_rfl)) (fun _ _ _ h => h) (Or.inl ⟨by rfl, ?_⟩) hHeld ?_ ?_
                                                rotate_left
                                                · rintro w' ⟨s0, s1, s2⟩
                                                  go_simp
                                                  with_reducible rfl
                                                rotate_left
                                                · exact qp_
                                                refine take_ (i := 16) (N := some 97) (v := ?_) (a' := ?_) #[o_,o_,o_,o_,o_,o_,o_,o_,o_,o_,o_,o_,o_,o_,o_,o_,o_,i_,i_,i_] rfl rfl (take_ofW HT_.out HW_.out (by kernel_rfl)) (fun _ _ _ h => h) (Or.inl ⟨by rfl, ?_⟩) hHeld ?_ ?_
                                                rotate_left
                                                · rintro w' ⟨s0, s1, s2⟩
                                                  go_simp
                                                  with_reducible rfl
                                                rotate_left
                                                · exact qp_
                                                refine qpu_ 17 (some 98) #[o_,o_,o_,o_,o_,o_,o_,o_,o_,o_,o_,o_,o_,o_,o_,o_,o_,o_,i_,i_] ?_
                                                refine qpu_ 18 (some 99) #[o_,o_,o_,o_,o_,o_,o_,o_,o_,o_,o_,o_,o_,o_,o_,o_,o_,o_,o_,i_] ?_
                                                refine qpu_ 19 (some 100) #[o_,o_,o_,o_,o_,o_,o_,o_,o_,o_,o_,o_,o_,o_,o_,o_,o_,o_,o_,o_] ?_
                                                refine done_ (done_of HT_.out (by kernel_rfl)) ?_
                                                try go_wp2
                                                try subst hji43
                                                go_meet
                                                case rel => exact ⟨_, (decide ((rd x10_2 ((wrap64 ((rd l3 x17_4) - 1)))) > (rd x10_2 x16_4))), (by first | rfl | (simp; done) | (simp only [← hji43] <;> (first | rfl | simp)) | (simp [*]; done)), H', ⟨by have := HJ4.out; have := HK2.out; have := HK3.out; have := HK4.out; first | omega | exact Nat.le_refl _⟩, ⟨by (with_reducible repeat (first | apply Kd.R_alloc | apply Kd.R_drewN | apply Kd.R_drew)); exact HO_10.out⟩, ⟨by (with_reducible repeat (first | apply Kd.R_alloc | apply Kd.R_drewN | apply Kd.R_drew)); exact HO_14.out⟩, ⟨by (with_reducible repeat (first | apply Kd.R_alloc | apply Kd.R_drewN | apply Kd.R_drew)); exact HO_15.out⟩, ⟨qk_ BK220⟩, ⟨qb_⟩⟩
                                              · rw [if_neg c55] at H
                                                exact absurd H (by simp)
                                            · rw [if_neg c54] at H
                                              exact absurd H (by simp)
                                          · rw [if_neg c53] at H
                                            exact absurd H (by simp)
                                    · rw [if_neg c45] at H
                                      exact absurd H (by simp)
                                  · rw [if_neg c44] at H
                                    exact absurd H (by simp)
                                case rest =>
                                  clear HC42
                                  try clear p2
                                  try clear q2
                                  try clear hx2
                                  try clear c4
                                  try clear q4
                                  try clear c5
                                  try clear p6
                                  try clear q22
                                  try clear p23
                                  try clear q23
                                  try clear hx23
                                  try clear p24
                                  try clear q24
                                  try clear hx24
                                  try clear c40
                                  try clear c40b0
                                  try clear c41
                                  try clear c41b0
                                  try clear c44
                                  try clear c44b0
                                  try clear c45
                                  try clear c45b0
                                  try clear q46
                                  try clear c47
                                  try clear c50
                                  try clear c50b0
                                  try clear c53
                                  try clear c53b0
                                  try clear c54
                                  try clear c54b0
                                  try clear c55
                                  try clear c55b0
                                  try clear hx237_0
                                  try clear hx238_0
                                  try clear hx239_0
                                  try clear hx240_0
                                  try clear p237
                                  try clear p238
                                  try clear p239
                                  try clear p240
                                  try clear p6
                                  try clear q2
                                  try clear q22
                                  try clear q224
                                  try clear q237
                                  try clear q238
                                  try clear q239
                                  try clear q240
                                  obtain ⟨kq, x100_41, rfl, HA, HJ41, HO_10, HO_14, HO_15, BK220, HB⟩ := hcut
                                  cases kq with
                                  | zero => exact absurd HA.out (by simp [cohousingref21_Order.j4])
                                  | succ kj41 =>
                                    have H := HA.out
                                    clear HA
                                    simp only [cohousingref21_Order.j4] at H
                                    by_cases c59 : x100_41 = true
                                    · subst c59
                                      have H1 : (cohousingref21_Order.l2 kj41 l1 l3 x10_2 x14_3 x15_3 (wrap64 ((rd l3 x17_4) - 1)) (wrap64 (x17_4 + 1))) = some (r1, r2) := by rw [if_pos rfl] at H; exact H
                                      clear H
                                      have H := H1
                                      clear H1
                                      have H' := Aside0.mk H
                                      clear H
                                      go_wp2
                                      go_roundg kj41
                                      case measure => have := HJ4.out; have := HK2.out; have := HK3.out; have := HK4.out; have := HJ41.out; omega
                                      case rel => exact ⟨((wrap64 ((rd l3 x17_4) - 1))), (wrap64 (x17_4 + 1)), qs_, qs_, H', ⟨by have := HJ4.out; have := HK2.out; have := HK3.out; have := HK4.out; have := HJ41.out; omega⟩, ⟨by (with_reducible repeat (first | apply Kd.R_alloc | apply Kd.R_drewN | apply Kd.R_drew)); exact HO_10.out⟩, ⟨by (with_reducible repeat (first | apply Kd.R_alloc | apply Kd.R_drewN | apply Kd.R_drew)); exact HO_14.out⟩, ⟨by (with_reducible repeat (first | apply Kd.R_alloc | apply Kd.R_drewN | apply Kd.R_drew)); exact HO_15.out⟩, ⟨qk_ BK220⟩, ⟨qb_⟩⟩
                                    · replace c59 := Bool.eq_false_iff.mpr c59
                                      subst c59
                                      have H1 : (cohousingref21_Order.l2 kj41 l1 l3 x10_2 x14_3 x15_3 x16_4 (wrap64 (x17_4 + 1))) = some (r1, r2) := by rw [if_neg (show ¬ (false = true) by decide)] at H; exact H
                                      clear H
                                      have H := H1
                                      clear H1
                                      have H' := Aside0.mk H
                                      clear H
                                      go_wp2
                                      go_roundg kj41
                                      case measure => have := HJ4.out; have := HK2.out; have := HK3.out; have := HK4.out; have := HJ41.out; omega
                                      case rel => exact ⟨(x16_4), (wrap64 (x17_4 + 1)), qs_, qs_, H', ⟨by have := HJ4.out; have := HK2.out; have := HK3.out; have := HK4.out; have := HJ41.out; omega⟩, ⟨by (with_reducible repeat (first | apply Kd.R_alloc | apply Kd.R_drewN | apply Kd.R_drew)); exact HO_10.out⟩, ⟨by (with_reducible repeat (first | apply Kd.R_alloc | apply Kd.R_drewN | apply Kd.R_drew)); exact HO_14.out⟩, ⟨by (with_reducible repeat (first | apply Kd.R_alloc | apply Kd.R_drewN | apply Kd.R_drew)); exact HO_15.out⟩, ⟨qk_ BK220⟩, ⟨qb_⟩⟩
                              · rw [if_neg c41] at H
                                exact absurd H (by simp)
                            · rw [if_neg c40] at H
                              have c40b0 : decide (x17_4 < (l3.length : Int)) = false := decide_eq_false c40
                              clear c40
                              by_cases c60 : 0 ≤ x16_4
                              · rw [if_pos c60] at H
                                have c60b0 : decide (0 ≤ x16_4) = true := decide_eq_true c60
                                clear c60
                                by_cases c61 : x16_4 < (x14_3.length : Int)
                                · rw [if_pos c61] at H
                                  have c61b0 : decide (x16_4 < (x14_3.length : Int)) = true := decide_eq_true c61
                                  clear c61
                                  obtain ⟨y233, hy233⟩ : ∃ y_ : List Bool, y_ = (x14_3.set (x16_4 : Int).toNat true) := ⟨_, rfl⟩
                                  replace H : (if x15_3.length < 17592186044416 then (cohousingref21_Order.l1 k4 l1 l3 x10_2 y233 (x15_3 ++ [x16_4])) else (none)) = some (r1, r2) := by first | (rw [hy233]; with_reducible exact H) | (have H2_ := (Option.bind_some _ _).symm.trans H; rw [hy233]; with_reducible exact H2_) | (have H2_ := (Option.bind_some _ _).symm.trans H; with_reducible exact H2_) | with_reducible exact H | (rw [hy233]; exact H) | exact H
                                  have Ny233 := Aside0.mk hy233
                                  clear hy233
                                  by_cases c63 : x15_3.length < 17592186044416
                                  · rw [if_pos c63] at H
                                    have LMc63 := Aside0.mk c63
                                    clear c63
                                    obtain ⟨y234, hy234⟩ : ∃ y_ : List Int, y_ = (x15_3 ++ [x16_4]) := ⟨_, rfl⟩
                                    replace H : (cohousingref21_Order.l1 k4 l1 l3 x10_2 y233 y234) = some (r1, r2) := by first | (rw [hy234]; with_reducible exact H) | (have H2_ := (Option.bind_some _ _).symm.trans H; rw [hy234]; with_reducible exact H2_) | (have H2_ := (Option.bind_some _ _).symm.trans H; with_reducible exact H2_) | with_reducible exact H | (rw [hy234]; exact H) | exact H
                                    have Ny234 := Aside0.mk hy234
                                    clear hy234
                                    have H' := Aside0.mk H
                                    clear H
                                    have p62 : 0 ≤ (x16_4 : Int) := of_decide_eq_true qa_
                                    have q62 : (x16_4 : Int) < ((x14_3.length : Int) : Int) := of_decide_eq_true qa_
                                    obtain ⟨go62, co62, eo62, gb62, gl62, cl62, HG62⟩ := Kd.R_form HO_14.out (by omega)
                                    (first | cases eo62 | (injection eo62 with ea_ en_ ec_; (first | subst ea_ | (injection ea_ with ea_; subst ea_)); subst ec_; clear en_))
                                    have GB62 := Aside0.mk gb62
                                    have GG62 := Aside0.mk HG62
                                    clear gb62 gl62 HG62
                                    obtain ⟨hx62_0, hf62_0⟩ := Kd.R_celln false HO_14.out (x16_4 : Int) p62 q62
                                    replace p62 := eq_true p62
                                    replace q62 := eq_true q62
                                    have HP64 := Kd.R_putg HO_14.out (x16_4 : Int) true
                                    go_wp2_with (first | ((with_reducible refine gate_store (t := 4) (p := 104) rfl ?_); refine store_event (t := 4) (p := 104) (v := ?vo_w65) (w1 := (wr.setCell ⟨go62, (x16_4 : Int).toNat, none⟩ (.bool true))) ?hg ?ho ?hn ?hr ?_; (case ho => rfl); (case hg => rfl); (case hn => rfl); (case hr => exact qq_); intro w65 hw; have hg : wr.grownBy w65 (some go62) := (by rw [hw]; exact HP64.2); have hp_ : Kd.R Kd.bool 4 w65 w.heap.size (fun _ => True) (.slice (some ⟨go62, 0, none⟩) x14_3.length co62) y233 := (by rw [hw, Ny233.out]; exact HP64.1); clear HP64; replace HO_10 := Aside0.mk (Kd.R_over' (v := (.slice (some ⟨go62, 0, none⟩) x14_3.length co62)) (qr_ HO_10) (Kd.R_typed HO_14.out) (by decide) hg); replace HO_15 := Aside0.mk (Kd.R_over' (v := (.slice (some ⟨go62, 0, none⟩) x14_3.length co62)) (qr_ HO_15) (Kd.R_typed HO_14.out) (by decide) hg); replace BK220 := Aside0.mk (blk_grown (g := gb220) (o := .cells #[.int .i64 a0_0, .int .i64 a0_1, .int .i64 a0_2, .int .i64 a0_3] 23 (0, 0)) (qk_ BK220) hg (Kd.R_ne HO_14.out BK220.out (by decide))); replace HO_14 := Aside0.mk (hp_); replace HB := Aside0.mk ((by rw [hw]; exact below_set (HB.out) GB62.out : Below w.heap.size w w65)); clear hg hw hp_) | ((with_reducible refine gate_builtin (b := .append) (xs := #[.tmp 105, .tmp 107]) rfl ?_); (try (refine gate_guard (by rfl) ?_; dsimp only)); at_builtin; refine Kd.R_append (Kd.int .i64) (w0 := w) w.heap.size rfl (.tmp 105) (.tmp 107) 27 3 (.int .i64 0) 8 rfl Tryd.underlying27 info3 rfl (by decide) (by omega) (.slice Ao39 x15_3.length co39) x15_3 x16_4 [.int .i64 x16_4] (fun k_ => some k_ ≠ (u10 : Value).ownBlock) (fun _ => False) rfl rfl ?aP (fun _ hk => hk.elim) ?aF ?aO ?aB ?aS ?aL ?_; (case aP => exact rfl); (case aB => exact qb_); (case aF => exact (fun k_ hk => Kd.fresh' (Kd.R_lt (qr_ HO_10)) k_ hk)); (case aO => exact (qr_ HO_15)); (case aS => exact (below_size qb_)); (case aL => have := LMc63.out; omega); intro v235 w66 ho hb hg hat; rw [← Ny234.out] at ho; replace HO_10 := Aside0.mk (Kd.R_after (ok := (fun _ => True)) (by (with_reducible repeat (first | apply Kd.R_alloc | apply Kd.R_drewN | apply Kd.R_drew)); exact Kd.R_mono HO_10.out (fun _ hk => ⟨trivial, hk⟩)) hg hat); replace HO_14 := Aside0.mk (Kd.R_over' (qr_ HO_14) (Kd.R_typed (qr_ HO_15)) (by decide) hg); replace BK220 := Aside0.mk (blk_grown (g := gb220) (o := .cells #[.int .i64 a0_0, .int .i64 a0_1, .int .i64 a0_2, .int .i64 a0_3] 23 (0, 0)) (qk_ BK220) hg (Kd.R_ne HO_15.out BK220.out (by decide))); replace HB := Aside0.mk (hb); have HO236 := Aside0.mk (ho); clear HO_15 ho hb hg hat))
                                    go_roundg k4
                                    case measure => have := HJ4.out; have := HK2.out; have := HK3.out; have := HK4.out; omega
                                    case rel => exact ⟨(y233), (y234), H', ⟨by have := HJ4.out; have := HK2.out; have := HK3.out; have := HK4.out; omega⟩, ⟨by (with_reducible repeat (first | apply Kd.R_alloc | apply Kd.R_drewN | apply Kd.R_drew)); exact Kd.R_mono HO_10.out (fun _ hk => hk.2)⟩, ⟨by (with_reducible repeat (first | apply Kd.R_alloc | apply Kd.R_drewN | apply Kd.R_drew)); exact HO_14.out⟩, ⟨by (with_reducible repeat (first | apply Kd.R_alloc | apply Kd.R_drewN | apply Kd.R_drew)); exact HO236.out⟩, ⟨qk_ BK220⟩, ⟨qb_⟩⟩
                                  · rw [if_neg c63] at H
                                    exact absurd H (by simp)
                                · rw [if_neg c61] at H
                                  exact absurd H (by simp)
                              · rw [if_neg c60] at H
                                exact absurd H (by simp)
                      · rw [if_neg c38] at H
                        have c38b0 : decide ((x15_3.length : Int) < (l1.length : Int)) = false := decide_eq_false c38
                        have c38b1 : decide (x15_3.length < l1.length) = false := decide_eq_false (fun h => c38 (Int.ofNat_lt.mpr h))
                        clear c38
                        simp only [Option.some.injEq, Prod.mk.injEq] at H
                        obtain ⟨rfl, rfl⟩ := H
                        obtain ⟨Ao67, co67, eo67⟩ := Kd.R_slice HO_15.out
                        subst eo67
                        go_wp2
                        go_ret2
                        exact ⟨_, qx_, by (with_reducible repeat (first | apply Kd.R_alloc | apply Kd.R_drewN | apply Kd.R_drew)); exact Kd.R_mono HO_15.out (fun _ hk => trivial), qb_⟩
                · rw [if_neg c35] at H
                  exact absurd H (by simp)
              · rw [if_neg c34] at H
                exact absurd H (by simp)

end Go.Proofs.YtfhmbfadbfnnaaaDoor.Px
