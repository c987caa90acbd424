/- Contracts of Go functions, written by a program of this session's own (wip/tools/myprint.py) out of the translation: each Go function does what the Lean function of its name says. Conditions: as each theorem states. -/
import Derived.Test.YtfhmbfadbfnnaaaDoorPx0
import Derived.Test.YtfhmbfadbfnnaaaDoorPx8
namespace Go.Proofs.YtfhmbfadbfnnaaaDoor.Px
open Go.Proofs.YtfhmbfadbfnnaaaDoor.Given
open Go.RowKit Go.Proofs.YtfhmbfadbfnnaaaDoorW.PrintWords Go.Proofs.YtfhmbfadbfnnaaaDoorW.PrintLast Go.Proofs.YtfhmbfadbfnnaaaDoorW.PrintMore
attribute [local go_sem] max2_int min2_int max_two min_two max_three min_three max_four min_four   -- for this text's walks alone
set_option linter.unusedVariables false
set_option linter.unusedSimpArgs false

/-! ### cohousingref21_apart: function 33 -/
mutual
def cohousingref21_apart.l0 : Nat → List (S25) → Int → Option (Bool)
  | 0, _, _ => none
  | k + 1, x0, x3 => if x3 < (x0.length : Int) then (if 0 ≤ x3 then ((cohousingref21_Wait.f ((rd_T25 x0 x3).f0) ((rd_T25 x0 x3).f1) ((rd_T25 x0 x3).f2) ((rd_T25 x0 x3).f3) ((rd_T25 x0 x3).f4)).bind fun t215 => (if t215 = true then (cohousingref21_apart.l1 k x0 x3 0) else (some false))) else (none)) else (some true)
def cohousingref21_apart.l1 : Nat → List (S25) → Int → Int → Option (Bool)
  | 0, _, _, _ => none
  | k + 1, x0, x3, x4 => if x4 < x3 then (if 0 ≤ x4 then (if x4 < (x0.length : Int) then (if 0 ≤ x3 then (if x3 < (x0.length : Int) then (if ((rd_T25 x0 x4).f0) = ((rd_T25 x0 x3).f0) then (some false) else (cohousingref21_apart.l1 k x0 x3 (wrap64 (x4 + 1)))) else (none)) else (none)) else (none)) else (none)) else (cohousingref21_apart.l0 k x0 (wrap64 (x3 + 1)))
end
def cohousingref21_apart.f (k : Nat) (l0 : List (S25)) : Option (Bool) := cohousingref21_apart.l0 k l0 0
theorem cohousingref21_apart.mono_l : ∀ k, (∀ y0 y1, LeO (cohousingref21_apart.l0 k y0 y1) (cohousingref21_apart.l0 (k + 1) y0 y1)) ∧ (∀ y0 y1 y2, LeO (cohousingref21_apart.l1 k y0 y1 y2) (cohousingref21_apart.l1 (k + 1) y0 y1 y2))
  | 0 => ⟨fun _ _ r h => by simp [cohousingref21_apart.l0] at h, fun _ _ _ r h => by simp [cohousingref21_apart.l1] at h⟩
  | k + 1 => by
    obtain ⟨ih0, ih1⟩ := cohousingref21_apart.mono_l k
    refine ⟨?_, ?_⟩
    · intro y0 y1
      unfold cohousingref21_apart.l0
      with_reducible (repeat' first | apply ih0 | apply ih1 | apply LeO.refl | apply LeO.none | apply LeO.ite | refine LeO.bind ?_ (fun _ => ?_))
    · intro y0 y1 y2
      unfold cohousingref21_apart.l1
      with_reducible (repeat' first | apply ih0 | apply ih1 | apply LeO.refl | apply LeO.none | apply LeO.ite | refine LeO.bind ?_ (fun _ => ?_))
theorem cohousingref21_apart.mono : ∀ a0 k, LeO (cohousingref21_apart.f k a0) (cohousingref21_apart.f (k + 1) a0) := by
  intro a0 k
  obtain ⟨ih0, ih1⟩ := cohousingref21_apart.mono_l k
  unfold cohousingref21_apart.f
  with_reducible (repeat' first | apply ih0 | apply ih1 | apply LeO.refl | apply LeO.none | apply LeO.ite | refine LeO.bind ?_ (fun _ => ?_))
set_option maxHeartbeats 8000000 in
set_option maxRecDepth 100000 in
theorem cohousingref21_apart.calls (k : Nat) (A0 : Option Addr) (c0 : Nat) (l0 : List (S25)) (r : Bool) (w : World) (hr0 : Kd.C k25 w A0 l0.length l0) (hc0 : l0.length ≤ c0) (h : cohousingref21_apart.f k l0 = some r) :
    Calls Tryd.prog 33 #[.slice A0 l0.length c0] w fun e w' => e = .returned (.bool r) ∧ Below w.heap.size w w' := by
  have hu25 := Tryd.underlying25
  have HR0 := Aside0.mk hr0
  have HC0 := Aside0.mk hc0
  clear hr0 hc0
  have HB := Aside0.mk (Below.refl w.heap.size w)
  have H : (cohousingref21_apart.l0 k l0 0) = some r := h
  clear h
  have H' := Aside0.mk H
  clear H
  go_enter Tryd.func33, Tryd.ntmps33
  go_wp2
  repeat (go_quiet (fail); try go_wp2)
  go_loopg [3] k (fun kq v3 w' => ∃ (x3_1 : Int), v3 = .int .i64 x3_1 ∧ Aside0 (cohousingref21_apart.l0 kq l0 x3_1 = some r) ∧ Aside0 (kq ≤ k) ∧ Aside0 (Below w.heap.size w w'))
  case atStart => exact ⟨(0), qs_, H', ⟨Nat.le_refl _⟩, ⟨qb_⟩⟩
  case round =>
    clear H'
    obtain ⟨x3_1, rfl, HA, HK1, HB⟩ := hrel
    cases gk with
    | zero => exact absurd HA.out (by simp [cohousingref21_apart.l0])
    | succ k1 =>
      have H := HA.out
      clear HA
      simp only [cohousingref21_apart.l0] at H
      by_cases c2 : x3_1 < (l0.length : Int)
      · rw [if_pos c2] at H
        have c2b0 : decide (x3_1 < (l0.length : Int)) = true := decide_eq_true c2
        clear c2
        by_cases c3 : 0 ≤ x3_1
        · rw [if_pos c3] at H
          have c3b0 : decide (0 ≤ x3_1) = true := decide_eq_true c3
          clear c3
          replace H := Option.bind_eq_some_iff.mp H
          obtain ⟨t215, A40, H⟩ := H
          replace H : (if t215 = true then (cohousingref21_apart.l1 k1 l0 x3_1 0) else (some false)) = some r := H
          have A4 := Aside0.mk A40
          clear A40
          by_cases c5 : t215 = true
          · subst c5
            have H1 : (cohousingref21_apart.l1 k1 l0 x3_1 0) = some r := by rw [if_pos rfl] at H; exact H
            clear H
            have H := H1
            clear H1
            have H' := Aside0.mk H
            clear H
            have p214 : 0 ≤ (x3_1 : Int) := of_decide_eq_true qa_
            have q214 : x3_1 < (l0.length : Int) := of_decide_eq_true qa_
            obtain ⟨ad214, e214, hx214_0, hx214_1, hx214_2, hx214_3, hx214_4⟩ := at_T25 HR0.out x3_1 p214 q214
            cases e214
            replace hx214_0 := qh_ HB hx214_0
            replace hx214_1 := qh_ HB hx214_1
            replace hx214_2 := qh_ HB hx214_2
            replace hx214_3 := qh_ HB hx214_3
            replace hx214_4 := qh_ HB hx214_4
            replace p214 := eq_true p214
            replace q214 := eq_true q214
            go_wp2_with (first | (go_at_call 16; (with_reducible refine (cohousingref21_Wait.calls ((rd_T25 l0 x3_1).f0) ((rd_T25 l0 x3_1).f1) ((rd_T25 l0 x3_1).f2) ((rd_T25 l0 x3_1).f3) ((rd_T25 l0 x3_1).f4) true _ A4.out).mono ?_); rintro e w6 ⟨rfl, hb⟩; replace HB := qbs_ hb; (try clear hb); (try clear hb2); (try clear hk); (try clear hi)))
            repeat (go_quiet (first | (go_at_call 16; (with_reducible refine (cohousingref21_Wait.calls ((rd_T25 l0 x3_1).f0) ((rd_T25 l0 x3_1).f1) ((rd_T25 l0 x3_1).f2) ((rd_T25 l0 x3_1).f3) ((rd_T25 l0 x3_1).f4) true _ A4.out).mono ?_); rintro e w6 ⟨rfl, hb⟩; replace HB := qbs_ hb; (try clear hb); (try clear hb2); (try clear hk); (try clear hi))); try go_wp2_with (first | (go_at_call 16; (with_reducible refine (cohousingref21_Wait.calls ((rd_T25 l0 x3_1).f0) ((rd_T25 l0 x3_1).f1) ((rd_T25 l0 x3_1).f2) ((rd_T25 l0 x3_1).f3) ((rd_T25 l0 x3_1).f4) true _ A4.out).mono ?_); rintro e w6 ⟨rfl, hb⟩; replace HB := qbs_ hb; (try clear hb); (try clear hb2); (try clear hk); (try clear hi))))
            go_loopg [4] k1 (fun kq v4 w' => ∃ (x4_2 : Int), v4 = .int .i64 x4_2 ∧ Aside0 (cohousingref21_apart.l1 kq l0 x3_1 x4_2 = some r) ∧ Aside0 (kq ≤ k1) ∧ Aside0 (Below w.heap.size w w'))
            case atStart => exact ⟨(0), qs_, H', ⟨Nat.le_refl _⟩, ⟨qb_⟩⟩
            case round =>
              clear H'
              try clear c2
              try clear c2b0
              try clear p2
              try clear q2
              try clear hx2
              try clear c3
              try clear c3b0
              try clear c5
              try clear hx214_0
              try clear hx214_1
              try clear hx214_2
              try clear hx214_3
              try clear hx214_4
              try clear p214
              try clear q214
              obtain ⟨x4_2, rfl, HA, HK2, HB⟩ := hrel
              cases gk with
              | zero => exact absurd HA.out (by simp [cohousingref21_apart.l1])
              | succ k2 =>
                have H := HA.out
                clear HA
                simp only [cohousingref21_apart.l1] at H
                by_cases c7 : x4_2 < x3_1
                · rw [if_pos c7] at H
                  have c7b0 : decide (x4_2 < x3_1) = true := decide_eq_true c7
                  clear c7
                  by_cases c8 : 0 ≤ x4_2
                  · rw [if_pos c8] at H
                    have c8b0 : decide (0 ≤ x4_2) = true := decide_eq_true c8
                    clear c8
                    by_cases c9 : x4_2 < (l0.length : Int)
                    · rw [if_pos c9] at H
                      have c9b0 : decide (x4_2 < (l0.length : Int)) = true := decide_eq_true c9
                      clear c9
                      by_cases c10 : 0 ≤ x3_1
                      · rw [if_pos c10] at H
                        have c10b0 : decide (0 ≤ x3_1) = true := decide_eq_true c10
                        clear c10
                        by_cases c11 : x3_1 < (l0.length : Int)
                        · rw [if_pos c11] at H
                          have c11b0 : decide (x3_1 < (l0.length : Int)) = true := decide_eq_true c11
                          clear c11
                          by_cases c12 : ((rd_T25 l0 x4_2).f0) = ((rd_T25 l0 x3_1).f0)
                          · rw [if_pos c12] at H
                            have c12b0 : (((rd_T25 l0 x4_2).f0) == ((rd_T25 l0 x3_1).f0)) = true := beq_iff_eq.mpr c12
                            have c12b1 : (((rd_T25 l0 x4_2).f0) != ((rd_T25 l0 x3_1).f0)) = false := bne_eq_false_iff_eq.mpr c12
                            clear c12
                            obtain rfl := Option.some.inj H
                            have p216 : 0 ≤ (x4_2 : Int) := of_decide_eq_true qa_
                            have q216 : x4_2 < (l0.length : Int) := of_decide_eq_true qa_
                            obtain ⟨ad216, e216, hx216_0, hx216_1, hx216_2, hx216_3, hx216_4⟩ := at_T25 HR0.out x4_2 p216 q216
                            obtain rfl : ad214 = ad216 := (by injection e216)
                            replace hx216_0 := qh_ HB hx216_0
                            replace hx216_1 := qh_ HB hx216_1
                            replace hx216_2 := qh_ HB hx216_2
                            replace hx216_3 := qh_ HB hx216_3
                            replace hx216_4 := qh_ HB hx216_4
                            replace p216 := eq_true p216
                            replace q216 := eq_true q216
                            have p217 : 0 ≤ (x3_1 : Int) := of_decide_eq_true qa_
                            have q217 : x3_1 < (l0.length : Int) := of_decide_eq_true qa_
                            obtain ⟨ad217, e217, hx217_0, hx217_1, hx217_2, hx217_3, hx217_4⟩ := at_T25 HR0.out x3_1 p217 q217
                            obtain rfl : ad214 = ad217 := (by injection e217)
                            replace hx217_0 := qh_ HB hx217_0
                            replace hx217_1 := qh_ HB hx217_1
                            replace hx217_2 := qh_ HB hx217_2
                            replace hx217_3 := qh_ HB hx217_3
                            replace hx217_4 := qh_ HB hx217_4
                            replace p217 := eq_true p217
                            replace q217 := eq_true q217
                            go_wp2
                            repeat (go_quiet (fail); try go_wp2)
                            go_ret
                            exact ⟨qx_, qb_⟩
                          · rw [if_neg c12] at H
                            have c12b0 : (((rd_T25 l0 x4_2).f0) == ((rd_T25 l0 x3_1).f0)) = false := beq_eq_false_iff_ne.mpr c12
                            have c12b1 : (((rd_T25 l0 x4_2).f0) != ((rd_T25 l0 x3_1).f0)) = true := bne_iff_ne.mpr c12
                            have H' := Aside0.mk H
                            clear H
                            have p216 : 0 ≤ (x4_2 : Int) := of_decide_eq_true qa_
                            have q216 : x4_2 < (l0.length : Int) := of_decide_eq_true qa_
                            obtain ⟨ad216, e216, hx216_0, hx216_1, hx216_2, hx216_3, hx216_4⟩ := at_T25 HR0.out x4_2 p216 q216
                            obtain rfl : ad214 = ad216 := (by injection e216)
                            replace hx216_0 := qh_ HB hx216_0
                            replace hx216_1 := qh_ HB hx216_1
                            replace hx216_2 := qh_ HB hx216_2
                            replace hx216_3 := qh_ HB hx216_3
                            replace hx216_4 := qh_ HB hx216_4
                            replace p216 := eq_true p216
                            replace q216 := eq_true q216
                            have p217 : 0 ≤ (x3_1 : Int) := of_decide_eq_true qa_
                            have q217 : x3_1 < (l0.length : Int) := of_decide_eq_true qa_
                            obtain ⟨ad217, e217, hx217_0, hx217_1, hx217_2, hx217_3, hx217_4⟩ := at_T25 HR0.out x3_1 p217 q217
                            obtain rfl : ad214 = ad217 := (by injection e217)
                            replace hx217_0 := qh_ HB hx217_0
                            replace hx217_1 := qh_ HB hx217_1
                            replace hx217_2 := qh_ HB hx217_2
                            replace hx217_3 := qh_ HB hx217_3
                            replace hx217_4 := qh_ HB hx217_4
                            replace p217 := eq_true p217
                            replace q217 := eq_true q217
                            go_wp2
                            repeat (go_quiet (fail); try go_wp2)
                            go_roundg k2
                            case measure => have := HK1.out; have := HK2.out; omega
                            case rel => exact ⟨(wrap64 (x4_2 + 1)), qs_, H', ⟨by have := HK1.out; have := HK2.out; omega⟩, ⟨qb_⟩⟩
                        · rw [if_neg c11] at H
                          exact absurd H (by simp)
                      · rw [if_neg c10] at H
                        exact absurd H (by simp)
                    · rw [if_neg c9] at H
                      exact absurd H (by simp)
                  · rw [if_neg c8] at H
                    exact absurd H (by simp)
                · rw [if_neg c7] at H
                  have c7b0 : decide (x4_2 < x3_1) = false := decide_eq_false c7
                  clear c7
                  have H' := Aside0.mk H
                  clear H
                  go_wp2
                  repeat (go_quiet (fail); try go_wp2)
                  go_roundg k2
                  case measure => have := HK1.out; have := HK2.out; omega
                  case rel => exact ⟨(wrap64 (x3_1 + 1)), qs_, H', ⟨by have := HK1.out; have := HK2.out; omega⟩, ⟨qb_⟩⟩
          · replace c5 := Bool.eq_false_iff.mpr c5
            subst c5
            have H1 : (some false) = some r := by rw [if_neg (show ¬ (false = true) by decide)] at H; exact H
            clear H
            have H := H1
            clear H1
            obtain rfl := Option.some.inj H
            have p214 : 0 ≤ (x3_1 : Int) := of_decide_eq_true qa_
            have q214 : x3_1 < (l0.length : Int) := of_decide_eq_true qa_
            obtain ⟨ad214, e214, hx214_0, hx214_1, hx214_2, hx214_3, hx214_4⟩ := at_T25 HR0.out x3_1 p214 q214
            cases e214
            replace hx214_0 := qh_ HB hx214_0
            replace hx214_1 := qh_ HB hx214_1
            replace hx214_2 := qh_ HB hx214_2
            replace hx214_3 := qh_ HB hx214_3
            replace hx214_4 := qh_ HB hx214_4
            replace p214 := eq_true p214
            replace q214 := eq_true q214
            go_wp2_with (first | (go_at_call 16; (with_reducible refine (cohousingref21_Wait.calls ((rd_T25 l0 x3_1).f0) ((rd_T25 l0 x3_1).f1) ((rd_T25 l0 x3_1).f2) ((rd_T25 l0 x3_1).f3) ((rd_T25 l0 x3_1).f4) false _ A4.out).mono ?_); rintro e w13 ⟨rfl, hb⟩; replace HB := qbs_ hb; (try clear hb); (try clear hb2); (try clear hk); (try clear hi)))
            repeat (go_quiet (first | (go_at_call 16; (with_reducible refine (cohousingref21_Wait.calls ((rd_T25 l0 x3_1).f0) ((rd_T25 l0 x3_1).f1) ((rd_T25 l0 x3_1).f2) ((rd_T25 l0 x3_1).f3) ((rd_T25 l0 x3_1).f4) false _ A4.out).mono ?_); rintro e w13 ⟨rfl, hb⟩; replace HB := qbs_ hb; (try clear hb); (try clear hb2); (try clear hk); (try clear hi))); try go_wp2_with (first | (go_at_call 16; (with_reducible refine (cohousingref21_Wait.calls ((rd_T25 l0 x3_1).f0) ((rd_T25 l0 x3_1).f1) ((rd_T25 l0 x3_1).f2) ((rd_T25 l0 x3_1).f3) ((rd_T25 l0 x3_1).f4) false _ A4.out).mono ?_); rintro e w13 ⟨rfl, hb⟩; replace HB := qbs_ hb; (try clear hb); (try clear hb2); (try clear hk); (try clear hi))))
            go_ret
            exact ⟨qx_, qb_⟩
        · rw [if_neg c3] at H
          exact absurd H (by simp)
      · rw [if_neg c2] at H
        have c2b0 : decide (x3_1 < (l0.length : Int)) = false := decide_eq_false c2
        clear c2
        obtain rfl := Option.some.inj H
        go_wp2
        repeat (go_quiet (fail); try go_wp2)
        go_ret
        exact ⟨qx_, qb_⟩

/-! ### cohousingref21_place: function 34 -/
def cohousingref21_place.l0 : Nat → List Int → Int → Int → Option (Int)
  | 0, _, _, _ => none
  | k + 1, x0, x1, x5 => if x5 < (x0.length : Int) then (if 0 ≤ x5 then (if (rd x0 x5) = x1 then (some x5) else (cohousingref21_place.l0 k x0 x1 (wrap64 (x5 + 1)))) else (none)) else (some (-1))
def cohousingref21_place.f (k : Nat) (l0 : List Int) (a1 : Int) : Option (Int) := cohousingref21_place.l0 k l0 a1 0
theorem cohousingref21_place.mono_l : ∀ k, (∀ y0 y1 y2, LeO (cohousingref21_place.l0 k y0 y1 y2) (cohousingref21_place.l0 (k + 1) y0 y1 y2))
  | 0 => fun _ _ _ r h => by simp [cohousingref21_place.l0] at h
  | k + 1 => by
    have ih0 := cohousingref21_place.mono_l k
    · intro y0 y1 y2
      unfold cohousingref21_place.l0
      with_reducible (repeat' first | apply ih0 | apply LeO.refl | apply LeO.none | apply LeO.ite | refine LeO.bind ?_ (fun _ => ?_))
theorem cohousingref21_place.mono : ∀ a0 a1 k, LeO (cohousingref21_place.f k a0 a1) (cohousingref21_place.f (k + 1) a0 a1) := by
  intro a0 a1 k
  have ih0 := cohousingref21_place.mono_l k
  unfold cohousingref21_place.f
  with_reducible (repeat' first | apply ih0 | apply LeO.refl | apply LeO.none | apply LeO.ite | refine LeO.bind ?_ (fun _ => ?_))
set_option maxHeartbeats 8000000 in
set_option maxRecDepth 100000 in
theorem cohousingref21_place.calls (k : Nat) (A0 : Option Addr) (c0 : Nat) (l0 : List Int) (a1 r : Int) (w : World) (hr0 : Kd.C (Kd.int .i64) w A0 l0.length l0) (hc0 : l0.length ≤ c0) (h : cohousingref21_place.f k l0 a1 = some r) :
    Calls Tryd.prog 34 #[.slice A0 l0.length c0, .int .i64 a1] w fun e w' => e = .returned (.int .i64 r) ∧ Drawn0 w w' := by
  have HR0 := Aside0.mk hr0
  have HC0 := Aside0.mk hc0
  clear hr0 hc0
  have H : (cohousingref21_place.l0 k l0 a1 0) = some r := h
  clear h
  have H' := Aside0.mk H
  clear H
  go_enter Tryd.func34, Tryd.ntmps34
  go_wp2
  go_loopg [5] k (fun kq v5 w' => ∃ (x5_1 : Int), v5 = .int .i64 x5_1 ∧ Aside0 (cohousingref21_place.l0 kq l0 a1 x5_1 = some r) ∧ Aside0 (kq ≤ k) ∧ Drawn0 w w')
  case atStart => exact ⟨(0), qs_, H', ⟨Nat.le_refl _⟩, qy_⟩
  case round =>
    clear H'
    try clear p2
    obtain ⟨x5_1, rfl, HA, HK1, ⟨m1, rfl⟩⟩ := hrel
    cases gk with
    | zero => exact absurd HA.out (by simp [cohousingref21_place.l0])
    | succ k1 =>
      have H := HA.out
      clear HA
      simp only [cohousingref21_place.l0] at H
      by_cases c3 : x5_1 < (l0.length : Int)
      · rw [if_pos c3] at H
        have c3b0 : decide (x5_1 < (l0.length : Int)) = true := decide_eq_true c3
        clear c3
        by_cases c4 : 0 ≤ x5_1
        · rw [if_pos c4] at H
          have c4b0 : decide (0 ≤ x5_1) = true := decide_eq_true c4
          clear c4
          by_cases c5 : (rd l0 x5_1) = a1
          · rw [if_pos c5] at H
            have c5b0 : ((rd l0 x5_1) == a1) = true := beq_iff_eq.mpr c5
            have c5b1 : ((rd l0 x5_1) != a1) = false := bne_eq_false_iff_eq.mpr c5
            clear c5
            obtain rfl := Option.some.inj H
            have p218 : 0 ≤ (x5_1 : Int) := of_decide_eq_true qa_
            have q218 : x5_1 < (l0.length : Int) := of_decide_eq_true qa_
            obtain ⟨ad218, e218, hx218_0⟩ := Kd.at_int HR0.out x5_1 p218 q218
            cases e218
            replace p218 := eq_true p218
            replace q218 := eq_true q218
            go_wp2
            go_ret
            exact ⟨qs_, qy_⟩
          · rw [if_neg c5] at H
            have c5b0 : ((rd l0 x5_1) == a1) = false := beq_eq_false_iff_ne.mpr c5
            have c5b1 : ((rd l0 x5_1) != a1) = true := bne_iff_ne.mpr c5
            have H' := Aside0.mk H
            clear H
            have p218 : 0 ≤ (x5_1 : Int) := of_decide_eq_true qa_
            have q218 : x5_1 < (l0.length : Int) := of_decide_eq_true qa_
            obtain ⟨ad218, e218, hx218_0⟩ := Kd.at_int HR0.out x5_1 p218 q218
            cases e218
            replace p218 := eq_true p218
            replace q218 := eq_true q218
            go_wp2
            go_roundg k1
            case measure => have := HK1.out; omega
            case rel => exact ⟨(wrap64 (x5_1 + 1)), qs_, H', ⟨by have := HK1.out; omega⟩, qy_⟩
        · rw [if_neg c4] at H
          exact absurd H (by simp)
      · rw [if_neg c3] at H
        have c3b0 : decide (x5_1 < (l0.length : Int)) = false := decide_eq_false c3
        clear c3
        obtain rfl := Option.some.inj H
        go_wp2
        go_ret
        exact ⟨qs_, qy_⟩

/-! ### cohousingref21_Lots: function 19 -/
def cohousingref21_Lots.l0 : Nat → List Int → Int → Int → Option (Bool)
  | 0, _, _, _ => none
  | k + 1, x0, x1, x5 => if x5 ≤ x1 then ((cohousingref21_place.f k x0 x5).bind fun t219 => (if t219 < 0 then (some false) else (cohousingref21_Lots.l0 k x0 x1 (wrap64 (x5 + 1))))) else (some true)
def cohousingref21_Lots.f (k : Nat) (l0 : List Int) (a1 : Int) : Option (Bool) := if (l0.length : Int) = a1 then (cohousingref21_Lots.l0 k l0 a1 1) else (some false)
theorem cohousingref21_Lots.mono_l : ∀ k, (∀ y0 y1 y2, LeO (cohousingref21_Lots.l0 k y0 y1 y2) (cohousingref21_Lots.l0 (k + 1) y0 y1 y2))
  | 0 => fun _ _ _ r h => by simp [cohousingref21_Lots.l0] at h
  | k + 1 => by
    have ih0 := cohousingref21_Lots.mono_l k
    · intro y0 y1 y2
      unfold cohousingref21_Lots.l0
      with_reducible (repeat' first | apply ih0 | apply cohousingref21_place.mono | apply LeO.refl | apply LeO.none | apply LeO.ite | refine LeO.bind ?_ (fun _ => ?_))
theorem cohousingref21_Lots.mono : ∀ a0 a1 k, LeO (cohousingref21_Lots.f k a0 a1) (cohousingref21_Lots.f (k + 1) a0 a1) := by
  intro a0 a1 k
  have ih0 := cohousingref21_Lots.mono_l k
  unfold cohousingref21_Lots.f
  with_reducible (repeat' first | apply ih0 | apply cohousingref21_place.mono | apply LeO.refl | apply LeO.none | apply LeO.ite | refine LeO.bind ?_ (fun _ => ?_))
set_option maxHeartbeats 8000000 in
set_option maxRecDepth 100000 in
theorem cohousingref21_Lots.calls (k : Nat) (A0 : Option Addr) (c0 : Nat) (l0 : List Int) (a1 : Int) (r : Bool) (w : World) (hr0 : Kd.C (Kd.int .i64) w A0 l0.length l0) (hc0 : l0.length ≤ c0) (h : cohousingref21_Lots.f k l0 a1 = some r) :
    Calls Tryd.prog 19 #[.slice A0 l0.length c0, .int .i64 a1] w fun e w' => e = .returned (.bool r) ∧ Drawn0 w w' := by
  have HR0 := Aside0.mk hr0
  have HC0 := Aside0.mk hc0
  clear hr0 hc0
  have H : (if (l0.length : Int) = a1 then (cohousingref21_Lots.l0 k l0 a1 1) else (some false)) = some r := h
  clear h
  by_cases c3 : (l0.length : Int) = a1
  · rw [if_pos c3] at H
    have c3b0 : ((l0.length : Int) == a1) = true := beq_iff_eq.mpr c3
    have c3b1 : ((l0.length : Int) != a1) = false := bne_eq_false_iff_eq.mpr c3
    clear c3
    have H' := Aside0.mk H
    clear H
    go_enter Tryd.func19, Tryd.ntmps19
    go_wp2
    go_loopg [5] k (fun kq v5 w' => ∃ (x5_1 : Int), v5 = .int .i64 x5_1 ∧ Aside0 (cohousingref21_Lots.l0 kq l0 a1 x5_1 = some r) ∧ Aside0 (kq ≤ k) ∧ Drawn0 w w')
    case atStart => exact ⟨(1), qs_, H', ⟨Nat.le_refl _⟩, qy_⟩
    case round =>
      clear H'
      try clear c1
      try clear p2
      try clear c3
      try clear c3b0
      try clear c3b1
      obtain ⟨x5_1, rfl, HA, HK1, ⟨m1, rfl⟩⟩ := hrel
      cases gk with
      | zero => exact absurd HA.out (by simp [cohousingref21_Lots.l0])
      | succ k1 =>
        have H := HA.out
        clear HA
        simp only [cohousingref21_Lots.l0] at H
        by_cases c4 : x5_1 ≤ a1
        · rw [if_pos c4] at H
          have c4b0 : decide (x5_1 ≤ a1) = true := decide_eq_true c4
          clear c4
          replace H := Option.bind_eq_some_iff.mp H
          obtain ⟨t219, A50, H⟩ := H
          replace H : (if t219 < 0 then (some false) else (cohousingref21_Lots.l0 k1 l0 a1 (wrap64 (x5_1 + 1)))) = some r := H
          have A5 := Aside0.mk A50
          clear A50
          by_cases c6 : t219 < 0
          · rw [if_pos c6] at H
            have c6b0 : decide (t219 < 0) = true := decide_eq_true c6
            clear c6
            obtain rfl := Option.some.inj H
            go_wp2_with (first | ((with_reducible refine gate_callee (f := 34) rfl ?_); refine goesL_ (some 17) rfl rfl Tryd.func34 (by kernel_rfl) rfl #[.slice A0 l0.length c0, .int .i64 x5_1] rfl ql_ ?_; (with_reducible refine (cohousingref21_place.calls k1 _ _ l0 x5_1 t219 _ ?side1 ?side2 A5.out).mono ?_); (case side1 => repeat (first | exact HR0.out | (with_reducible refine Kd.C_alloc ?_ _) | (with_reducible refine Kd.C_drewN ?_ _) | (with_reducible refine Kd.C_drew ?_))); (case side2 => exact HC0.out); rintro e w' ⟨rfl, ⟨nd, rfl⟩⟩; refine ⟨_, rfl, ?_⟩))
            go_ret
            exact ⟨qs_, qy_⟩
          · rw [if_neg c6] at H
            have c6b0 : decide (t219 < 0) = false := decide_eq_false c6
            clear c6
            have H' := Aside0.mk H
            clear H
            go_wp2_with (first | ((with_reducible refine gate_callee (f := 34) rfl ?_); refine goesL_ (some 17) rfl rfl Tryd.func34 (by kernel_rfl) rfl #[.slice A0 l0.length c0, .int .i64 x5_1] rfl ql_ ?_; (with_reducible refine (cohousingref21_place.calls k1 _ _ l0 x5_1 t219 _ ?side1 ?side2 A5.out).mono ?_); (case side1 => repeat (first | exact HR0.out | (with_reducible refine Kd.C_alloc ?_ _) | (with_reducible refine Kd.C_drewN ?_ _) | (with_reducible refine Kd.C_drew ?_))); (case side2 => exact HC0.out); rintro e w' ⟨rfl, ⟨nd, rfl⟩⟩; refine ⟨_, rfl, ?_⟩))
            go_roundg k1
            case measure => have := HK1.out; omega
            case rel => exact ⟨(wrap64 (x5_1 + 1)), qs_, H', ⟨by have := HK1.out; omega⟩, qy_⟩
        · rw [if_neg c4] at H
          have c4b0 : decide (x5_1 ≤ a1) = false := decide_eq_false c4
          clear c4
          obtain rfl := Option.some.inj H
          go_wp2
          go_ret
          exact ⟨qs_, qy_⟩
  · rw [if_neg c3] at H
    have c3b0 : ((l0.length : Int) == a1) = false := beq_eq_false_iff_ne.mpr c3
    have c3b1 : ((l0.length : Int) != a1) = true := bne_iff_ne.mpr c3
    obtain rfl := Option.some.inj H
    go_enter Tryd.func19, Tryd.ntmps19
    go_wp2
    go_ret
    exact ⟨qs_, qy_⟩

end Go.Proofs.YtfhmbfadbfnnaaaDoor.Px
