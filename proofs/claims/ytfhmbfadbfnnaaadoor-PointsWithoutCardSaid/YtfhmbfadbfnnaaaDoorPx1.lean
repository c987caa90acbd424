/- Contracts of Go functions, written by a program of this session's own (wip/tools/myprint.py) out of the translation: each Go function does what the Lean function of its name says. Conditions: as each theorem states. -/
import Derived.Test.YtfhmbfadbfnnaaaDoorPx0
namespace Go.Proofs.YtfhmbfadbfnnaaaDoor.Px
open Go.Proofs.YtfhmbfadbfnnaaaDoor.Given
open Go.RowKit Go.Proofs.YtfhmbfadbfnnaaaDoorW.PrintWords Go.Proofs.YtfhmbfadbfnnaaaDoorW.PrintLast Go.Proofs.YtfhmbfadbfnnaaaDoorW.PrintMore
attribute [local go_sem] max2_int min2_int max_two min_two max_three min_three max_four min_four   -- for this text's walks alone
set_option linter.unusedVariables false
set_option linter.unusedSimpArgs false

/-! ### points_within: function 40 -/
def points_within.f (a0 a1 : Int) : Option (Bool) := if 0 ≤ a0 then (some (decide (a0 ≤ a1))) else (some false)
set_option maxHeartbeats 8000000 in
set_option maxRecDepth 100000 in
theorem points_within.calls (a0 a1 : Int) (r : Bool) (w : World) (h : points_within.f a0 a1 = some r) :
    Calls Tryd.prog 40 #[.int .i64 a0, .int .i64 a1] w fun e w' => e = .returned (.bool r) ∧ Drawn0 w w' := by
  have H : (if 0 ≤ a0 then (some (decide (a0 ≤ a1))) else (some false)) = some r := h
  clear h
  by_cases c3 : 0 ≤ a0
  · rw [if_pos c3] at H
    have c3b0 : decide (0 ≤ a0) = true := decide_eq_true c3
    clear c3
    obtain rfl := Option.some.inj H
    go_enter Tryd.func40, Tryd.ntmps40
    go_wp2
    go_ret
    exact ⟨qs_, qy_⟩
  · rw [if_neg c3] at H
    have c3b0 : decide (0 ≤ a0) = false := decide_eq_false c3
    clear c3
    obtain rfl := Option.some.inj H
    go_enter Tryd.func40, Tryd.ntmps40
    go_wp2
    go_ret
    exact ⟨qs_, qy_⟩

/-! ### points_validWeights_1: function 39 -/
def points_validWeights_1.f (a0 : Int) : Option (Bool) := (points_within.f a0 1000000).bind fun t101 => (some (!t101))
set_option maxHeartbeats 8000000 in
set_option maxRecDepth 100000 in
theorem points_validWeights_1.calls (a0 : Int) (r : Bool) (w : World) (h : points_validWeights_1.f a0 = some r) :
    Calls Tryd.prog 39 #[.int .i64 a0] w fun e w' => e = .returned (.bool r) ∧ Drawn0 w w' := by
  have H : ((points_within.f a0 1000000).bind fun t101 => (some (!t101))) = some r := h
  clear h
  replace H := Option.bind_eq_some_iff.mp H
  obtain ⟨t101, A20, H⟩ := H
  replace H : (some (!t101)) = some r := H
  have A2 := Aside0.mk A20
  clear A20
  obtain rfl := Option.some.inj H
  go_enter Tryd.func39, Tryd.ntmps39
  go_wp2_with (first | ((with_reducible refine gate_callee (f := 40) rfl ?_); refine goesL_ (some 4) rfl rfl Tryd.func40 (by kernel_rfl) rfl #[.int .i64 a0, .int .i64 1000000] rfl ql_ ?_; (with_reducible refine (points_within.calls a0 1000000 t101 _ A2.out).mono ?_); rintro e w' ⟨rfl, ⟨nd, rfl⟩⟩; refine ⟨_, rfl, ?_⟩))
  go_ret
  exact ⟨qs_, qy_⟩

/-! ### slices_IndexFunc_int_int__points_validWeights_1: function 47 -/
def slices_IndexFunc_int_int__points_validWeights_1.l0 : Nat → List Int → Int → Int → Option (Int)
  | 0, _, _, _ => none
  | k + 1, x0, x7, x8 => if x8 < x7 then (if 0 ≤ x8 then (if x8 < (x0.length : Int) then ((points_validWeights_1.f (rd x0 x8)).bind fun t103 => (if t103 = true then (some x8) else (slices_IndexFunc_int_int__points_validWeights_1.l0 k x0 x7 (wrap64 (x8 + 1))))) else (none)) else (none)) else (some (-1))
def slices_IndexFunc_int_int__points_validWeights_1.f (k : Nat) (l0 : List Int)  : Option (Int) := slices_IndexFunc_int_int__points_validWeights_1.l0 k l0 (l0.length : Int) 0
theorem slices_IndexFunc_int_int__points_validWeights_1.mono_l : ∀ k, (∀ y0 y1 y2, LeO (slices_IndexFunc_int_int__points_validWeights_1.l0 k y0 y1 y2) (slices_IndexFunc_int_int__points_validWeights_1.l0 (k + 1) y0 y1 y2))
  | 0 => fun _ _ _ r h => by simp [slices_IndexFunc_int_int__points_validWeights_1.l0] at h
  | k + 1 => by
    have ih0 := slices_IndexFunc_int_int__points_validWeights_1.mono_l k
    · intro y0 y1 y2
      unfold slices_IndexFunc_int_int__points_validWeights_1.l0
      with_reducible (repeat' first | apply ih0 | apply LeO.refl | apply LeO.none | apply LeO.ite | refine LeO.bind ?_ (fun _ => ?_))
theorem slices_IndexFunc_int_int__points_validWeights_1.mono : ∀ a0 k, LeO (slices_IndexFunc_int_int__points_validWeights_1.f k a0) (slices_IndexFunc_int_int__points_validWeights_1.f (k + 1) a0) := by
  intro a0 k
  have ih0 := slices_IndexFunc_int_int__points_validWeights_1.mono_l k
  unfold slices_IndexFunc_int_int__points_validWeights_1.f
  with_reducible (repeat' first | apply ih0 | apply LeO.refl | apply LeO.none | apply LeO.ite | refine LeO.bind ?_ (fun _ => ?_))
set_option maxHeartbeats 8000000 in
set_option maxRecDepth 100000 in
theorem slices_IndexFunc_int_int__points_validWeights_1.calls (k : Nat) (A0 : Option Addr) (c0 : Nat) (l0 : List Int)  (r : Int) (w : World) (hr0 : Kd.C (Kd.int .i64) w A0 l0.length l0) (hc0 : l0.length ≤ c0) (h : slices_IndexFunc_int_int__points_validWeights_1.f k l0 = some r) :
    Calls Tryd.prog 47 #[.slice A0 l0.length c0, .func (.func 39) #[] #[]] w fun e w' => e = .returned (.int .i64 r) ∧ Drawn0 w w' := by
  have HR0 := Aside0.mk hr0
  have HC0 := Aside0.mk hc0
  clear hr0 hc0
  have H : (slices_IndexFunc_int_int__points_validWeights_1.l0 k l0 (l0.length : Int) 0) = some r := h
  clear h
  have H' := Aside0.mk H
  clear H
  go_enter Tryd.func47, Tryd.ntmps47
  go_wp2
  go_loopg [8] k (fun kq v8 w' => ∃ (x8_1 : Int), v8 = .int .i64 x8_1 ∧ Aside0 (slices_IndexFunc_int_int__points_validWeights_1.l0 kq l0 (l0.length : Int) x8_1 = some r) ∧ Aside0 (kq ≤ k) ∧ Drawn0 w w')
  case atStart => exact ⟨(0), qs_, H', ⟨Nat.le_refl _⟩, qy_⟩
  case round =>
    clear H'
    try clear p2
    obtain ⟨x8_1, rfl, HA, HK1, ⟨m1, rfl⟩⟩ := hrel
    cases gk with
    | zero => exact absurd HA.out (by simp [slices_IndexFunc_int_int__points_validWeights_1.l0])
    | succ k1 =>
      have H := HA.out
      clear HA
      simp only [slices_IndexFunc_int_int__points_validWeights_1.l0] at H
      by_cases c3 : x8_1 < (l0.length : Int)
      · rw [if_pos c3] at H
        have c3b0 : decide (x8_1 < (l0.length : Int)) = true := decide_eq_true c3
        clear c3
        by_cases c4 : 0 ≤ x8_1
        · rw [if_pos c4] at H
          have c4b0 : decide (0 ≤ x8_1) = true := decide_eq_true c4
          clear c4
          by_cases c5 : x8_1 < (l0.length : Int)
          · rw [if_pos c5] at H
            have c5b0 : decide (x8_1 < (l0.length : Int)) = true := decide_eq_true c5
            clear c5
            replace H := Option.bind_eq_some_iff.mp H
            obtain ⟨t103, A60, H⟩ := H
            replace H : (if t103 = true then (some x8_1) else (slices_IndexFunc_int_int__points_validWeights_1.l0 k1 l0 (l0.length : Int) (wrap64 (x8_1 + 1)))) = some r := H
            have A6 := Aside0.mk A60
            clear A60
            by_cases c7 : t103 = true
            · subst c7
              have H1 : (some x8_1) = some r := by rw [if_pos rfl] at H; exact H
              clear H
              have H := H1
              clear H1
              obtain rfl := Option.some.inj H
              have p102 : 0 ≤ (x8_1 : Int) := of_decide_eq_true qa_
              have q102 : x8_1 < (l0.length : Int) := of_decide_eq_true qa_
              obtain ⟨ad102, e102, hx102_0⟩ := Kd.at_int HR0.out x8_1 p102 q102
              cases e102
              replace p102 := eq_true p102
              replace q102 := eq_true q102
              go_wp2_with (first | (go_at_call 39; (with_reducible refine (points_validWeights_1.calls (rd l0 x8_1) true _ A6.out).mono ?_); rintro e w' ⟨rfl, ⟨nd, rfl⟩⟩))
              go_ret
              exact ⟨qs_, qy_⟩
            · replace c7 := Bool.eq_false_iff.mpr c7
              subst c7
              have H1 : (slices_IndexFunc_int_int__points_validWeights_1.l0 k1 l0 (l0.length : Int) (wrap64 (x8_1 + 1))) = some r := by rw [if_neg (show ¬ (false = true) by decide)] at H; exact H
              clear H
              have H := H1
              clear H1
              have H' := Aside0.mk H
              clear H
              have p102 : 0 ≤ (x8_1 : Int) := of_decide_eq_true qa_
              have q102 : x8_1 < (l0.length : Int) := of_decide_eq_true qa_
              obtain ⟨ad102, e102, hx102_0⟩ := Kd.at_int HR0.out x8_1 p102 q102
              cases e102
              replace p102 := eq_true p102
              replace q102 := eq_true q102
              go_wp2_with (first | (go_at_call 39; (with_reducible refine (points_validWeights_1.calls (rd l0 x8_1) false _ A6.out).mono ?_); rintro e w' ⟨rfl, ⟨nd, rfl⟩⟩))
              go_roundg k1
              case measure => have := HK1.out; omega
              case rel => exact ⟨(wrap64 (x8_1 + 1)), qs_, H', ⟨by have := HK1.out; omega⟩, qy_⟩
          · rw [if_neg c5] at H
            exact absurd H (by simp)
        · rw [if_neg c4] at H
          exact absurd H (by simp)
      · rw [if_neg c3] at H
        have c3b0 : decide (x8_1 < (l0.length : Int)) = false := decide_eq_false c3
        clear c3
        obtain rfl := Option.some.inj H
        go_wp2
        go_ret
        exact ⟨qs_, qy_⟩

/-! ### slices_ContainsFunc_int_int__points_validWeights_1: function 38 -/
def slices_ContainsFunc_int_int__points_validWeights_1.f (k : Nat) (l0 : List Int)  : Option (Bool) := (slices_IndexFunc_int_int__points_validWeights_1.f k l0).bind fun t104 => (some (decide (t104 ≥ 0)))
theorem slices_ContainsFunc_int_int__points_validWeights_1.mono : ∀ a0 k, LeO (slices_ContainsFunc_int_int__points_validWeights_1.f k a0) (slices_ContainsFunc_int_int__points_validWeights_1.f (k + 1) a0) := by
  intro a0 k
  unfold slices_ContainsFunc_int_int__points_validWeights_1.f
  with_reducible (repeat' first | apply slices_IndexFunc_int_int__points_validWeights_1.mono | apply LeO.refl | apply LeO.none | apply LeO.ite | refine LeO.bind ?_ (fun _ => ?_))
set_option maxHeartbeats 8000000 in
set_option maxRecDepth 100000 in
theorem slices_ContainsFunc_int_int__points_validWeights_1.calls (k : Nat) (A0 : Option Addr) (c0 : Nat) (l0 : List Int)  (r : Bool) (w : World) (hr0 : Kd.C (Kd.int .i64) w A0 l0.length l0) (hc0 : l0.length ≤ c0) (h : slices_ContainsFunc_int_int__points_validWeights_1.f k l0 = some r) :
    Calls Tryd.prog 38 #[.slice A0 l0.length c0, .func (.func 39) #[] #[]] w fun e w' => e = .returned (.bool r) ∧ Drawn0 w w' := by
  have HR0 := Aside0.mk hr0
  have HC0 := Aside0.mk hc0
  clear hr0 hc0
  have H : ((slices_IndexFunc_int_int__points_validWeights_1.f k l0).bind fun t104 => (some (decide (t104 ≥ 0)))) = some r := h
  clear h
  replace H := Option.bind_eq_some_iff.mp H
  obtain ⟨t104, A30, H⟩ := H
  replace H : (some (decide (t104 ≥ 0))) = some r := H
  have A3 := Aside0.mk A30
  clear A30
  obtain rfl := Option.some.inj H
  go_enter Tryd.func38, Tryd.ntmps38
  go_wp2_with (first | ((with_reducible refine gate_callee (f := 47) rfl ?_); refine goesL_ (some 7) rfl rfl Tryd.func47 (by kernel_rfl) rfl #[.slice A0 l0.length c0, .func (.func 39) #[] #[]] rfl ql_ ?_; (with_reducible refine (slices_IndexFunc_int_int__points_validWeights_1.calls k _ _ l0  t104 _ ?side1 ?side2 A3.out).mono ?_); (case side1 => repeat (first | exact HR0.out | (with_reducible refine Kd.C_alloc ?_ _) | (with_reducible refine Kd.C_drewN ?_ _) | (with_reducible refine Kd.C_drew ?_))); (case side2 => exact HC0.out); rintro e w' ⟨rfl, ⟨nd, rfl⟩⟩; refine ⟨_, rfl, ?_⟩))
  go_ret
  exact ⟨qs_, qy_⟩

/-! ### points_validWeights: function 22 -/
def points_validWeights.f (k : Nat) (a0_0 a0_1 a0_2 a0_3 : Int) : Option (Bool) := (slices_ContainsFunc_int_int__points_validWeights_1.f k (([a0_0, a0_1, a0_2, a0_3] : List Int))).bind fun t109 => (some (!t109))
theorem points_validWeights.mono : ∀ a0 a1 a2 a3 k, LeO (points_validWeights.f k a0 a1 a2 a3) (points_validWeights.f (k + 1) a0 a1 a2 a3) := by
  intro a0 a1 a2 a3 k
  unfold points_validWeights.f
  with_reducible (repeat' first | apply slices_ContainsFunc_int_int__points_validWeights_1.mono | apply LeO.refl | apply LeO.none | apply LeO.ite | refine LeO.bind ?_ (fun _ => ?_))
set_option maxHeartbeats 8000000 in
set_option maxRecDepth 100000 in
theorem points_validWeights.calls (k : Nat) (a0_0 a0_1 a0_2 a0_3 : Int) (r : Bool) (w : World) (h : points_validWeights.f k a0_0 a0_1 a0_2 a0_3 = some r) :
    Calls Tryd.prog 22 #[.agg #[.int .i64 a0_0, .int .i64 a0_1, .int .i64 a0_2, .int .i64 a0_3]] w fun e w' => e = .returned (.bool r) ∧ Below w.heap.size w w' := by
  have hu23 := Tryd.underlying23
  have HB := Aside0.mk (Below.refl w.heap.size w)
  have H : ((slices_ContainsFunc_int_int__points_validWeights_1.f k (([a0_0, a0_1, a0_2, a0_3] : List Int))).bind fun t109 => (some (!t109))) = some r := h
  clear h
  obtain ⟨y106, hy106⟩ : ∃ y_ : List Int, y_ = (([a0_0, a0_1, a0_2, a0_3] : List Int)) := ⟨_, rfl⟩
  replace H : ((slices_ContainsFunc_int_int__points_validWeights_1.f k y106).bind fun t109 => (some (!t109))) = some r := by first | (rw [hy106]; with_reducible exact H) | (have H2_ := (Option.bind_some _ _).symm.trans H; rw [hy106]; with_reducible exact H2_) | (have H2_ := (Option.bind_some _ _).symm.trans H; with_reducible exact H2_) | with_reducible exact H | (rw [hy106]; exact H) | exact H
  have Ny106 := Aside0.mk hy106
  clear hy106
  replace H := Option.bind_eq_some_iff.mp H
  obtain ⟨t109, A20, H⟩ := H
  replace H : (some (!t109)) = some r := H
  have A2 := Aside0.mk A20
  clear A20
  obtain rfl := Option.some.inj H
  go_enter Tryd.func22, Tryd.ntmps22
  go_wp2_with (first | ((with_reducible refine gate_dst (N := 1) rfl ?_); refine qev_ 1 #[.int .i64 a0_0, .int .i64 a0_1, .int .i64 a0_2, .int .i64 a0_3] 23 ?_; intro gb105 hg w3 hbox hb; have BK105 := Aside0.mk (hbox); have GW105 := qga_ hg; have GE105 := qga_ hg; replace HB := qbs_ hb; clear hb hbox hg; obtain ⟨hcz4_0, hcz4_1, hcz4_2, hcz4_3⟩ := qz4_ BK105; obtain ⟨hfz4_0, hfz4_1, hfz4_2, hfz4_3⟩ := qf4_ BK105) | ((with_reducible refine gate_dst (N := 11) rfl ?_); refine Kd.R_lit (Kd.int .i64) _ 3 ?hg (N := 11) ?hd (xs := ([a0_0, a0_1, a0_2, a0_3] : List Int)) (inner := [.int .i64 a0_0, .int .i64 a0_1, .int .i64 a0_2, .int .i64 a0_3]) (ok := fun _ => True) (okp := fun _ => True) ?hr ?hp (fun _ hk => hk) trivial (Below.refl _ _) (Nat.le_refl _) (by simp) ?_; (case hd => rfl); (case hg => rfl); (case hr => exact qq_); (case hp => exact (Reps.one (show Kd.M (Kd.int .i64) _ _ _ a0_0 [.int .i64 a0_0] from rfl) (Reps.one (show Kd.M (Kd.int .i64) _ _ _ a0_1 [.int .i64 a0_1] from rfl) (Reps.one (show Kd.M (Kd.int .i64) _ _ _ a0_2 [.int .i64 a0_2] from rfl) (Reps.one (show Kd.M (Kd.int .i64) _ _ _ a0_3 [.int .i64 a0_3] from rfl) (Reps.none _ _)))))); intro v107 w5 ho6 hb hg_ hnew_; clear hg_ hnew_; (first | rw [← Ny106.out] at ho6 | (simp only [Int.reduceToNat] at ho6; rw [← Ny106.out] at ho6)); have HO108 := Aside0.mk (Kd.R_lower ho6 (below_size qb_)); replace BK105 := qkb_ BK105 hb; replace HB := qbs_ hb; clear hb ho6; obtain ⟨Ao7, co7, eo7⟩ := Kd.R_slice HO108.out; subst eo7) | ((with_reducible refine gate_callee (f := 38) rfl ?_); refine goesL_ (some 12) rfl rfl Tryd.func38 (by kernel_rfl) rfl #[.slice Ao7 y106.length co7, .func (.func 39) #[] #[]] rfl ql_ ?_; (with_reducible refine (slices_ContainsFunc_int_int__points_validWeights_1.calls k _ _ y106  t109 _ ?side1 ?side2 A2.out).mono ?_); (case side1 => exact qv_ (Kd.R_reads' HO108.out).2.2); (case side2 => exact (Kd.R_reads' HO108.out).2.1); rintro e w' ⟨rfl, ⟨nd, rfl⟩⟩; refine ⟨_, rfl, ?_⟩))
  go_ret
  exact ⟨qx_, qb_⟩

/-! ### points_home_valid: function 23 -/
def points_home_valid.f (a0_0 a0_1 a0_2 a0_3 a0_4 : Int) : Option (Bool) := if a0_0 ≥ 1 then (if a0_0 ≤ 64 then ((points_within.f a0_1 36524).bind fun t111 => (if t111 = true then ((points_within.f a0_2 10).bind fun t112 => (if t112 = true then ((points_within.f a0_3 100000).bind fun t113 => (if t113 = true then ((points_within.f a0_4 1000).bind fun t114 => (some t114)) else (some false))) else (some false))) else (some false))) else (some false)) else (some false)
set_option maxHeartbeats 8000000 in
set_option maxRecDepth 100000 in
theorem points_home_valid.calls (a0_0 a0_1 a0_2 a0_3 a0_4 : Int) (r : Bool) (w : World) (h : points_home_valid.f a0_0 a0_1 a0_2 a0_3 a0_4 = some r) :
    Calls Tryd.prog 23 #[.agg #[.int .i64 a0_0, .int .i64 a0_1, .int .i64 a0_2, .int .i64 a0_3, .int .i64 a0_4]] w fun e w' => e = .returned (.bool r) ∧ Below w.heap.size w w' := by
  have hu54 := Tryd.underlying54
  have HB := Aside0.mk (Below.refl w.heap.size w)
  have H : (if a0_0 ≥ 1 then (if a0_0 ≤ 64 then ((points_within.f a0_1 36524).bind fun t111 => (if t111 = true then ((points_within.f a0_2 10).bind fun t112 => (if t112 = true then ((points_within.f a0_3 100000).bind fun t113 => (if t113 = true then ((points_within.f a0_4 1000).bind fun t114 => (some t114)) else (some false))) else (some false))) else (some false))) else (some false)) else (some false)) = some r := h
  clear h
  by_cases c2 : a0_0 ≥ 1
  · rw [if_pos c2] at H
    have c2b0 : decide (1 ≤ a0_0) = true := decide_eq_true c2
    clear c2
    by_cases c3 : a0_0 ≤ 64
    · rw [if_pos c3] at H
      have c3b0 : decide (a0_0 ≤ 64) = true := decide_eq_true c3
      clear c3
      replace H := Option.bind_eq_some_iff.mp H
      obtain ⟨t111, A40, H⟩ := H
      replace H : (if t111 = true then ((points_within.f a0_2 10).bind fun t112 => (if t112 = true then ((points_within.f a0_3 100000).bind fun t113 => (if t113 = true then ((points_within.f a0_4 1000).bind fun t114 => (some t114)) else (some false))) else (some false))) else (some false)) = some r := H
      have A4 := Aside0.mk A40
      clear A40
      by_cases c5 : t111 = true
      · subst c5
        have H1 : ((points_within.f a0_2 10).bind fun t112 => (if t112 = true then ((points_within.f a0_3 100000).bind fun t113 => (if t113 = true then ((points_within.f a0_4 1000).bind fun t114 => (some t114)) else (some false))) else (some false))) = some r := by rw [if_pos rfl] at H; exact H
        clear H
        have H := H1
        clear H1
        replace H := Option.bind_eq_some_iff.mp H
        obtain ⟨t112, A60, H⟩ := H
        replace H : (if t112 = true then ((points_within.f a0_3 100000).bind fun t113 => (if t113 = true then ((points_within.f a0_4 1000).bind fun t114 => (some t114)) else (some false))) else (some false)) = some r := H
        have A6 := Aside0.mk A60
        clear A60
        by_cases c7 : t112 = true
        · subst c7
          have H1 : ((points_within.f a0_3 100000).bind fun t113 => (if t113 = true then ((points_within.f a0_4 1000).bind fun t114 => (some t114)) else (some false))) = some r := by rw [if_pos rfl] at H; exact H
          clear H
          have H := H1
          clear H1
          replace H := Option.bind_eq_some_iff.mp H
          obtain ⟨t113, A80, H⟩ := H
          replace H : (if t113 = true then ((points_within.f a0_4 1000).bind fun t114 => (some t114)) else (some false)) = some r := H
          have A8 := Aside0.mk A80
          clear A80
          by_cases c9 : t113 = true
          · subst c9
            have H1 : ((points_within.f a0_4 1000).bind fun t114 => (some t114)) = some r := by rw [if_pos rfl] at H; exact H
            clear H
            have H := H1
            clear H1
            replace H := Option.bind_eq_some_iff.mp H
            obtain ⟨t114, A100, H⟩ := H
            replace H : (some t114) = some r := H
            have A10 := Aside0.mk A100
            clear A100
            obtain rfl := Option.some.inj H
            go_enter Tryd.func23, Tryd.ntmps23
            go_wp2_with (first | ((with_reducible refine gate_dst (N := 1) rfl ?_); refine qev_ 1 #[.int .i64 a0_0, .int .i64 a0_1, .int .i64 a0_2, .int .i64 a0_3, .int .i64 a0_4] 54 ?_; intro gb110 hg w11 hbox hb; have BK110 := Aside0.mk (hbox); have GW110 := qga_ hg; have GE110 := qga_ hg; replace HB := qbs_ hb; clear hb hbox hg; obtain ⟨hcz12_0, hcz12_1, hcz12_2, hcz12_3, hcz12_4⟩ := qz5_ BK110; obtain ⟨hfz12_0, hfz12_1, hfz12_2, hfz12_3, hfz12_4⟩ := qf5_ BK110) | (go_at_call 40; (with_reducible refine (points_within.calls a0_1 36524 true _ A4.out).mono ?_); rintro e w' ⟨rfl, ⟨nd, rfl⟩⟩) | (go_at_call 40; (with_reducible refine (points_within.calls a0_2 10 true _ A6.out).mono ?_); rintro e w' ⟨rfl, ⟨nd, rfl⟩⟩) | (go_at_call 40; (with_reducible refine (points_within.calls a0_3 100000 true _ A8.out).mono ?_); rintro e w' ⟨rfl, ⟨nd, rfl⟩⟩) | (go_at_call 40; (with_reducible refine (points_within.calls a0_4 1000 t114 _ A10.out).mono ?_); rintro e w' ⟨rfl, ⟨nd, rfl⟩⟩))
            go_ret
            exact ⟨qx_, qb_⟩
          · replace c9 := Bool.eq_false_iff.mpr c9
            subst c9
            have H1 : (some false) = some r := by rw [if_neg (show ¬ (false = true) by decide)] at H; exact H
            clear H
            have H := H1
            clear H1
            obtain rfl := Option.some.inj H
            go_enter Tryd.func23, Tryd.ntmps23
            go_wp2_with (first | ((with_reducible refine gate_dst (N := 1) rfl ?_); refine qev_ 1 #[.int .i64 a0_0, .int .i64 a0_1, .int .i64 a0_2, .int .i64 a0_3, .int .i64 a0_4] 54 ?_; intro gb110 hg w13 hbox hb; have BK110 := Aside0.mk (hbox); have GW110 := qga_ hg; have GE110 := qga_ hg; replace HB := qbs_ hb; clear hb hbox hg; obtain ⟨hcz14_0, hcz14_1, hcz14_2, hcz14_3, hcz14_4⟩ := qz5_ BK110; obtain ⟨hfz14_0, hfz14_1, hfz14_2, hfz14_3, hfz14_4⟩ := qf5_ BK110) | (go_at_call 40; (with_reducible refine (points_within.calls a0_1 36524 true _ A4.out).mono ?_); rintro e w' ⟨rfl, ⟨nd, rfl⟩⟩) | (go_at_call 40; (with_reducible refine (points_within.calls a0_2 10 true _ A6.out).mono ?_); rintro e w' ⟨rfl, ⟨nd, rfl⟩⟩) | (go_at_call 40; (with_reducible refine (points_within.calls a0_3 100000 false _ A8.out).mono ?_); rintro e w' ⟨rfl, ⟨nd, rfl⟩⟩))
            go_ret
            exact ⟨qx_, qb_⟩
        · replace c7 := Bool.eq_false_iff.mpr c7
          subst c7
          have H1 : (some false) = some r := by rw [if_neg (show ¬ (false = true) by decide)] at H; exact H
          clear H
          have H := H1
          clear H1
          obtain rfl := Option.some.inj H
          go_enter Tryd.func23, Tryd.ntmps23
          go_wp2_with (first | ((with_reducible refine gate_dst (N := 1) rfl ?_); refine qev_ 1 #[.int .i64 a0_0, .int .i64 a0_1, .int .i64 a0_2, .int .i64 a0_3, .int .i64 a0_4] 54 ?_; intro gb110 hg w15 hbox hb; have BK110 := Aside0.mk (hbox); have GW110 := qga_ hg; have GE110 := qga_ hg; replace HB := qbs_ hb; clear hb hbox hg; obtain ⟨hcz16_0, hcz16_1, hcz16_2, hcz16_3, hcz16_4⟩ := qz5_ BK110; obtain ⟨hfz16_0, hfz16_1, hfz16_2, hfz16_3, hfz16_4⟩ := qf5_ BK110) | (go_at_call 40; (with_reducible refine (points_within.calls a0_1 36524 true _ A4.out).mono ?_); rintro e w' ⟨rfl, ⟨nd, rfl⟩⟩) | (go_at_call 40; (with_reducible refine (points_within.calls a0_2 10 false _ A6.out).mono ?_); rintro e w' ⟨rfl, ⟨nd, rfl⟩⟩))
          go_ret
          exact ⟨qx_, qb_⟩
      · replace c5 := Bool.eq_false_iff.mpr c5
        subst c5
        have H1 : (some false) = some r := by rw [if_neg (show ¬ (false = true) by decide)] at H; exact H
        clear H
        have H := H1
        clear H1
        obtain rfl := Option.some.inj H
        go_enter Tryd.func23, Tryd.ntmps23
        go_wp2_with (first | ((with_reducible refine gate_dst (N := 1) rfl ?_); refine qev_ 1 #[.int .i64 a0_0, .int .i64 a0_1, .int .i64 a0_2, .int .i64 a0_3, .int .i64 a0_4] 54 ?_; intro gb110 hg w17 hbox hb; have BK110 := Aside0.mk (hbox); have GW110 := qga_ hg; have GE110 := qga_ hg; replace HB := qbs_ hb; clear hb hbox hg; obtain ⟨hcz18_0, hcz18_1, hcz18_2, hcz18_3, hcz18_4⟩ := qz5_ BK110; obtain ⟨hfz18_0, hfz18_1, hfz18_2, hfz18_3, hfz18_4⟩ := qf5_ BK110) | (go_at_call 40; (with_reducible refine (points_within.calls a0_1 36524 false _ A4.out).mono ?_); rintro e w' ⟨rfl, ⟨nd, rfl⟩⟩))
        go_ret
        exact ⟨qx_, qb_⟩
    · rw [if_neg c3] at H
      have c3b0 : decide (a0_0 ≤ 64) = false := decide_eq_false c3
      clear c3
      obtain rfl := Option.some.inj H
      go_enter Tryd.func23, Tryd.ntmps23
      go_wp2_with (first | ((with_reducible refine gate_dst (N := 1) rfl ?_); refine qev_ 1 #[.int .i64 a0_0, .int .i64 a0_1, .int .i64 a0_2, .int .i64 a0_3, .int .i64 a0_4] 54 ?_; intro gb110 hg w19 hbox hb; have BK110 := Aside0.mk (hbox); have GW110 := qga_ hg; have GE110 := qga_ hg; replace HB := qbs_ hb; clear hb hbox hg; obtain ⟨hcz20_0, hcz20_1, hcz20_2, hcz20_3, hcz20_4⟩ := qz5_ BK110; obtain ⟨hfz20_0, hfz20_1, hfz20_2, hfz20_3, hfz20_4⟩ := qf5_ BK110))
      go_ret
      exact ⟨qx_, qb_⟩
  · rw [if_neg c2] at H
    have c2b0 : decide (1 ≤ a0_0) = false := decide_eq_false c2
    clear c2
    obtain rfl := Option.some.inj H
    go_enter Tryd.func23, Tryd.ntmps23
    go_wp2_with (first | ((with_reducible refine gate_dst (N := 1) rfl ?_); refine qev_ 1 #[.int .i64 a0_0, .int .i64 a0_1, .int .i64 a0_2, .int .i64 a0_3, .int .i64 a0_4] 54 ?_; intro gb110 hg w21 hbox hb; have BK110 := Aside0.mk (hbox); have GW110 := qga_ hg; have GE110 := qga_ hg; replace HB := qbs_ hb; clear hb hbox hg; obtain ⟨hcz22_0, hcz22_1, hcz22_2, hcz22_3, hcz22_4⟩ := qz5_ BK110; obtain ⟨hfz22_0, hfz22_1, hfz22_2, hfz22_3, hfz22_4⟩ := qf5_ BK110))
    go_ret
    exact ⟨qx_, qb_⟩

/-! ### calendar_valid: function 35 -/
def calendar_valid.f (a0 : Int) : Option (Bool) := if 0 ≤ a0 then (some (decide (a0 ≤ 36524))) else (some false)
set_option maxHeartbeats 8000000 in
set_option maxRecDepth 100000 in
theorem calendar_valid.calls (a0 : Int) (r : Bool) (w : World) (h : calendar_valid.f a0 = some r) :
    Calls Tryd.prog 35 #[.int .i64 a0] w fun e w' => e = .returned (.bool r) ∧ Drawn0 w w' := by
  have H : (if 0 ≤ a0 then (some (decide (a0 ≤ 36524))) else (some false)) = some r := h
  clear h
  by_cases c2 : 0 ≤ a0
  · rw [if_pos c2] at H
    have c2b0 : decide (0 ≤ a0) = true := decide_eq_true c2
    clear c2
    obtain rfl := Option.some.inj H
    go_enter Tryd.func35, Tryd.ntmps35
    go_wp2
    go_ret
    exact ⟨qs_, qy_⟩
  · rw [if_neg c2] at H
    have c2b0 : decide (0 ≤ a0) = false := decide_eq_false c2
    clear c2
    obtain rfl := Option.some.inj H
    go_enter Tryd.func35, Tryd.ntmps35
    go_wp2
    go_ret
    exact ⟨qs_, qy_⟩

end Go.Proofs.YtfhmbfadbfnnaaaDoor.Px
