/- What the points' functions, the program's and the reference's, count. Conditions: as each theorem states. -/
import Derived.Test.YtfhmbfadbfnnaaaDoorPtM
import Derived.Test.YtfhmbfadbfnnaaaDoorPtRef
import Derived.Test.YtfhmbfadbfnnaaaDoorGHead
import Derived.Test.YtfhmbfadbfnnaaaDoorPx3
import Derived.Test.YtfhmbfadbfnnaaaDoorPx2
import Derived.Test.YtfhmbfadbfnnaaaDoorPx1
import Derived.Test.YtfhmbfadbfnnaaaDoorPx8
import Derived.Test.YtfhmbfadbfnnaaaDoorPx9
namespace Go.Proofs.YtfhmbfadbfnnaaaDoor.Pts
open Go.RowKit Go.Proofs.YtfhmbfadbfnnaaaDoorW.PrintWords Go.Proofs.YtfhmbfadbfnnaaaDoor.Given Go.Proofs.YtfhmbfadbfnnaaaDoor.Px Go.Proofs.YtfhmbfadbfnnaaaDoor.Cal
set_option linter.unusedVariables false
set_option linter.unusedSimpArgs false
set_option maxRecDepth 100000 in
theorem head_ev : Ev (fun k => cohousinglaw21_head.f k) true := Ev.of (fun k => cohousinglaw21_head.mono k) (k := 60) (by decide +kernel)
theorem within_eq (n m : Int) : points_within.f n m = some (decide (0 ≤ n ∧ n ≤ m)) := by
  unfold points_within.f
  by_cases h : 0 ≤ n
  · rw [if_pos h]; simp [h]
  · rw [if_neg h]; simp [h]
theorem weight_bad (n : Int) : points_validWeights_1.f n = some (!decide (0 ≤ n ∧ n ≤ 1000000)) := by
  unfold points_validWeights_1.f
  rw [within_eq]
  rfl
theorem index_l0 (l : List Int) (hl : l.length ≤ 1000) : ∀ (n : Nat) (i : Int), 0 ≤ i → i + n = l.length →
    ∃ r, Ev (fun k => slices_IndexFunc_int_int__points_validWeights_1.l0 k l (l.length : Int) i) r ∧ (r ≥ 0 ↔ ∃ j : Int, i ≤ j ∧ j < l.length ∧ ¬ (0 ≤ rd l j ∧ rd l j ≤ 1000000)) := by
  intro n
  induction n with
  | zero =>
    intro i h0 hi
    refine ⟨-1, evUp 0 fun k _ => ?_, ⟨fun h => by omega, fun ⟨j, h1, h2, _⟩ => by omega⟩⟩
    rw [slices_IndexFunc_int_int__points_validWeights_1.l0, if_neg (by omega)]
  | succ n ih =>
    intro i h0 hi
    by_cases c : 0 ≤ rd l i ∧ rd l i ≤ 1000000
    · obtain ⟨r, ⟨K, hK⟩, hr⟩ := ih (i + 1) (by omega) (by omega)
      refine ⟨r, evUp K fun k hk => ?_, hr.trans ⟨fun ⟨j, h1, h2, h3⟩ => ⟨j, by omega, h2, h3⟩, fun ⟨j, h1, h2, h3⟩ => ⟨j, by
        by_cases e : j = i
        · subst e; exact absurd c h3
        · omega, h2, h3⟩⟩⟩
      rw [slices_IndexFunc_int_int__points_validWeights_1.l0, if_pos (by omega), if_pos h0, if_pos (by omega), weight_bad, Option.bind_some, decide_eq_true c, if_neg (by simp), w64 (by omega) (by omega)]
      exact hK k hk
    · refine ⟨i, evUp 0 fun k _ => ?_, ⟨fun _ => ⟨i, by omega, by omega, c⟩, fun _ => h0⟩⟩
      rw [slices_IndexFunc_int_int__points_validWeights_1.l0, if_pos (by omega), if_pos h0, if_pos (by omega), weight_bad, Option.bind_some, decide_eq_false c, if_pos (by simp)]
theorem weights_ev (a b c d : Int) : Ev (fun k => points_validWeights.f k a b c d) (validW a b c d) := by
  obtain ⟨r, ⟨K, hK⟩, hr⟩ := index_l0 [a, b, c, d] (by simp) 4 0 (by omega) (by simp)
  refine ⟨K, fun k hk => ?_⟩
  show points_validWeights.f k a b c d = _
  unfold points_validWeights.f slices_ContainsFunc_int_int__points_validWeights_1.f slices_IndexFunc_int_int__points_validWeights_1.f
  have h1 := hK k hk
  dsimp only at h1
  rw [h1]
  simp only [Option.bind_some]
  congr 1
  rw [Bool.eq_iff_iff]
  unfold validW
  rw [Bool.not_eq_true', decide_eq_false_iff_not, decide_eq_true_eq, hr]
  constructor
  · intro h
    have e0 : 0 ≤ a ∧ a ≤ 1000000 := Classical.byContradiction fun q => h ⟨0, by omega, by simp, q⟩
    have e1 : 0 ≤ b ∧ b ≤ 1000000 := Classical.byContradiction fun q => h ⟨1, by omega, by simp, q⟩
    have e2 : 0 ≤ c ∧ c ≤ 1000000 := Classical.byContradiction fun q => h ⟨2, by omega, by simp, q⟩
    have e3 : 0 ≤ d ∧ d ≤ 1000000 := Classical.byContradiction fun q => h ⟨3, by omega, by simp, q⟩
    exact ⟨e0, e1, e2, e3⟩
  · rintro ⟨e0, e1, e2, e3⟩ ⟨j, h1, h2, h3⟩
    have : j = 0 ∨ j = 1 ∨ j = 2 ∨ j = 3 := by simp at h2; omega
    rcases this with rfl | rfl | rfl | rfl
    · exact h3 e0
    · exact h3 e1
    · exact h3 e2
    · exact h3 e3
theorem rweight_eq (n : Int) : cohousingref21_weight.f n = some (decide (0 ≤ n ∧ n ≤ 1000000)) := by
  unfold cohousingref21_weight.f
  by_cases h : n ≥ 0
  · rw [if_pos h]; simp [show 0 ≤ n from h]
  · rw [if_neg h]; simp [show ¬ 0 ≤ n from h]
theorem rweights_eq (a b c d : Int) : cohousingref21_Weights.f a b c d = some (validW a b c d) := by
  unfold cohousingref21_Weights.f validW
  rw [rweight_eq, rweight_eq, rweight_eq, rweight_eq]
  by_cases h1 : 0 ≤ a ∧ a ≤ 1000000
  · by_cases h2 : 0 ≤ b ∧ b ≤ 1000000
    · by_cases h3 : 0 ≤ c ∧ c ≤ 1000000
      · simp [h1, h2, h3]
      · simp [h1, h2, h3]
    · simp [h1, h2]
  · simp [h1]
theorem home_eq (h s n l p : Int) : points_home_valid.f h s n l p = some (validH h s n l p) := by
  unfold points_home_valid.f validH
  rw [within_eq, within_eq, within_eq, within_eq]
  by_cases h1 : h ≥ 1
  · by_cases h2 : h ≤ 64
    · by_cases h3 : 0 ≤ s ∧ s ≤ 36524
      · by_cases h4 : 0 ≤ n ∧ n ≤ 10
        · by_cases h5 : 0 ≤ l ∧ l ≤ 100000
          · have h1' : 1 ≤ h := h1
            simp [h1', h2, h3, h4, h5]
          · have h1' : 1 ≤ h := h1
            simp [h1', h2, h3, h4, h5]
        · have h1' : 1 ≤ h := h1
          simp [h1', h2, h3, h4]
      · have h1' : 1 ≤ h := h1
        simp [h1', h2, h3]
    · have h1' : 1 ≤ h := h1
      simp [h1', h2]
  · have h1' : ¬ 1 ≤ h := h1
    simp [h1']
theorem wait_eq (h s n l p : Int) : cohousingref21_Wait.f h s n l p = some (validH h s n l p) := by
  unfold cohousingref21_Wait.f
  rw [in_eq]
  simp only [Option.bind_some, decide_eq_true_eq]
  have key : validH h s n l p = decide (1 ≤ h ∧ h ≤ 64 ∧ (0 ≤ s ∧ s ≤ 36524) ∧ 0 ≤ n ∧ n ≤ 10 ∧ 0 ≤ l ∧ l ≤ 100000 ∧ 0 ≤ p ∧ p ≤ 1000) := by
    unfold validH
    rw [decide_eq_decide]
    omega
  rw [key]
  by_cases h1 : 1 ≤ h
  · rw [if_pos h1]
    by_cases h2 : h ≤ 64
    · rw [if_pos h2]
      by_cases h3 : 0 ≤ s ∧ s ≤ 36524
      · rw [if_pos h3]
        by_cases h4 : 0 ≤ n
        · rw [if_pos h4]
          by_cases h5 : n ≤ 10
          · rw [if_pos h5]
            by_cases h6 : 0 ≤ l
            · rw [if_pos h6]
              by_cases h7 : l ≤ 100000
              · rw [if_pos h7]
                by_cases h8 : 0 ≤ p
                · rw [if_pos h8]
                  simp [h1, h2, h3, h4, h5, h6, h7, h8]
                · rw [if_neg h8]; simp [h8]
              · rw [if_neg h7]; simp [h7]
            · rw [if_neg h6]; simp [h6]
          · rw [if_neg h5]; simp [h5]
        · rw [if_neg h4]; simp [h4]
      · rw [if_neg h3]; simp [h3]
    · rw [if_neg h2]; simp [h2]
  · rw [if_neg h1]; simp [h1]
theorem months_ev {s d : Int} (h0 : 0 ≤ s) (h1 : s ≤ 36524) (h2 : 0 ≤ d) (h3 : d ≤ 36524) (a b c e : Int) : Ev (fun k => points_home_months.f k a s b c e d) (monthsOf s d) := by
  obtain ⟨K1, hK1⟩ := date_ev s
  obtain ⟨K2, hK2⟩ := date_ev d
  obtain ⟨K3, hK3⟩ := month_ev s
  obtain ⟨K4, hK4⟩ := month_ev d
  dsimp only at hK1 hK2 hK3 hK4
  have r1 := mo_range h0 h1
  have r2 := mo_range h2 h3
  unfold moOf at r1 r2
  refine ⟨K1 + K2 + K3 + K4, fun k hk => ?_⟩
  show points_home_months.f k a s b c e d = _
  unfold points_home_months.f monthsOf ddOf moOf
  rw [hK1 k (by omega), hK2 k (by omega), hK3 k (by omega), hK4 k (by omega)]
  simp only [Option.bind_some]
  by_cases c : (dateOf d).2.2.1 < (dateOf s).2.2.1
  · rw [if_pos c, if_pos c, w64 (x := (monthOf d).1 - 1) (by omega) (by omega), w64 (by omega) (by omega)]
    congr 1
    omega
  · rw [if_neg c, if_neg c, w64 (by omega) (by omega)]
    congr 1
    omega
theorem rmonths_ev {s d : Int} (h0 : 0 ≤ s) (h1 : s ≤ 36524) (h2 : 0 ≤ d) (h3 : d ≤ 36524) : Ev (fun k => cohousingref21_Months.f k s d) (monthsOf s d) := by
  obtain ⟨K1, hK1⟩ := rdate_ev s
  obtain ⟨K2, hK2⟩ := rdate_ev d
  dsimp only at hK1 hK2
  obtain ⟨y, m, q, hs, es⟩ := dateOf_in h0 h1
  obtain ⟨y', m', q', hd, ed⟩ := dateOf_in h2 h3
  obtain ⟨e1, e2⟩ := mo_of hs
  obtain ⟨e3, e4⟩ := mo_of hd
  have a0 := hs.m0
  have a1 := hs.m1
  have a2 := hs.y0
  have a3 := hs.y1
  have b0 := hd.m0
  have b1 := hd.m1
  have b2 := hd.y0
  have b3 := hd.y1
  refine ⟨K1 + K2, fun k hk => ?_⟩
  show cohousingref21_Months.f k s d = _
  unfold cohousingref21_Months.f monthsOf
  rw [hK1 k (by omega), hK2 k (by omega), es, ed, e1, e2, e3, e4]
  simp only [Option.bind_some]
  rw [w64 (x := y' - y) (by omega) (by omega), w64 (x := 12 * (y' - y)) (by omega) (by omega), w64 (x := 12 * (y' - y) + m') (by omega) (by omega), w64 (x := 12 * (y' - y) + m' - m) (by omega) (by omega)]
  by_cases c : q' < q
  · rw [if_pos c, if_pos c, w64 (by omega) (by omega)]
    congr 1
    omega
  · rw [if_neg c, if_neg c]
    congr 1
    omega
theorem prod_bd {a b A B : Int} (h1 : 0 ≤ a) (h2 : a ≤ A) (h3 : 0 ≤ b) (h4 : b ≤ B) : 0 ≤ a * b ∧ a * b ≤ A * B :=
  ⟨Int.mul_nonneg h1 h3, Int.mul_le_mul h2 h4 h3 (by omega)⟩
theorem pts_bd {a b c d h s n l p day : Int} (hw : validW a b c d = true) (hh : validH h s n l p = true) (h1 : s ≤ day) (h2 : day ≤ 36524) :
    (0 ≤ monthsOf s day ∧ monthsOf s day ≤ 1199) ∧ (0 ≤ monthsOf s day * a ∧ monthsOf s day * a ≤ 1199000000) ∧ (0 ≤ n * b ∧ n * b ≤ 10000000) ∧ (0 ≤ l * c ∧ l * c ≤ 100000000000) ∧ (0 ≤ p * d ∧ p * d ≤ 1000000000) := by
  unfold validW at hw
  unfold validH at hh
  simp only [decide_eq_true_eq] at hw hh
  have e1 := months_nonneg (s := s) (d := day) (by omega) h1 h2
  have e2 := (months_le (s := s) (d := day) (by omega) (by omega) (by omega) h2).2
  have q1 := prod_bd e1 e2 hw.1.1 hw.1.2
  have q2 := prod_bd hh.2.2.1.1 hh.2.2.1.2 hw.2.1.1 hw.2.1.2
  have q3 := prod_bd hh.2.2.2.1.1 hh.2.2.2.1.2 hw.2.2.1.1 hw.2.2.1.2
  have q4 := prod_bd hh.2.2.2.2.1 hh.2.2.2.2.2 hw.2.2.2.1 hw.2.2.2.2
  omega
theorem sum_w64 {x y z t : Int} (h1 : 0 ≤ x ∧ x ≤ 1199000000) (h2 : 0 ≤ y ∧ y ≤ 10000000) (h3 : 0 ≤ z ∧ z ≤ 100000000000) (h4 : 0 ≤ t ∧ t ≤ 1000000000) :
    wrap64 (wrap64 (wrap64 (wrap64 x + wrap64 y) + wrap64 z) + wrap64 t) = x + y + z + t := by
  rw [w64 (x := x) (by omega) (by omega), w64 (x := y) (by omega) (by omega), w64 (x := z) (by omega) (by omega), w64 (x := t) (by omega) (by omega), w64 (x := x + y) (by omega) (by omega), w64 (x := x + y + z) (by omega) (by omega), w64 (by omega) (by omega)]
/-- What a household's points are, its values and the weights being valid. -/
theorem hcount_ev {a b c d h s n l p day : Int} (hw : validW a b c d = true) (hh : validH h s n l p = true) : Ev (fun k => points_home_count.f k h s n l p a b c d day) (countOf 21 a b c d h s n l p day) := by
  unfold countOf
  rw [if_pos (by rw [hw, hh]; rfl)]
  by_cases c1 : 0 ≤ day ∧ day ≤ 36524
  · rw [if_pos c1]
    by_cases c2 : s > day
    · rw [if_pos c2]
      refine ⟨0, fun k _ => ?_⟩
      show points_home_count.f k h s n l p a b c d day = _
      unfold points_home_count.f
      rw [within_eq, Option.bind_some, if_pos (decide_eq_true c1), if_pos c2]
    · rw [if_neg c2]
      have hs : 0 ≤ s ∧ s ≤ 36524 := by
        unfold validH at hh
        simp only [decide_eq_true_eq] at hh
        exact hh.2.1
      obtain ⟨K, hK⟩ := months_ev hs.1 hs.2 c1.1 c1.2 h n l p
      dsimp only at hK
      obtain ⟨q0, q1, q2, q3, q4⟩ := pts_bd hw hh (show s ≤ day by omega) c1.2
      refine ⟨K, fun k hk => ?_⟩
      show points_home_count.f k h s n l p a b c d day = _
      unfold points_home_count.f ptsOf
      rw [within_eq, Option.bind_some, if_pos (decide_eq_true c1), if_neg c2, hK k hk, Option.bind_some, sum_w64 q1 q2 q3 q4]
      split <;> rfl
  · rw [if_neg c1]
    refine ⟨0, fun k _ => ?_⟩
    show points_home_count.f k h s n l p a b c d day = _
    unfold points_home_count.f
    rw [within_eq, Option.bind_some, if_neg (by simpa using c1)]
theorem count_ev (a b c d h s n l p day : Int) : Ev (fun k => points_Count.f k a b c d h s n l p day) (countOf 21 a b c d h s n l p day) := by
  obtain ⟨K, hK⟩ := weights_ev a b c d
  dsimp only at hK
  by_cases hw : validW a b c d = true
  · by_cases hh : validH h s n l p = true
    · obtain ⟨K2, hK2⟩ := hcount_ev (day := day) hw hh
      dsimp only at hK2
      refine ⟨K + K2, fun k hk => ?_⟩
      show points_Count.f k a b c d h s n l p day = _
      unfold points_Count.f
      rw [hK k (by omega), Option.bind_some, if_pos hw, home_eq, Option.bind_some, if_pos hh, hK2 k (by omega), Option.bind_some]
    · refine ⟨K, fun k hk => ?_⟩
      show points_Count.f k a b c d h s n l p day = _
      unfold points_Count.f countOf
      rw [hK k hk, Option.bind_some, if_pos hw, home_eq, Option.bind_some, if_neg hh, if_neg (by rw [hw]; simpa using hh)]
  · refine ⟨K, fun k hk => ?_⟩
    show points_Count.f k a b c d h s n l p day = _
    unfold points_Count.f countOf
    rw [hK k hk, Option.bind_some, if_neg hw, if_neg (by rw [Bool.not_eq_true] at hw; rw [hw]; simp)]
theorem rcount_ev (a b c d h s n l p day : Int) : Ev (fun k => cohousingref21_Count.f k a b c d h s n l p day) (countOf 21 a b c d h s n l p day) := by
  by_cases hw : validW a b c d = true
  · by_cases hh : validH h s n l p = true
    · unfold countOf
      rw [if_pos (by rw [hw, hh]; rfl)]
      by_cases c1 : 0 ≤ day ∧ day ≤ 36524
      · rw [if_pos c1]
        by_cases c2 : s > day
        · rw [if_pos c2]
          refine evUp 0 fun k _ => ?_
          show cohousingref21_Count.f (k + 1) a b c d h s n l p day = _
          unfold cohousingref21_Count.f
          rw [rweights_eq, Option.bind_some, if_pos hw, wait_eq, Option.bind_some, hh, cohousingref21_Count.j0, if_neg (by simp), in_eq, Option.bind_some, if_pos (decide_eq_true c1), if_pos c2]
        · rw [if_neg c2]
          have hs : 0 ≤ s ∧ s ≤ 36524 := by
            unfold validH at hh
            simp only [decide_eq_true_eq] at hh
            exact hh.2.1
          obtain ⟨K, hK⟩ := rmonths_ev hs.1 hs.2 c1.1 c1.2
          dsimp only at hK
          obtain ⟨q0, q1, q2, q3, q4⟩ := pts_bd hw hh (show s ≤ day by omega) c1.2
          refine evUp K fun k hk => ?_
          show cohousingref21_Count.f (k + 1) a b c d h s n l p day = _
          unfold cohousingref21_Count.f ptsOf
          rw [rweights_eq, Option.bind_some, if_pos hw, wait_eq, Option.bind_some, hh, cohousingref21_Count.j0, if_neg (by simp), in_eq, Option.bind_some, if_pos (decide_eq_true c1), if_neg c2, hK k hk, Option.bind_some, sum_w64 q1 q2 q3 q4]
          split <;> rfl
      · rw [if_neg c1]
        refine evUp 0 fun k _ => ?_
        show cohousingref21_Count.f (k + 1) a b c d h s n l p day = _
        unfold cohousingref21_Count.f
        rw [rweights_eq, Option.bind_some, if_pos hw, wait_eq, Option.bind_some, hh, cohousingref21_Count.j0, if_neg (by simp), in_eq, Option.bind_some, if_neg (by simpa using c1)]
    · refine evUp 0 fun k _ => ?_
      show cohousingref21_Count.f (k + 1) a b c d h s n l p day = _
      rw [Bool.not_eq_true] at hh
      unfold cohousingref21_Count.f countOf
      rw [rweights_eq, Option.bind_some, if_pos hw, wait_eq, Option.bind_some, hh, cohousingref21_Count.j0, if_pos (by rfl), if_neg (by simp)]
  · refine evUp 0 fun k _ => ?_
    show cohousingref21_Count.f (k + 1) a b c d h s n l p day = _
    rw [Bool.not_eq_true] at hw
    unfold cohousingref21_Count.f countOf
    rw [rweights_eq, Option.bind_some, hw, if_neg (by simp), cohousingref21_Count.j0, if_pos rfl, if_neg (by simp)]
end Go.Proofs.YtfhmbfadbfnnaaaDoor.Pts
