/- For all weights, households and two days: on the later day there are not fewer points; from a day to the same date of the next month there are Month more, unless there would be too many. Conditions: none. -/
import Derived.Test.YtfhmbfadbfnnaaaDoorPtA
import Derived.Test.YtfhmbfadbfnnaaaDoorPx20
namespace Go.Proofs.YtfhmbfadbfnnaaaDoor.Pure
open Go.RowKit Go.Proofs.YtfhmbfadbfnnaaaDoorW.PrintWords Go.Proofs.YtfhmbfadbfnnaaaDoor.Given Go.Proofs.YtfhmbfadbfnnaaaDoor.Px Go.Proofs.YtfhmbfadbfnnaaaDoor.Cal Go.Proofs.YtfhmbfadbfnnaaaDoor.Pts
set_option linter.unusedVariables false
set_option linter.unusedSimpArgs false
theorem pts_nonneg {a b c d h s n l p day : Int} (hw : validW a b c d = true) (hh : validH h s n l p = true) (h1 : s ≤ day) (h2 : day ≤ 36524) : 0 ≤ ptsOf a b c d s n l p day := by
  obtain ⟨q0, q1, q2, q3, q4⟩ := pts_bd hw hh h1 h2
  unfold ptsOf
  omega
theorem pts_mono {a b c d h s n l p day later : Int} (hw : validW a b c d = true) (hh : validH h s n l p = true) (h1 : s ≤ day) (h2 : day ≤ later) (h3 : later ≤ 36524) : ptsOf a b c d s n l p day ≤ ptsOf a b c d s n l p later := by
  unfold validH at hh
  unfold validW at hw
  simp only [decide_eq_true_eq] at hh hw
  have := months_mono (s := s) (d := day) (l := later) (by omega) h1 h2 h3
  have := Int.mul_le_mul_of_nonneg_right this hw.1.1
  unfold ptsOf
  omega
theorem pts_next {a b c d s n l p day nx : Int} (h : monthsOf s nx = monthsOf s day + 1) : ptsOf a b c d s n l p nx = ptsOf a b c d s n l p day + a := by
  unfold ptsOf
  rw [h, Int.add_mul]
  omega
theorem PointsWaiting (a b c d h s n l p day later : Int) : Ev (fun k => cohousinglaw21_PointsWaiting.f k a b c d h s n l p day later) true := by
  obtain ⟨K0, h0⟩ := head_ev
  obtain ⟨K1, h1⟩ := count_ev a b c d h s n l p day
  obtain ⟨K2, h2⟩ := count_ev a b c d h s n l p later
  obtain ⟨K3, h3⟩ := date_ev day
  dsimp only at h0 h1 h2 h3
  have endT : ∀ k, cohousinglaw21_PointsWaiting.j0 (k + 1) day later true (countOf 21 a b c d h s n l p day).1 true a b c d h s n l p = some true := fun k => by rw [cohousinglaw21_PointsWaiting.j0, if_pos rfl]
  by_cases e : (countOf 21 a b c d h s n l p day).2 = 0
  case neg =>
    refine evUp (K0 + K1) fun k hk => ?_
    show cohousinglaw21_PointsWaiting.f (k + 1) a b c d h s n l p day later = _
    unfold cohousinglaw21_PointsWaiting.f
    rw [h0 _ (by omega), Option.bind_some, h1 _ (by omega), Option.bind_some, if_neg e, endT]
  obtain ⟨⟨hw, hh⟩, hd, hs, hp, hc⟩ := countOf_ok (by decide) e
  by_cases c1 : later < day
  · refine evUp (K0 + K1) fun k hk => ?_
    show cohousinglaw21_PointsWaiting.f (k + 1) a b c d h s n l p day later = _
    unfold cohousinglaw21_PointsWaiting.f
    rw [h0 _ (by omega), Option.bind_some, h1 _ (by omega), Option.bind_some, if_pos e, if_pos c1, endT]
  by_cases c2 : later > 36524
  · refine evUp (K0 + K1) fun k hk => ?_
    show cohousinglaw21_PointsWaiting.f (k + 1) a b c d h s n l p day later = _
    unfold cohousinglaw21_PointsWaiting.f
    rw [h0 _ (by omega), Option.bind_some, h1 _ (by omega), Option.bind_some, if_pos e, if_neg c1, decide_eq_true c2, endT]
  obtain ⟨y, m, q, hD, eD⟩ := dateOf_in hd.1 hd.2
  have y0 := hD.y0
  have y1 := hD.y1
  have m0 := hD.m0
  have m1 := hD.m1
  have e1 : wrap64 (y + wrap64 (Int.tdiv m 12)) = y + m / 12 := by
    rw [tdiv_pos (by omega), w64 (x := m / 12) (by omega) (by omega), w64 (by omega) (by omega)]
  have e2 : wrap64 (Int.tmod m 12 + 1) = m % 12 + 1 := by
    rw [tmod_pos (by omega), w64 (by omega) (by omega)]
  obtain ⟨K4, h4⟩ := day_ev (y + m / 12) (m % 12 + 1) q
  dsimp only at h4
  obtain ⟨K5, h5⟩ := count_ev a b c d h s n l p (dayOf (y + m / 12) (m % 12 + 1) q).1
  dsimp only at h5
  have hj2 : ∀ x90 : Bool, (x90 = false → (dayOf (y + m / 12) (m % 12 + 1) q).2 = 0) → ∀ k, K5 ≤ k → cohousinglaw21_PointsWaiting.j2 (k + 1) true (countOf 21 a b c d h s n l p day).1 (dayOf (y + m / 12) (m % 12 + 1) q).1 x90 a b c d h s n l p = some true := by
    intro x90 hx k hk
    cases x90 with
    | true => rw [cohousinglaw21_PointsWaiting.j2, if_pos rfl]
    | false =>
      have hv := hx rfl
      rw [cohousinglaw21_PointsWaiting.j2, if_neg (by decide), h5 _ hk, Option.bind_some]
      have hV : ValidD (y + m / 12) (m % 12 + 1) q := Classical.byContradiction fun hn => by
        unfold dayOf at hv
        rw [if_neg hn] at hv
        simp at hv
      have hN := isDate_of hV
      have eN := dayOf_eq hN
      rw [eN]
      generalize ystart (y + m / 12) + cum (y + m / 12) (m % 12 + 1 - 1) + q - 1 = nx at hN eN ⊢
      have hn := months_next (s := s) hD hN (by omega)
      obtain ⟨n0, n1⟩ := hN.range
      have hsn : s ≤ nx := by
        rcases Int.lt_or_le nx day with c | c
        · have := (mo_mono (s := nx) (d := day) n0 (by omega) hd.2).1
          rw [(mo_of hN).1, (mo_of hD).1] at this
          omega
        · omega
      have ha : 0 ≤ a ∧ a ≤ 1000000 := by
        unfold validW at hw
        simp only [decide_eq_true_eq] at hw
        exact hw.1
      have hpos := pts_nonneg hw hh hs hd.2
      rw [hc, countOf_in hw hh ⟨n0, n1⟩ hsn, pts_next (s := s) hn]
      dsimp only
      rw [w64 (by omega) (by omega)]
      by_cases cc : ptsOf a b c d s n l p day + a > 1000000000
      · rw [if_pos cc, if_pos cc, if_pos rfl]
        rfl
      · rw [if_neg cc, if_neg cc, if_pos rfl, if_pos rfl]
        simp
  have hj1 : ∀ k, K3 + K4 + K5 + 1 ≤ k → cohousinglaw21_PointsWaiting.j1 (k + 1) day true (countOf 21 a b c d h s n l p day).1 false a b c d h s n l p = some true := by
    intro k hk
    rw [cohousinglaw21_PointsWaiting.j1, if_neg (by decide), h3 _ (by omega), Option.bind_some, eD]
    dsimp only
    rw [if_pos rfl, e1, e2, h4 _ (by omega), Option.bind_some]
    obtain ⟨k, rfl⟩ : ∃ j, k = j + 1 := ⟨k - 1, by omega⟩
    by_cases cz : (dayOf (y + m / 12) (m % 12 + 1) q).2 = 0
    · rw [if_pos cz, hj2 _ (fun _ => cz) k (by omega)]
    · rw [if_neg cz, hj2 _ (fun hf => by cases hf) k (by omega)]
  refine evUp (K0 + K1 + K2 + K3 + K4 + K5 + 2) fun k hk => ?_
  show cohousinglaw21_PointsWaiting.f (k + 1) a b c d h s n l p day later = _
  unfold cohousinglaw21_PointsWaiting.f
  rw [h0 _ (by omega), Option.bind_some, h1 _ (by omega), Option.bind_some, if_pos e, if_neg c1, decide_eq_false c2, cohousinglaw21_PointsWaiting.j0, if_neg (by decide), h2 _ (by omega), Option.bind_some]
  obtain ⟨k, rfl⟩ : ∃ j, k = j + 1 := ⟨k - 1, by omega⟩
  have hl := countOf_in (E := 21) hw hh (day := later) ⟨by omega, by omega⟩ (by omega)
  by_cases cl : ptsOf a b c d s n l p later > 1000000000
  · rw [if_pos cl] at hl
    rw [hl]
    dsimp only
    rw [if_neg (by decide), if_pos rfl, hj1 k (by omega)]
  · rw [if_neg cl] at hl
    rw [hl]
    dsimp only
    have hm := pts_mono hw hh hs (show day ≤ later by omega) (by omega)
    rw [if_pos rfl, hc]
    dsimp only
    rw [decide_eq_false (by omega)]
    have := hj1 k (by omega)
    rw [hc] at this
    exact this
end Go.Proofs.YtfhmbfadbfnnaaaDoor.Pure
