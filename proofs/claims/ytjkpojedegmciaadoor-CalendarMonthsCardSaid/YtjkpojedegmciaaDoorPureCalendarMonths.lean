/- For every month and day: a month has 28 to 31 days and begins where the one before it ends, a year has 365 or 366 days, and a day is among the days of a month exactly if Month returns this month. Conditions: none beyond the statement's own. -/
import Derived.Test.YtjkpojedegmciaaDoorCalHead
import Derived.Test.YtjkpojedegmciaaDoorPx14
namespace Go.Proofs.YtjkpojedegmciaaDoor.Pure
open Go.RowKit Go.Proofs.YtjkpojedegmciaaDoorW.PrintWords Go.Proofs.YtjkpojedegmciaaDoor.Given Go.Proofs.YtjkpojedegmciaaDoor.Px Go.Proofs.YtjkpojedegmciaaDoor.Cal
set_option linter.unusedVariables false
set_option linter.unusedSimpArgs false
theorem month_of_date {x y m d : Int} (hd : IsDate x y m d) : monthOf x = (12 * (y - 2000) + m - 1, 0) := by
  unfold monthOf
  rw [dateOf_eq hd]
  rfl
theorem in_month {M x : Int} (h : 0 ≤ M) (h1 : M ≤ 1199) (h2 : mstart M ≤ x) (h3 : x < mstart (M + 1)) : monthOf x = (M, 0) := by
  have hs := mstep h
  have hd : IsDate x (2000 + M / 12) (M % 12 + 1) (x - mstart M + 1) := by
    refine ⟨by omega, by omega, by omega, by omega, by omega, ?_, ?_⟩
    · rw [show M % 12 + 1 - 1 = M % 12 by omega]; omega
    · rw [show M % 12 + 1 - 1 = M % 12 by omega]; unfold mstart; omega
  rw [month_of_date hd]
  congr 1
  omega
theorem month_in {M x : Int} (h : 0 ≤ M) (h1 : M ≤ 1199) (h2 : monthOf x = (M, 0)) : mstart M ≤ x ∧ x < mstart (M + 1) := by
  by_cases c : 0 ≤ x ∧ x ≤ 36524
  · obtain ⟨y, m, d, hd, e⟩ := dateOf_in c.1 c.2
    rw [month_of_date hd] at h2
    have hM : 12 * (y - 2000) + m - 1 = M := congrArg Prod.fst h2
    have hl := hd.lo
    have := hd.m0
    have := hd.m1
    have := hd.y0
    rw [← mend h]
    unfold mstart
    rw [show 2000 + M / 12 = y by omega, show M % 12 = m - 1 by omega, show m - 1 + 1 = m by omega]
    exact hl
  · unfold monthOf at h2
    rw [dateOf_out (by omega)] at h2
    simp at h2
theorem months_last (x M : Int) (h : 0 ≤ M) (h1 : M ≤ 1199) : (if mstart M ≤ x then (if (monthOf x).2 = 0 then some ((decide (x < mstart (M + 1))) == ((monthOf x).1 == M)) else some ((decide (x < mstart (M + 1))) == false)) else (if (monthOf x).2 = 0 then some (false == ((monthOf x).1 == M)) else some (false == false))) = some true := by
  by_cases c : mstart M ≤ x ∧ x < mstart (M + 1)
  · rw [in_month h h1 c.1 c.2]
    simp [c.1, c.2]
  · have hne : (monthOf x).2 = 0 → ¬ (monthOf x).1 = M := fun a b => c (month_in h h1 (by rw [← a, ← b]))
    by_cases a : (monthOf x).2 = 0
    · have hb := hne a
      by_cases d : mstart M ≤ x
      · have e : ¬ x < mstart (M + 1) := fun e => c ⟨d, e⟩
        simp [a, hb, d, e]
      · simp [a, hb, d]
    · by_cases d : mstart M ≤ x
      · have e : ¬ x < mstart (M + 1) := fun e => c ⟨d, e⟩
        simp [a, d, e]
      · simp [a, d]
theorem CalendarMonths : cohousinglaw03_CalendarMonths.Pure := by
  intro a0 a1 _ _
  obtain ⟨K0, h0⟩ := head_ev
  obtain ⟨K1, h1⟩ := days_ev a0
  dsimp only at h0 h1
  by_cases c : 0 ≤ a0 ∧ a0 ≤ 1199
  · rw [daysOf_in c.1 c.2] at h1
    obtain ⟨K2, h2⟩ := days_ev (a0 - 1)
    obtain ⟨K3, h3⟩ := days_ev (a0 - 11)
    obtain ⟨K4, h4⟩ := month_ev a1
    dsimp only at h2 h3 h4
    have hs := mstep c.1
    have hb := mlen_bd (2000 + a0 / 12) (m := a0 % 12) (by omega) (by omega)
    have n0 : ¬ a0 < 0 := by omega
    have n1 : ¬ 1199 < a0 := by omega
    have w1 : wrap64 (a0 - 1) = a0 - 1 := w64 (by omega) (by omega)
    have w2 : wrap64 (a0 - 11) = a0 - 11 := w64 (by omega) (by omega)
    have w3 : wrap64 (mstart (a0 + 1) - mstart a0) = mstart (a0 + 1) - mstart a0 := w64 (by omega) (by omega)
    have hl := months_last a1 a0 c.1 c.2
    have fin : ∀ k, K2 + K3 + K4 ≤ k → cohousinglaw03_CalendarMonths.j2 (k + 1) a0 a1 true (mstart a0) (mstart (a0 + 1)) = some true := by
      intro k hk
      rw [cohousinglaw03_CalendarMonths.j2]
      by_cases d : a0 ≥ 11
      · have hy := year_of_months d
        have h3' := h3 k (by omega)
        rw [daysOf_in (by omega) (by omega), show a0 - 11 + 1 = a0 - 10 by omega] at h3'
        rw [if_pos d, w2, h3']
        simp only [Option.bind_some, if_true]
        rw [h4 k (by omega)]
        simp only [Option.bind_some]
        rcases hy with hy | hy
        · rw [if_pos (by rw [hy]; exact w64 (by omega) (by omega))]; exact hl
        · have e6 : wrap64 366 = 366 := w64 (by omega) (by omega)
          rw [hy, e6, if_neg (by omega), if_pos rfl]; exact hl
      · rw [if_neg d, h4 k (by omega)]
        simp only [Option.bind_some, if_true]
        exact hl
    refine ⟨K0 + K1 + K2 + K3 + K4 + 5, ?_⟩
    unfold cohousinglaw03_CalendarMonths.f
    rw [h0 _ (by omega), h1 _ (by omega)]
    simp only [Option.bind_some]
    rw [if_neg n0, decide_eq_false n1, cohousinglaw03_CalendarMonths.j0, if_neg (by simp), if_pos rfl, w3, if_neg (by omega), decide_eq_false (by omega), cohousinglaw03_CalendarMonths.j1, if_neg (by simp)]
    by_cases d : a0 > 0
    · have h2' := h2 (K0 + K1 + K2 + K3 + K4 + 3) (by omega)
      rw [daysOf_in (by omega) (by omega), show a0 - 1 + 1 = a0 by omega] at h2'
      rw [if_pos d, w1, h2']
      simp only [Option.bind_some, if_true, beq_self_eq_true]
      exact fin _ (by omega)
    · rw [if_neg d]
      exact fin _ (by omega)
  · have e : daysOf a0 = (0, 0, 3) := by unfold daysOf; rw [if_neg c]
    rw [e] at h1
    refine ⟨K0 + K1 + 1, ?_⟩
    unfold cohousinglaw03_CalendarMonths.f
    rw [h0 _ (by omega), h1 _ (by omega)]
    simp only [Option.bind_some]
    by_cases d : a0 < 0
    · rw [if_pos d, cohousinglaw03_CalendarMonths.j0, if_pos rfl, if_pos rfl]; rfl
    · rw [if_neg d, decide_eq_true (by omega), cohousinglaw03_CalendarMonths.j0, if_pos rfl, if_pos rfl]; rfl
end Go.Proofs.YtjkpojedegmciaaDoor.Pure
