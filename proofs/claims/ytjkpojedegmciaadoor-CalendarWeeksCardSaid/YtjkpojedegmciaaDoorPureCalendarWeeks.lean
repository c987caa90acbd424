/- For every day: the next day is on the next day of the week, and the same date 28 years later, if it is before the year 2100, is on the same day of the week. Conditions: none beyond the statement's own. -/
import Derived.Test.YtjkpojedegmciaaDoorCalHead
import Derived.Test.YtjkpojedegmciaaDoorPx15
namespace Go.Proofs.YtjkpojedegmciaaDoor.Pure
open Go.RowKit Go.Proofs.YtjkpojedegmciaaDoorW.PrintWords Go.Proofs.YtjkpojedegmciaaDoor.Given Go.Proofs.YtjkpojedegmciaaDoor.Px Go.Proofs.YtjkpojedegmciaaDoor.Cal
set_option linter.unusedVariables false
set_option linter.unusedSimpArgs false
theorem weeks_j1 (a0 : Int) (h : 0 ≤ a0) (h1 : a0 ≤ 36524) : Ev (fun k => cohousinglaw03_CalendarWeeks.j1 k a0 true ((a0 + 5) % 7)) true := by
  obtain ⟨y, m, d, hd, e⟩ := dateOf_in h h1
  obtain ⟨K1, h1⟩ := date_ev a0
  rw [e] at h1
  dsimp only at h1
  have hyw : wrap64 (y + 28) = y + 28 := w64 (by have := hd.y0; omega) (by have := hd.y1; omega)
  by_cases c : y + 28 > 2099
  · refine evUp K1 fun k hk => ?_
    rw [cohousinglaw03_CalendarWeeks.j1, h1 k hk]
    simp only [Option.bind_some, if_true]
    rw [hyw, if_pos c]
  · have el : leapI (y + 28) = leapI y := by unfold leapI; rw [show (y + 28) % 4 = y % 4 by omega]
    have ec : ∀ i, cum (y + 28) i = cum y i := fun i => by unfold cum; rw [el]
    have em : ∀ i, mlen (y + 28) i = mlen y i := fun i => by unfold mlen; rw [ec, ec]
    have hv : ValidD (y + 28) m d := ⟨by have := hd.y0; omega, by omega, hd.m0, hd.m1, hd.d0, by rw [em]; exact hd.d1⟩
    have hs : ystart (y + 28) = ystart y + 10227 := by unfold ystart; omega
    obtain ⟨K2, h2⟩ := day_ev (y + 28) m d
    have ed : dayOf (y + 28) m d = (a0 + 10227, 0) := by
      unfold dayOf
      rw [if_pos hv, ec, hs]
      have := hd.eq
      congr 1
      omega
    rw [ed] at h2
    dsimp only at h2
    have hr := (isDate_of hv).range
    rw [ec, hs] at hr
    have hr2 : 0 ≤ a0 + 10227 ∧ a0 + 10227 ≤ 36524 := by have := hd.eq; omega
    have e7 : (a0 + 10227 + 5) % 7 = (a0 + 5) % 7 := by omega
    refine evUp (K1 + K2) fun k hk => ?_
    rw [cohousinglaw03_CalendarWeeks.j1, h1 k (by omega)]
    simp only [Option.bind_some, if_true]
    rw [hyw, if_neg c, h2 k (by omega)]
    simp only [Option.bind_some, Weekday_eq, weekdayOf, if_pos hr2, e7, if_true]
    simp
theorem CalendarWeeks : cohousinglaw03_CalendarWeeks.Pure := by
  intro a0 _
  obtain ⟨K0, h0⟩ := head_ev
  dsimp only at h0
  by_cases c : 0 ≤ a0 ∧ a0 ≤ 36524
  · obtain ⟨K1, h1⟩ := weeks_j1 a0 c.1 c.2
    dsimp only at h1
    refine ⟨K0 + K1 + 1, ?_⟩
    unfold cohousinglaw03_CalendarWeeks.f
    rw [h0 _ (by omega)]
    simp only [Option.bind_some, Weekday_eq]
    have hw : weekdayOf a0 = ((a0 + 5) % 7, 0) := by unfold weekdayOf; rw [if_pos c]
    rw [hw]
    simp only [if_true]
    rw [if_neg (by omega), decide_eq_false (by omega), cohousinglaw03_CalendarWeeks.j0, if_neg (by simp)]
    by_cases d : a0 < 36524
    · have hw2 : weekdayOf (a0 + 1) = ((a0 + 6) % 7, 0) := by unfold weekdayOf; rw [if_pos (by omega), show a0 + 1 + 5 = a0 + 6 by omega]
      rw [if_pos d, w64 (x := a0 + 1) (by omega) (by omega), Weekday_eq, hw2, w64 (by omega) (by omega), tmod_pos (by omega)]
      simp only [Option.bind_some, if_true]
      rw [show ((a0 + 6) % 7 == ((a0 + 5) % 7 + 1) % 7) = true from beq_iff_eq.mpr (by omega)]
      exact h1 _ (by omega)
    · rw [if_neg d]
      exact h1 _ (by omega)
  · refine ⟨K0, ?_⟩
    unfold cohousinglaw03_CalendarWeeks.f
    rw [h0 _ (by omega)]
    have hw : weekdayOf a0 = (0, 3) := by unfold weekdayOf; rw [if_neg c]
    simp only [Option.bind_some, Weekday_eq, hw]
    by_cases d : a0 < 0
    · simp [d]
    · have d2 : 36524 < a0 := by omega
      simp [d, d2]
end Go.Proofs.YtjkpojedegmciaaDoor.Pure
