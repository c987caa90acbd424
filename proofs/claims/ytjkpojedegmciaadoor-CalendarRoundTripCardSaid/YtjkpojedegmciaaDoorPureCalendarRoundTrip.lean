/- For every day, Day returns it for the date that Date returns; for every date, Date returns it for the day that Day returns. Conditions: none beyond the statement's own. -/
import Derived.Test.YtjkpojedegmciaaDoorCalHead
import Derived.Test.YtjkpojedegmciaaDoorPx13
namespace Go.Proofs.YtjkpojedegmciaaDoor.Pure
open Go.RowKit Go.Proofs.YtjkpojedegmciaaDoorW.PrintWords Go.Proofs.YtjkpojedegmciaaDoor.Given Go.Proofs.YtjkpojedegmciaaDoor.Px Go.Proofs.YtjkpojedegmciaaDoor.Cal
set_option linter.unusedVariables false
set_option linter.unusedSimpArgs false
theorem roundTrip_j0 (a1 a2 a3 : Int) : Ev (fun k => cohousinglaw03_CalendarRoundTrip.j0 k a1 a2 a3 true) true := by
  obtain ⟨K1, h1⟩ := day_ev a1 a2 a3
  dsimp only at h1
  by_cases v : ValidD a1 a2 a3
  · have hd := isDate_of v
    rw [dayOf_eq hd] at h1
    obtain ⟨K2, h2⟩ := date_ev (ystart a1 + cum a1 (a2 - 1) + a3 - 1)
    rw [dateOf_eq hd] at h2
    dsimp only at h2
    refine evUp (K1 + K2) fun k hk => ?_
    rw [cohousinglaw03_CalendarRoundTrip.j0, h1 k (by omega)]
    simp only [Option.bind_some]
    rw [h2 k (by omega)]
    simp
  · unfold dayOf at h1
    rw [if_neg v] at h1
    refine evUp K1 fun k hk => ?_
    rw [cohousinglaw03_CalendarRoundTrip.j0, h1 k (by omega)]
    simp
theorem CalendarRoundTrip : cohousinglaw03_CalendarRoundTrip.Pure := by
  intro a0 a1 a2 a3 _ _ _ _
  obtain ⟨K0, h0⟩ := head_ev
  obtain ⟨K1, h1⟩ := date_ev a0
  obtain ⟨K2, h2⟩ := roundTrip_j0 a1 a2 a3
  dsimp only at h0 h1 h2
  by_cases c : 0 ≤ a0 ∧ a0 ≤ 36524
  · obtain ⟨y, m, d, hd, e⟩ := dateOf_in c.1 c.2
    rw [e] at h1
    obtain ⟨K3, h3⟩ := day_ev y m d
    rw [dayOf_eq hd] at h3
    dsimp only at h3
    refine ⟨K0 + K1 + K2 + K3, ?_⟩
    unfold cohousinglaw03_CalendarRoundTrip.f
    simp (disch := omega) [h0, h1, h2, h3]
  · rw [dateOf_out (by omega)] at h1
    refine ⟨K0 + K1 + K2, ?_⟩
    unfold cohousinglaw03_CalendarRoundTrip.f
    by_cases d : a0 < 0
    · simp (disch := omega) [h0, h1, h2, d]
    · have d2 : 36524 < a0 := by omega
      simp (disch := omega) [h0, h1, h2, d, d2]
end Go.Proofs.YtjkpojedegmciaaDoor.Pure
