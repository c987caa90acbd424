/- For any numbers and any list of holidays, all functions of package calendar return what the reference implementation returns (up to 150 holidays). Conditions: none beyond the statement's own. -/
import Derived.Test.YtjkpojedegmciaaDoorCalHead
import Derived.Test.YtjkpojedegmciaaDoorPx12
namespace Go.Proofs.YtjkpojedegmciaaDoor.Pure
open Go.RowKit Go.Proofs.YtjkpojedegmciaaDoorW.PrintWords Go.Proofs.YtjkpojedegmciaaDoor.Given Go.Proofs.YtjkpojedegmciaaDoor.Px Go.Proofs.YtjkpojedegmciaaDoor.Cal
set_option linter.unusedVariables false
set_option linter.unusedSimpArgs false
theorem CalendarMatchesReference : cohousinglaw03_CalendarMatchesReference.Pure := by
  intro a0 a1 a2 a3 a4 a5 l6 _ _ _ _ _ _ _ _ _
  obtain ⟨K0, h0⟩ := head_ev
  by_cases c : (l6.length : Int) ≤ 150
  · obtain ⟨K1, h1⟩ := date_ev a0
    obtain ⟨K2, h2⟩ := rdate_ev a0
    obtain ⟨K3, h3⟩ := day_ev a1 a2 a3
    obtain ⟨K4, h4⟩ := rday_ev a1 a2 a3
    obtain ⟨K5, h5⟩ := month_ev a0
    obtain ⟨K6, h6⟩ := rmonth_ev a0
    obtain ⟨K7, h7⟩ := days_ev a2
    obtain ⟨K8, h8⟩ := rdays_ev a2
    obtain ⟨K9, h9⟩ := working_ev a0 l6 (by omega)
    obtain ⟨K10, h10⟩ := rworking_ev a0 l6 (by omega)
    obtain ⟨K11, h11⟩ := deadline_ev a0 a4 a5 l6 (by omega)
    obtain ⟨K12, h12⟩ := rdeadline_ev a0 a4 a5 l6 (by omega)
    dsimp only at h0 h1 h2 h3 h4 h5 h6 h7 h8 h9 h10 h11 h12
    refine ⟨K0 + K1 + K2 + K3 + K4 + K5 + K6 + K7 + K8 + K9 + K10 + K11 + K12 + 20, ?_⟩
    unfold cohousinglaw03_CalendarMatchesReference.f
    rw [h0 _ (by omega), few_eq, decide_eq_true c]
    simp only [Option.bind_some, if_true]
    rw [h1 _ (by omega), h2 _ (by omega)]
    simp only [Option.bind_some, if_true, beq_self_eq_true]
    rw [cohousinglaw03_CalendarMatchesReference.j0, h3 _ (by omega), h4 _ (by omega)]
    simp only [Option.bind_some, if_true, beq_self_eq_true]
    rw [cohousinglaw03_CalendarMatchesReference.j1, Weekday_eq, RWeekday_eq]
    simp only [Option.bind_some, if_true, beq_self_eq_true]
    rw [cohousinglaw03_CalendarMatchesReference.j2, h5 _ (by omega), h6 _ (by omega)]
    simp only [Option.bind_some, if_true, beq_self_eq_true]
    rw [cohousinglaw03_CalendarMatchesReference.j3, h7 _ (by omega), h8 _ (by omega)]
    simp only [Option.bind_some, if_true, beq_self_eq_true, Bool.and_self]
    rw [cohousinglaw03_CalendarMatchesReference.j4, h9 _ (by omega), h10 _ (by omega)]
    simp only [Option.bind_some, if_true, beq_self_eq_true]
    rw [cohousinglaw03_CalendarMatchesReference.j5, h11 _ (by omega), h12 _ (by omega)]
    simp only [Option.bind_some, if_true, beq_self_eq_true]
  · dsimp only at h0
    refine ⟨K0, ?_⟩
    unfold cohousinglaw03_CalendarMatchesReference.f
    rw [h0 K0 (by omega), few_eq, decide_eq_false c]
    rfl
end Go.Proofs.YtjkpojedegmciaaDoor.Pure
