/- For every day but the last one, the date of the next day is the next day of the same month, or the first day of the next month, if there is no such date in this month. Conditions: none beyond the statement's own. -/
import Derived.Test.YtjkpojedegmciaaDoorCalHead
import Derived.Test.YtjkpojedegmciaaDoorPx13
namespace Go.Proofs.YtjkpojedegmciaaDoor.Pure
open Go.RowKit Go.Proofs.YtjkpojedegmciaaDoorW.PrintWords Go.Proofs.YtjkpojedegmciaaDoor.Given Go.Proofs.YtjkpojedegmciaaDoor.Px Go.Proofs.YtjkpojedegmciaaDoor.Cal
set_option linter.unusedVariables false
set_option linter.unusedSimpArgs false
theorem CalendarSuccession : cohousinglaw03_CalendarSuccession.Pure := by
  intro a0 _
  obtain ⟨K0, h0⟩ := head_ev
  dsimp only at h0
  by_cases c : 0 ≤ a0 ∧ a0 < 36524
  · obtain ⟨y, m, d, hd, e⟩ := dateOf_in c.1 (by omega)
    obtain ⟨y', m', d', hd', e'⟩ := dateOf_in (day := a0 + 1) (by omega) (by omega)
    obtain ⟨K1, h1⟩ := date_ev a0
    obtain ⟨K2, h2⟩ := date_ev (a0 + 1)
    obtain ⟨K3, h3⟩ := day_ev y m (d + 1)
    rw [e] at h1
    rw [e'] at h2
    dsimp only at h1 h2 h3
    have hw : wrap64 (a0 + 1) = a0 + 1 := w64 (by omega) (by omega)
    have hb := mlen_bd y (m := m - 1) (by have := hd.m0; omega) (by have := hd.m1; omega)
    have hdw : wrap64 (d + 1) = d + 1 := w64 (by have := hd.d0; omega) (by have := hd.d1; omega)
    have hmw : wrap64 (m + 1) = m + 1 := w64 (by have := hd.m0; omega) (by have := hd.m1; omega)
    have hyw : wrap64 (y + 1) = y + 1 := w64 (by have := hd.y0; omega) (by have := hd.y1; omega)
    have n0 : ¬ a0 < 0 := by omega
    have n1 : ¬ 36524 ≤ a0 := by omega
    refine ⟨K0 + K1 + K2 + K3 + 10, ?_⟩
    unfold cohousinglaw03_CalendarSuccession.f
    by_cases v : d + 1 ≤ mlen y (m - 1)
    · have hv : ValidD y m (d + 1) := ⟨hd.y0, hd.y1, hd.m0, hd.m1, by have := hd.d0; omega, v⟩
      have hn := isDate_of hv
      have en : ystart y + cum y (m - 1) + (d + 1) - 1 = a0 + 1 := by have := hd.eq; omega
      rw [dayOf_eq hn] at h3
      rw [en] at hn
      obtain ⟨rfl, rfl, rfl⟩ := hd'.uniq hn
      rw [h0 _ (by omega)]
      simp only [Option.bind_some]
      rw [if_neg n0, decide_eq_false n1, cohousinglaw03_CalendarSuccession.j0, if_neg (by simp), h1 _ (by omega), hw, h2 _ (by omega)]
      simp only [Option.bind_some, if_true, bne_self_eq_false]
      rw [cohousinglaw03_CalendarSuccession.j1, if_neg (by simp), hdw, h3 _ (by omega)]
      simp only [Option.bind_some, if_true, beq_self_eq_true]
    · have hv : ¬ ValidD y m (d + 1) := fun h => v h.2.2.2.2.2
      have hlast : d = mlen y (m - 1) := by have := hd.d1; omega
      have e3 : dayOf y m (d + 1) = (0, 3) := by unfold dayOf; rw [if_neg hv]
      rw [e3] at h3
      have hmid : cum y m = cum y (m - 1) + d := by
        rw [hlast]; unfold mlen; rw [show m - 1 + 1 = m by omega]; omega
      by_cases m12 : m = 12
      · subst m12
        have hys := ystart_succ y
        rw [cum12] at hmid
        have hy9 : y + 1 ≤ 2099 := by
          have h1 := hd.eq
          have h2 := hd.y1
          by_cases q : y = 2099
          · subst q
            have := ystart_2100
            rw [show (2099 : Int) + 1 = 2100 by rfl] at hys
            omega
          · omega
        have hn : IsDate (a0 + 1) (y + 1) 1 1 := ⟨by have := hd.y0; omega, hy9, by omega, by omega, by omega, by have := (mlen_bd (y + 1) (m := 0) (by omega) (by omega)).1; rw [show (1 : Int) - 1 = 0 by rfl]; omega, by
          have := hd.eq
          rw [show (1 : Int) - 1 = 0 by rfl, cum0]
          omega⟩
        obtain ⟨rfl, rfl, rfl⟩ := hd'.uniq hn
        have ny : ¬ y + 1 = y := by omega
        rw [h0 _ (by omega)]
        simp only [Option.bind_some]
        rw [if_neg n0, decide_eq_false n1, cohousinglaw03_CalendarSuccession.j0, if_neg (by simp), h1 _ (by omega), hw, h2 _ (by omega)]
        simp only [Option.bind_some, if_true, bne_self_eq_false]
        rw [cohousinglaw03_CalendarSuccession.j1, if_neg (by simp), hdw, h3 _ (by omega)]
        simp only [Option.bind_some]
        rw [if_neg (by omega)]
        simp only [if_true]
        rw [if_neg ny, hyw]
        simp only [if_true]
        rfl
      · have hn : IsDate (a0 + 1) y (m + 1) 1 := ⟨hd.y0, hd.y1, by have := hd.m0; omega, by have := hd.m1; omega, by omega, by have := (mlen_bd y (m := m) (by have := hd.m0; omega) (by have := hd.m1; omega)).1; rw [show m + 1 - 1 = m by omega]; omega, by
          have := hd.eq
          rw [show m + 1 - 1 = m by omega]
          omega⟩
        obtain ⟨rfl, rfl, rfl⟩ := hd'.uniq hn
        rw [h0 _ (by omega)]
        simp only [Option.bind_some]
        rw [if_neg n0, decide_eq_false n1, cohousinglaw03_CalendarSuccession.j0, if_neg (by simp), h1 _ (by omega), hw, h2 _ (by omega)]
        simp only [Option.bind_some, if_true, bne_self_eq_false]
        rw [cohousinglaw03_CalendarSuccession.j1, if_neg (by simp), hdw, h3 _ (by omega)]
        simp only [Option.bind_some]
        rw [if_neg (by omega)]
        simp only [if_true, hmw]
  · refine ⟨K0 + 1, ?_⟩
    unfold cohousinglaw03_CalendarSuccession.f
    by_cases d : a0 < 0
    · rw [h0 _ (by omega)]
      simp only [Option.bind_some]
      rw [if_pos d, cohousinglaw03_CalendarSuccession.j0, if_pos rfl]
    · have d2 : 36524 ≤ a0 := by omega
      rw [h0 _ (by omega)]
      simp only [Option.bind_some]
      rw [if_neg d, decide_eq_true d2, cohousinglaw03_CalendarSuccession.j0, if_pos rfl]
end Go.Proofs.YtjkpojedegmciaaDoor.Pure
