/- What the calendar's functions, as far as the points' laws come to them, compute. Conditions: as each theorem states. -/
import Derived.Test.YtfhmbfadbfnnaaaDoorCalM
import Derived.Test.YtfhmbfadbfnnaaaDoorGTab
import Derived.Test.YtfhmbfadbfnnaaaDoorPx1
import Derived.Test.YtfhmbfadbfnnaaaDoorPx2
import Derived.Test.YtfhmbfadbfnnaaaDoorPx19
namespace Go.Proofs.YtfhmbfadbfnnaaaDoor.Cal
open Go.RowKit Go.Proofs.YtfhmbfadbfnnaaaDoorW.PrintWords Go.Proofs.YtfhmbfadbfnnaaaDoor.Given Go.Proofs.YtfhmbfadbfnnaaaDoor.Px
set_option linter.unusedVariables false
set_option linter.unusedSimpArgs false

theorem tmod_pos {a b : Int} (h : 0 ≤ a) : Int.tmod a b = a % b := Int.tmod_eq_emod_of_nonneg h
theorem tdiv_pos {a b : Int} (h : 0 ≤ a) : Int.tdiv a b = a / b := Int.tdiv_eq_ediv_of_nonneg h

theorem valid_eq (d : Int) : calendar_valid.f d = some (decide (0 ≤ d ∧ d ≤ 36524)) := by
  unfold calendar_valid.f
  by_cases h : 0 ≤ d
  · rw [if_pos h]; simp [h]
  · rw [if_neg h]; simp [h]
theorem length_eq {y m : Int} (hy : 0 ≤ y) (h : 0 ≤ m) (h2 : m ≤ 11) : calendar_length.f y m = some (mlen y m) := by
  rw [mlen_eq h h2]
  unfold calendar_length.f tabL
  rw [tmod_pos hy]
  by_cases c : m = 1
  · rw [if_pos c, if_pos c]; split <;> rfl
  · rw [if_neg c, if_neg c, if_pos ⟨h, by omega⟩]
theorem date_l0 (y : Int) (hy : 2000 ≤ y) (hy1 : y ≤ 2099) : ∀ (n : Nat) (m r : Int), 0 ≤ m → m + n = 11 → 0 ≤ r → cum y m + r < cum y 12 →
    ∃ M dd, IsDate (ystart y + cum y m + r) y M dd ∧ Ev (fun k => calendar_Date.l0 k y m r) (y, M, dd, 0) := by
  intro n
  induction n with
  | zero =>
    intro m r h0 hm hr hc
    obtain rfl : m = 11 := by omega
    refine ⟨12, r + 1, ⟨hy, hy1, by omega, by omega, by omega, ?_, by rw [show (12 : Int) - 1 = 11 by rfl]; omega⟩, ?_⟩
    · rw [show (12 : Int) - 1 = 11 by rfl]; unfold mlen; rw [show (11 : Int) + 1 = 12 by rfl]; omega
    · refine evUp 0 fun k _ => ?_
      have hl := cum12 y
      have hl1 := leapI_01 y
      have hb := mlen_bd y (m := 11) (by omega) (by omega)
      have h11 := cum_le y (a := 0) (b := 11) (by omega) (by omega) (by omega)
      rw [cum0] at h11
      rw [calendar_Date.l0, length_eq (by omega) (by omega) (by omega)]
      simp only [Option.bind_some]
      rw [if_neg (by unfold mlen; rw [show (11 : Int) + 1 = 12 by rfl]; omega), w64 (by omega) (by omega), w64 (by omega) (by omega)]
      rfl
  | succ n ih =>
    intro m r h0 hm hr hc
    have hl := cum12 y
    have hl1 := leapI_01 y
    have hb := mlen_bd y (m := m) (by omega) (by omega)
    have hcm := cum_le y (a := 0) (b := m) (by omega) (by omega) (by omega)
    rw [cum0] at hcm
    by_cases c : r ≥ mlen y m
    · obtain ⟨M, dd, hd, K, hK⟩ := ih (m + 1) (r - mlen y m) (by omega) (by omega) (by omega) (by unfold mlen; omega)
      dsimp only at hK
      refine ⟨M, dd, ?_, ?_⟩
      · have e : ystart y + cum y (m + 1) + (r - mlen y m) = ystart y + cum y m + r := by unfold mlen; omega
        rw [← e]; exact hd
      · refine evUp K fun k hk => ?_
        rw [calendar_Date.l0, length_eq (by omega) (by omega) (by omega)]
        simp only [Option.bind_some]
        rw [if_pos c, w64 (by omega) (by omega), w64 (by omega) (by omega)]
        exact hK k hk
    · refine ⟨m + 1, r + 1, ⟨hy, hy1, by omega, by omega, by omega, ?_, ?_⟩, ?_⟩
      · rw [show m + 1 - 1 = m by omega]; omega
      · rw [show m + 1 - 1 = m by omega]; omega
      · refine evUp 0 fun k _ => ?_
        rw [calendar_Date.l0, length_eq (by omega) (by omega) (by omega)]
        simp only [Option.bind_some]
        rw [if_neg c, w64 (by omega) (by omega), w64 (by omega) (by omega)]
theorem date_ev (d : Int) : Ev (fun k => calendar_Date.f k d) (dateOf d) := by
  by_cases h : 0 ≤ d ∧ d ≤ 36524
  · obtain ⟨a, b, c, e⟩ := yearOf_bd h.1 h.2
    rw [ystart_succ] at e
    obtain ⟨M, dd, hd, K, hK⟩ := date_l0 (yearOf d) a b 11 0 (d - ystart (yearOf d)) (by omega) (by omega) (by omega) (by rw [cum0, cum12]; omega)
    dsimp only at hK
    rw [cum0, show ystart (yearOf d) + 0 + (d - ystart (yearOf d)) = d by omega] at hd
    rw [dateOf_eq hd]
    refine evUp (K + 1) fun k hk => ?_
    obtain ⟨j, rfl⟩ : ∃ j, k = j + 1 := ⟨k - 1, by omega⟩
    have hK' := hK (j + 1) (by omega)
    unfold calendar_Date.f
    rw [valid_eq, tmod_pos h.1, tdiv_pos h.1]
    simp only [Option.bind_some, decide_eq_true_eq]
    rw [if_pos h]
    simp only [calendar_Date.j0]
    by_cases f : d % 1461 ≥ 366
    · have ey : yearOf d = 2000 + 4 * (d / 1461) + (1 + (d % 1461 - 366) / 365) := by unfold yearOf; rw [if_pos f]
      have er : d - ystart (yearOf d) = (d % 1461 - 366) % 365 := by rw [ey]; unfold ystart; omega
      rw [if_pos f, w64 (x := d / 1461) (by omega) (by omega), w64 (x := d % 1461 - 366) (by omega) (by omega), tdiv_pos (by omega), tmod_pos (by omega), w64 (x := 4 * (d / 1461)) (by omega) (by omega), w64 (x := (d % 1461 - 366) / 365) (by omega) (by omega), w64 (x := 2000 + 4 * (d / 1461)) (by omega) (by omega), w64 (x := 1 + (d % 1461 - 366) / 365) (by omega) (by omega), w64 (by omega) (by omega), ← ey, ← er]
      exact hK'
    · have ey : yearOf d = 2000 + 4 * (d / 1461) := by unfold yearOf; rw [if_neg f]
      have er : d - ystart (yearOf d) = d % 1461 := by rw [ey]; unfold ystart; omega
      rw [if_neg f, w64 (x := d / 1461) (by omega) (by omega), w64 (x := 4 * (d / 1461)) (by omega) (by omega), w64 (x := 2000 + 4 * (d / 1461)) (by omega) (by omega), ← ey, ← er]
      exact hK'
  · rw [dateOf_out (by omega)]
    refine ⟨0, fun k _ => ?_⟩
    show calendar_Date.f k d = _
    unfold calendar_Date.f
    rw [valid_eq]
    simp only [Option.bind_some, decide_eq_true_eq]
    rw [if_neg h]
theorem day_l0 (y dd : Int) (hy : 2000 ≤ y) (hy1 : y ≤ 2099) (M : Int) (hM : M ≤ 11) (hd : 1 ≤ dd) (hd1 : dd ≤ 31) : ∀ (n : Nat) (m : Int), 0 ≤ m → m + n = M →
    Ev (fun k => calendar_Day.l0 k y dd (ystart y + cum y m) M m) (ystart y + cum y M + dd - 1, 0) := by
  have hs := ystart_mono (a := 2000) (b := y) hy
  have hs1 := ystart_mono (a := y) (b := 2100) (by omega)
  rw [ystart_2000] at hs
  rw [ystart_2100] at hs1
  intro n
  induction n with
  | zero =>
    intro m h0 hm
    obtain rfl : m = M := by omega
    have c0 := cum_le y (a := 0) (b := m) (by omega) (by omega) (by omega)
    have c1 := cum_le y (a := m) (b := 12) (by omega) (by omega) (by omega)
    have hl := leapI_01 y
    rw [cum0] at c0
    rw [cum12] at c1
    refine evUp 0 fun k _ => ?_
    rw [calendar_Day.l0, if_neg (by omega), w64 (x := ystart y + cum y m + dd) (by omega) (by omega), w64 (by omega) (by omega)]
  | succ n ih =>
    intro m h0 hm
    have c0 := cum_le y (a := 0) (b := m) (by omega) (by omega) (by omega)
    have c1 := cum_le y (a := m) (b := 12) (by omega) (by omega) (by omega)
    have hl := leapI_01 y
    rw [cum0] at c0
    rw [cum12] at c1
    have hb := mlen_bd y (m := m) (by omega) (by omega)
    obtain ⟨K, hK⟩ := ih (m + 1) (by omega) (by omega)
    dsimp only at hK
    refine evUp K fun k hk => ?_
    rw [calendar_Day.l0, if_pos (by omega), length_eq (by omega) (by omega) (by omega)]
    simp only [Option.bind_some]
    rw [w64 (by omega) (by omega), w64 (by omega) (by omega), show ystart y + cum y m + mlen y m = ystart y + cum y (m + 1) by unfold mlen; omega]
    exact hK k hk
theorem firstOf_eq {y : Int} (hy : 2000 ≤ y) (hy1 : y ≤ 2099) : calendar_firstOf.f y = some (ystart y) := by
  unfold calendar_firstOf.f ystart
  simp only [Option.some.injEq]
  rw [w64 (x := y - 2000) (by omega) (by omega)]
  rw [w64 (x := 365 * (y - 2000)) (by omega) (by omega), w64 (x := y - 2000 + 3) (by omega) (by omega), tdiv_pos (by omega), w64 (x := (y - 2000 + 3) / 4) (by omega) (by omega), w64 (by omega) (by omega)]
  omega
theorem day_ev (y m d : Int) : Ev (fun k => calendar_Day.f k y m d) (dayOf y m d) := by
  have bad : ∀ k, calendar_Day.j0 (k + 1) y m d true = some (0, 3) := fun k => by rw [calendar_Day.j0, if_pos rfl]
  unfold dayOf
  by_cases h1 : y < 2000
  · rw [if_neg (by unfold ValidD; omega)]
    refine evUp 0 fun k _ => ?_
    unfold calendar_Day.f
    rw [if_pos h1, bad]
  by_cases h2 : y > 2099
  · rw [if_neg (by unfold ValidD; omega)]
    refine evUp 0 fun k _ => ?_
    unfold calendar_Day.f
    rw [if_neg h1, if_pos h2, bad]
  by_cases h3 : m < 1
  · rw [if_neg (by unfold ValidD; omega)]
    refine evUp 0 fun k _ => ?_
    unfold calendar_Day.f
    rw [if_neg h1, if_neg h2, if_pos h3, bad]
  by_cases h4 : m > 12
  · rw [if_neg (by unfold ValidD; omega)]
    refine evUp 0 fun k _ => ?_
    unfold calendar_Day.f
    rw [if_neg h1, if_neg h2, if_neg h3, if_pos h4, bad]
  by_cases h5 : d < 1
  · rw [if_neg (by unfold ValidD; omega)]
    refine evUp 0 fun k _ => ?_
    unfold calendar_Day.f
    rw [if_neg h1, if_neg h2, if_neg h3, if_neg h4, if_pos h5, bad]
  by_cases h6 : d > mlen y (m - 1)
  · rw [if_neg (by unfold ValidD; omega)]
    refine evUp 0 fun k _ => ?_
    unfold calendar_Day.f
    rw [if_neg h1, if_neg h2, if_neg h3, if_neg h4, if_neg h5, w64 (by omega) (by omega), length_eq (by omega) (by omega) (by omega)]
    simp only [Option.bind_some]
    rw [decide_eq_true h6, bad]
  · rw [if_pos (by unfold ValidD; omega)]
    have hb := mlen_bd y (m := m - 1) (by omega) (by omega)
    obtain ⟨K, hK⟩ := day_l0 y d (by omega) (by omega) (m - 1) (by omega) (by omega) (by omega) (m - 1).toNat 0 (by omega) (by omega)
    dsimp only at hK
    rw [cum0] at hK
    simp only [Int.add_zero] at hK
    refine evUp K fun k hk => ?_
    unfold calendar_Day.f
    rw [if_neg h1, if_neg h2, if_neg h3, if_neg h4, if_neg h5, w64 (by omega) (by omega), length_eq (by omega) (by omega) (by omega)]
    simp only [Option.bind_some]
    rw [decide_eq_false h6, calendar_Day.j0, if_neg (by simp), firstOf_eq (by omega) (by omega)]
    simp only [Option.bind_some]
    rw [w64 (by omega) (by omega)]
    exact hK k hk
theorem dateOf_01 (d : Int) : (dateOf d).2.2.2 = 0 → 2000 ≤ (dateOf d).1 ∧ (dateOf d).1 ≤ 2099 ∧ 1 ≤ (dateOf d).2.1 ∧ (dateOf d).2.1 ≤ 12 := by
  intro h
  by_cases c : 0 ≤ d ∧ d ≤ 36524
  · obtain ⟨y, m, dd, hd, e⟩ := dateOf_in c.1 c.2
    rw [e]
    exact ⟨hd.y0, hd.y1, hd.m0, hd.m1⟩
  · rw [dateOf_out (by omega)] at h
    simp at h
theorem month_ev (d : Int) : Ev (fun k => calendar_Month.f k d) (monthOf d) := by
  obtain ⟨K, hK⟩ := date_ev d
  dsimp only at hK
  refine ⟨K, fun k hk => ?_⟩
  show calendar_Month.f k d = _
  unfold calendar_Month.f monthOf
  rw [hK k hk]
  simp only [Option.bind_some]
  by_cases c : (dateOf d).2.2.2 = 0
  · have := dateOf_01 d c
    rw [if_pos c, if_pos c, w64 (x := (dateOf d).1 - 2000) (by omega) (by omega), w64 (x := 12 * ((dateOf d).1 - 2000)) (by omega) (by omega), w64 (x := 12 * ((dateOf d).1 - 2000) + _) (by omega) (by omega), w64 (by omega) (by omega)]
  · rw [if_neg c, if_neg c]
end Go.Proofs.YtfhmbfadbfnnaaaDoor.Cal
