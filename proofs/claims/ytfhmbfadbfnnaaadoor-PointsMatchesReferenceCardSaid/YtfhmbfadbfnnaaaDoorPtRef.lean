/- What the reference's date is. Conditions: as each theorem states. (Cut out of the calendar's text XCalS.) -/
import Derived.Test.YtfhmbfadbfnnaaaDoorPtCal
import Derived.Test.YtfhmbfadbfnnaaaDoorPx8
import Derived.Test.YtfhmbfadbfnnaaaDoorPx9
namespace Go.Proofs.YtfhmbfadbfnnaaaDoor.Cal
open Go.RowKit Go.Proofs.YtfhmbfadbfnnaaaDoorW.PrintWords Go.Proofs.YtfhmbfadbfnnaaaDoor.Given Go.Proofs.YtfhmbfadbfnnaaaDoor.Px
set_option linter.unusedVariables false
set_option linter.unusedSimpArgs false
theorem in_eq (d : Int) : cohousingref03_In.f d = some (decide (0 ≤ d ∧ d ≤ 36524)) := by
  unfold cohousingref03_In.f
  by_cases h : 0 ≤ d
  · rw [if_pos h]; simp [h]
  · rw [if_neg h]; simp [h]
theorem rlength_ev {y m : Int} (hy : 0 ≤ y) (h : 1 ≤ m) (h2 : m ≤ 12) : ∀ k, cohousingref03_length.f (k + 2) y m = some (mlen y (m - 1)) := by
  intro k
  rw [mlen_eq (by omega) (by omega)]
  unfold cohousingref03_length.f
  rw [tmod_pos hy]
  simp only [cohousingref03_length.j0, cohousingref03_length.j1]
  have : m = 1 ∨ m = 2 ∨ m = 3 ∨ m = 4 ∨ m = 5 ∨ m = 6 ∨ m = 7 ∨ m = 8 ∨ m = 9 ∨ m = 10 ∨ m = 11 ∨ m = 12 := by omega
  rcases this with rfl | rfl | rfl | rfl | rfl | rfl | rfl | rfl | rfl | rfl | rfl | rfl <;> simp <;> (try (split <;> simp_all))
theorem leap_eq {y : Int} (hy : 0 ≤ y) : cohousingref03_leap.f y = some (365 + leapI y) := by
  unfold cohousingref03_leap.f leapI
  rw [tmod_pos hy]
  split <;> rfl

theorem rdate_l1 (y : Int) (hy : 2000 ≤ y) (hy1 : y ≤ 2099) : ∀ (n : Nat) (m r : Int), 0 ≤ m → m + n = 11 → 0 ≤ r → cum y m + r < cum y 12 →
    ∃ M dd, IsDate (ystart y + cum y m + r) y M dd ∧ Ev (fun k => cohousingref03_Date.l1 k r y (m + 1)) (y, M, dd, 0) := by
  intro n
  induction n with
  | zero =>
    intro m r h0 hm hr hc
    obtain rfl : m = 11 := by omega
    refine ⟨12, r + 1, ⟨hy, hy1, by omega, by omega, by omega, ?_, by rw [show (12 : Int) - 1 = 11 by rfl]; omega⟩, ?_⟩
    · rw [show (12 : Int) - 1 = 11 by rfl]; unfold mlen; rw [show (11 : Int) + 1 = 12 by rfl]; omega
    · refine evUp 2 fun k hk => ?_
      obtain ⟨j, rfl⟩ : ∃ j, k = j + 2 := ⟨k - 2, by omega⟩
      have hl := cum12 y
      have hl1 := leapI_01 y
      have h11 := cum_le y (a := 0) (b := 11) (by omega) (by omega) (by omega)
      rw [cum0] at h11
      rw [cohousingref03_Date.l1, rlength_ev (by omega) (by omega) (by omega)]
      simp only [Option.bind_some]
      rw [if_neg (by rw [show (11 : Int) + 1 - 1 = 11 by rfl]; unfold mlen; rw [show (11 : Int) + 1 = 12 by rfl]; omega), w64 (by omega) (by omega)]
      rfl
  | succ n ih =>
    intro m r h0 hm hr hc
    have hl := cum12 y
    have hl1 := leapI_01 y
    have hb := mlen_bd y (m := m) (by omega) (by omega)
    have hcm := cum_le y (a := 0) (b := m) (by omega) (by omega) (by omega)
    rw [cum0] at hcm
    have em : m + 1 - 1 = m := by omega
    by_cases c : r ≥ mlen y m
    · obtain ⟨M, dd, hd, K, hK⟩ := ih (m + 1) (r - mlen y m) (by omega) (by omega) (by omega) (by unfold mlen; omega)
      dsimp only at hK
      refine ⟨M, dd, ?_, ?_⟩
      · have e : ystart y + cum y (m + 1) + (r - mlen y m) = ystart y + cum y m + r := by unfold mlen; omega
        rw [← e]; exact hd
      · refine evUp (K + 2) fun k hk => ?_
        obtain ⟨j, rfl⟩ : ∃ j, k = j + 2 := ⟨k - 2, by omega⟩
        rw [cohousingref03_Date.l1, rlength_ev (by omega) (by omega) (by omega)]
        simp only [Option.bind_some]
        rw [em, if_pos c, w64 (by omega) (by omega), w64 (by omega) (by omega)]
        exact hK _ (by omega)
    · refine ⟨m + 1, r + 1, ⟨hy, hy1, by omega, by omega, by omega, ?_, ?_⟩, ?_⟩
      · rw [em]; omega
      · rw [em]; omega
      · refine evUp 2 fun k hk => ?_
        obtain ⟨j, rfl⟩ : ∃ j, k = j + 2 := ⟨k - 2, by omega⟩
        rw [cohousingref03_Date.l1, rlength_ev (by omega) (by omega) (by omega)]
        simp only [Option.bind_some]
        rw [em, if_neg c, w64 (by omega) (by omega)]
theorem rdate_l0 (d : Int) (hd : 0 ≤ d) (hd1 : d ≤ 36524) : ∀ (n : Nat) (y : Int), 2000 ≤ y → y + n = 2099 → ystart y ≤ d →
    Ev (fun k => cohousingref03_Date.l0 k (d - ystart y) y) (dateOf d) := by
  intro n
  induction n with
  | zero =>
    intro y h0 hy hs
    obtain rfl : y = 2099 := by omega
    have h1 := ystart_succ 2099
    rw [show (2099 : Int) + 1 = 2100 by rfl, ystart_2100] at h1
    obtain ⟨M, dd, hI, K, hK⟩ := rdate_l1 2099 (by omega) (by omega) 11 0 (d - ystart 2099) (by omega) (by omega) (by omega) (by rw [cum0, cum12]; omega)
    dsimp only at hK
    rw [cum0, show ystart 2099 + 0 + (d - ystart 2099) = d by omega] at hI
    rw [dateOf_eq hI]
    refine evUp K fun k hk => ?_
    rw [cohousingref03_Date.l0, leap_eq (by omega)]
    simp only [Option.bind_some]
    rw [if_neg (by omega)]
    exact hK k hk
  | succ n ih =>
    intro y h0 hy hs
    have h1 := ystart_succ y
    have hm := ystart_mono (a := 2000) (b := y) h0
    rw [ystart_2000] at hm
    have hl := leapI_01 y
    by_cases c : d - ystart y ≥ 365 + leapI y
    · obtain ⟨K, hK⟩ := ih (y + 1) (by omega) (by omega) (by omega)
      dsimp only at hK
      refine evUp K fun k hk => ?_
      rw [cohousingref03_Date.l0, leap_eq (by omega)]
      simp only [Option.bind_some]
      rw [if_pos c, w64 (by omega) (by omega), w64 (by omega) (by omega), show d - ystart y - (365 + leapI y) = d - ystart (y + 1) by omega]
      exact hK k hk
    · obtain ⟨M, dd, hI, K, hK⟩ := rdate_l1 y (by omega) (by omega) 11 0 (d - ystart y) (by omega) (by omega) (by omega) (by rw [cum0, cum12]; omega)
      dsimp only at hK
      rw [cum0, show ystart y + 0 + (d - ystart y) = d by omega] at hI
      rw [dateOf_eq hI]
      refine evUp K fun k hk => ?_
      rw [cohousingref03_Date.l0, leap_eq (by omega)]
      simp only [Option.bind_some]
      rw [if_neg c]
      exact hK k hk
theorem rdate_ev (d : Int) : Ev (fun k => cohousingref03_Date.f k d) (dateOf d) := by
  by_cases h : 0 ≤ d ∧ d ≤ 36524
  · obtain ⟨K, hK⟩ := rdate_l0 d h.1 h.2 99 2000 (by omega) (by omega) (by rw [ystart_2000]; omega)
    dsimp only at hK
    refine ⟨K, fun k hk => ?_⟩
    have hK' := hK k hk
    rw [ystart_2000, show d - 0 = d by omega] at hK'
    show cohousingref03_Date.f k d = _
    unfold cohousingref03_Date.f
    rw [in_eq]
    simp only [Option.bind_some, decide_eq_true_eq]
    rw [if_pos h]
    exact hK'
  · rw [dateOf_out (by omega)]
    refine ⟨0, fun k _ => ?_⟩
    show cohousingref03_Date.f k d = _
    unfold cohousingref03_Date.f
    rw [in_eq]
    simp only [Option.bind_some, decide_eq_true_eq]
    rw [if_neg h]

end Go.Proofs.YtfhmbfadbfnnaaaDoor.Cal
