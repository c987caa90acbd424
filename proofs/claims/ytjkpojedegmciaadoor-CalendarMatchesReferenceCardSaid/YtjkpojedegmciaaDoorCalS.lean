/- What the calendar's functions and the reference's compute: each of the printed Lean functions comes to the plain value that is defined in CalM. Conditions: as each theorem states. -/
import Derived.Test.YtjkpojedegmciaaDoorCalM
import Derived.Test.YtjkpojedegmciaaDoorGTab
import Derived.Test.YtjkpojedegmciaaDoorPx2
import Derived.Test.YtjkpojedegmciaaDoorPx3
import Derived.Test.YtjkpojedegmciaaDoorPx4
import Derived.Test.YtjkpojedegmciaaDoorPx5
import Derived.Test.YtjkpojedegmciaaDoorPx6
import Derived.Test.YtjkpojedegmciaaDoorPx7
import Derived.Test.YtjkpojedegmciaaDoorPx8
import Derived.Test.YtjkpojedegmciaaDoorPx9
import Derived.Test.YtjkpojedegmciaaDoorPx10
import Derived.Test.YtjkpojedegmciaaDoorPx11
namespace Go.Proofs.YtjkpojedegmciaaDoor.Cal
open Go.RowKit Go.Proofs.YtjkpojedegmciaaDoorW.PrintWords Go.Proofs.YtjkpojedegmciaaDoor.Given Go.Proofs.YtjkpojedegmciaaDoor.Px
set_option linter.unusedVariables false
set_option linter.unusedSimpArgs false

theorem tmod_pos {a b : Int} (h : 0 ≤ a) : Int.tmod a b = a % b := Int.tmod_eq_emod_of_nonneg h
theorem tdiv_pos {a b : Int} (h : 0 ≤ a) : Int.tdiv a b = a / b := Int.tdiv_eq_ediv_of_nonneg h

theorem valid_eq (d : Int) : calendar_valid.f d = some (decide (0 ≤ d ∧ d ≤ 36524)) := by
  unfold calendar_valid.f
  by_cases h : 0 ≤ d
  · rw [if_pos h]; simp [h]
  · rw [if_neg h]; simp [h]
theorem in_eq (d : Int) : cohousingref03_In.f d = some (decide (0 ≤ d ∧ d ≤ 36524)) := by
  unfold cohousingref03_In.f
  by_cases h : 0 ≤ d
  · rw [if_pos h]; simp [h]
  · rw [if_neg h]; simp [h]
theorem length_eq {y m : Int} (hy : 0 ≤ y) (h : 0 ≤ m) (h2 : m ≤ 11) : calendar_length.f y m = some (mlen y m) := by
  rw [mlen_eq h h2]
  unfold calendar_length.f tabL
  rw [tmod_pos hy]
  by_cases c : m = 1
  · rw [if_pos c, if_pos c]; split <;> rfl
  · rw [if_neg c, if_neg c, if_pos ⟨h, by omega⟩]
theorem rlength_ev {y m : Int} (hy : 0 ≤ y) (h : 1 ≤ m) (h2 : m ≤ 12) : ∀ k, cohousingref03_length.f (k + 2) y m = some (mlen y (m - 1)) := by
  intro k
  rw [mlen_eq (by omega) (by omega)]
  unfold cohousingref03_length.f
  rw [tmod_pos hy]
  simp only [cohousingref03_length.j0, cohousingref03_length.j1]
  have : m = 1 ∨ m = 2 ∨ m = 3 ∨ m = 4 ∨ m = 5 ∨ m = 6 ∨ m = 7 ∨ m = 8 ∨ m = 9 ∨ m = 10 ∨ m = 11 ∨ m = 12 := by omega
  rcases this with rfl | rfl | rfl | rfl | rfl | rfl | rfl | rfl | rfl | rfl | rfl | rfl <;> simp <;> (try (split <;> simp_all))
theorem leap_eq {y : Int} (hy : 0 ≤ y) : cohousingref03_leap.f y = some (365 + leapI y) := by
  unfold cohousingref03_leap.f leapI
  rw [tmod_pos hy]
  split <;> rfl

/-! ### Date -/
theorem date_l0 (y : Int) (hy : 2000 ≤ y) (hy1 : y ≤ 2099) : ∀ (n : Nat) (m r : Int), 0 ≤ m → m + n = 11 → 0 ≤ r → cum y m + r < cum y 12 →
    ∃ M dd, IsDate (ystart y + cum y m + r) y M dd ∧ Ev (fun k => calendar_Date.l0 k y m r) (y, M, dd, 0) := by
  intro n
  induction n with
  | zero =>
    intro m r h0 hm hr hc
    obtain rfl : m = 11 := by omega
    refine ⟨12, r + 1, ⟨hy, hy1, by omega, by omega, by omega, ?_, by rw [show (12 : Int) - 1 = 11 by rfl]; omega⟩, ?_⟩
    · rw [show (12 : Int) - 1 = 11 by rfl]; unfold mlen; rw [show (11 : Int) + 1 = 12 by rfl]; omega
    · refine evUp 0 fun k _ => ?_
      have hl := cum12 y
      have hl1 := leapI_01 y
      have hb := mlen_bd y (m := 11) (by omega) (by omega)
      have h11 := cum_le y (a := 0) (b := 11) (by omega) (by omega) (by omega)
      rw [cum0] at h11
      rw [calendar_Date.l0, length_eq (by omega) (by omega) (by omega)]
      simp only [Option.bind_some]
      rw [if_neg (by unfold mlen; rw [show (11 : Int) + 1 = 12 by rfl]; omega), w64 (by omega) (by omega), w64 (by omega) (by omega)]
      rfl
  | succ n ih =>
    intro m r h0 hm hr hc
    have hl := cum12 y
    have hl1 := leapI_01 y
    have hb := mlen_bd y (m := m) (by omega) (by omega)
    have hcm := cum_le y (a := 0) (b := m) (by omega) (by omega) (by omega)
    rw [cum0] at hcm
    by_cases c : r ≥ mlen y m
    · obtain ⟨M, dd, hd, K, hK⟩ := ih (m + 1) (r - mlen y m) (by omega) (by omega) (by omega) (by unfold mlen; omega)
      dsimp only at hK
      refine ⟨M, dd, ?_, ?_⟩
      · have e : ystart y + cum y (m + 1) + (r - mlen y m) = ystart y + cum y m + r := by unfold mlen; omega
        rw [← e]; exact hd
      · refine evUp K fun k hk => ?_
        rw [calendar_Date.l0, length_eq (by omega) (by omega) (by omega)]
        simp only [Option.bind_some]
        rw [if_pos c, w64 (by omega) (by omega), w64 (by omega) (by omega)]
        exact hK k hk
    · refine ⟨m + 1, r + 1, ⟨hy, hy1, by omega, by omega, by omega, ?_, ?_⟩, ?_⟩
      · rw [show m + 1 - 1 = m by omega]; omega
      · rw [show m + 1 - 1 = m by omega]; omega
      · refine evUp 0 fun k _ => ?_
        rw [calendar_Date.l0, length_eq (by omega) (by omega) (by omega)]
        simp only [Option.bind_some]
        rw [if_neg c, w64 (by omega) (by omega), w64 (by omega) (by omega)]
theorem date_ev (d : Int) : Ev (fun k => calendar_Date.f k d) (dateOf d) := by
  by_cases h : 0 ≤ d ∧ d ≤ 36524
  · obtain ⟨a, b, c, e⟩ := yearOf_bd h.1 h.2
    rw [ystart_succ] at e
    obtain ⟨M, dd, hd, K, hK⟩ := date_l0 (yearOf d) a b 11 0 (d - ystart (yearOf d)) (by omega) (by omega) (by omega) (by rw [cum0, cum12]; omega)
    dsimp only at hK
    rw [cum0, show ystart (yearOf d) + 0 + (d - ystart (yearOf d)) = d by omega] at hd
    rw [dateOf_eq hd]
    refine evUp (K + 1) fun k hk => ?_
    obtain ⟨j, rfl⟩ : ∃ j, k = j + 1 := ⟨k - 1, by omega⟩
    have hK' := hK (j + 1) (by omega)
    unfold calendar_Date.f
    rw [valid_eq, tmod_pos h.1, tdiv_pos h.1]
    simp only [Option.bind_some, decide_eq_true_eq]
    rw [if_pos h]
    simp only [calendar_Date.j0]
    by_cases f : d % 1461 ≥ 366
    · have ey : yearOf d = 2000 + 4 * (d / 1461) + (1 + (d % 1461 - 366) / 365) := by unfold yearOf; rw [if_pos f]
      have er : d - ystart (yearOf d) = (d % 1461 - 366) % 365 := by rw [ey]; unfold ystart; omega
      rw [if_pos f, w64 (x := d / 1461) (by omega) (by omega), w64 (x := d % 1461 - 366) (by omega) (by omega), tdiv_pos (by omega), tmod_pos (by omega), w64 (x := 4 * (d / 1461)) (by omega) (by omega), w64 (x := (d % 1461 - 366) / 365) (by omega) (by omega), w64 (x := 2000 + 4 * (d / 1461)) (by omega) (by omega), w64 (x := 1 + (d % 1461 - 366) / 365) (by omega) (by omega), w64 (by omega) (by omega), ← ey, ← er]
      exact hK'
    · have ey : yearOf d = 2000 + 4 * (d / 1461) := by unfold yearOf; rw [if_neg f]
      have er : d - ystart (yearOf d) = d % 1461 := by rw [ey]; unfold ystart; omega
      rw [if_neg f, w64 (x := d / 1461) (by omega) (by omega), w64 (x := 4 * (d / 1461)) (by omega) (by omega), w64 (x := 2000 + 4 * (d / 1461)) (by omega) (by omega), ← ey, ← er]
      exact hK'
  · rw [dateOf_out (by omega)]
    refine ⟨0, fun k _ => ?_⟩
    show calendar_Date.f k d = _
    unfold calendar_Date.f
    rw [valid_eq]
    simp only [Option.bind_some, decide_eq_true_eq]
    rw [if_neg h]
theorem rdate_l1 (y : Int) (hy : 2000 ≤ y) (hy1 : y ≤ 2099) : ∀ (n : Nat) (m r : Int), 0 ≤ m → m + n = 11 → 0 ≤ r → cum y m + r < cum y 12 →
    ∃ M dd, IsDate (ystart y + cum y m + r) y M dd ∧ Ev (fun k => cohousingref03_Date.l1 k r y (m + 1)) (y, M, dd, 0) := by
  intro n
  induction n with
  | zero =>
    intro m r h0 hm hr hc
    obtain rfl : m = 11 := by omega
    refine ⟨12, r + 1, ⟨hy, hy1, by omega, by omega, by omega, ?_, by rw [show (12 : Int) - 1 = 11 by rfl]; omega⟩, ?_⟩
    · rw [show (12 : Int) - 1 = 11 by rfl]; unfold mlen; rw [show (11 : Int) + 1 = 12 by rfl]; omega
    · refine evUp 2 fun k hk => ?_
      obtain ⟨j, rfl⟩ : ∃ j, k = j + 2 := ⟨k - 2, by omega⟩
      have hl := cum12 y
      have hl1 := leapI_01 y
      have h11 := cum_le y (a := 0) (b := 11) (by omega) (by omega) (by omega)
      rw [cum0] at h11
      rw [cohousingref03_Date.l1, rlength_ev (by omega) (by omega) (by omega)]
      simp only [Option.bind_some]
      rw [if_neg (by rw [show (11 : Int) + 1 - 1 = 11 by rfl]; unfold mlen; rw [show (11 : Int) + 1 = 12 by rfl]; omega), w64 (by omega) (by omega)]
      rfl
  | succ n ih =>
    intro m r h0 hm hr hc
    have hl := cum12 y
    have hl1 := leapI_01 y
    have hb := mlen_bd y (m := m) (by omega) (by omega)
    have hcm := cum_le y (a := 0) (b := m) (by omega) (by omega) (by omega)
    rw [cum0] at hcm
    have em : m + 1 - 1 = m := by omega
    by_cases c : r ≥ mlen y m
    · obtain ⟨M, dd, hd, K, hK⟩ := ih (m + 1) (r - mlen y m) (by omega) (by omega) (by omega) (by unfold mlen; omega)
      dsimp only at hK
      refine ⟨M, dd, ?_, ?_⟩
      · have e : ystart y + cum y (m + 1) + (r - mlen y m) = ystart y + cum y m + r := by unfold mlen; omega
        rw [← e]; exact hd
      · refine evUp (K + 2) fun k hk => ?_
        obtain ⟨j, rfl⟩ : ∃ j, k = j + 2 := ⟨k - 2, by omega⟩
        rw [cohousingref03_Date.l1, rlength_ev (by omega) (by omega) (by omega)]
        simp only [Option.bind_some]
        rw [em, if_pos c, w64 (by omega) (by omega), w64 (by omega) (by omega)]
        exact hK _ (by omega)
    · refine ⟨m + 1, r + 1, ⟨hy, hy1, by omega, by omega, by omega, ?_, ?_⟩, ?_⟩
      · rw [em]; omega
      · rw [em]; omega
      · refine evUp 2 fun k hk => ?_
        obtain ⟨j, rfl⟩ : ∃ j, k = j + 2 := ⟨k - 2, by omega⟩
        rw [cohousingref03_Date.l1, rlength_ev (by omega) (by omega) (by omega)]
        simp only [Option.bind_some]
        rw [em, if_neg c, w64 (by omega) (by omega)]
theorem rdate_l0 (d : Int) (hd : 0 ≤ d) (hd1 : d ≤ 36524) : ∀ (n : Nat) (y : Int), 2000 ≤ y → y + n = 2099 → ystart y ≤ d →
    Ev (fun k => cohousingref03_Date.l0 k (d - ystart y) y) (dateOf d) := by
  intro n
  induction n with
  | zero =>
    intro y h0 hy hs
    obtain rfl : y = 2099 := by omega
    have h1 := ystart_succ 2099
    rw [show (2099 : Int) + 1 = 2100 by rfl, ystart_2100] at h1
    obtain ⟨M, dd, hI, K, hK⟩ := rdate_l1 2099 (by omega) (by omega) 11 0 (d - ystart 2099) (by omega) (by omega) (by omega) (by rw [cum0, cum12]; omega)
    dsimp only at hK
    rw [cum0, show ystart 2099 + 0 + (d - ystart 2099) = d by omega] at hI
    rw [dateOf_eq hI]
    refine evUp K fun k hk => ?_
    rw [cohousingref03_Date.l0, leap_eq (by omega)]
    simp only [Option.bind_some]
    rw [if_neg (by omega)]
    exact hK k hk
  | succ n ih =>
    intro y h0 hy hs
    have h1 := ystart_succ y
    have hm := ystart_mono (a := 2000) (b := y) h0
    rw [ystart_2000] at hm
    have hl := leapI_01 y
    by_cases c : d - ystart y ≥ 365 + leapI y
    · obtain ⟨K, hK⟩ := ih (y + 1) (by omega) (by omega) (by omega)
      dsimp only at hK
      refine evUp K fun k hk => ?_
      rw [cohousingref03_Date.l0, leap_eq (by omega)]
      simp only [Option.bind_some]
      rw [if_pos c, w64 (by omega) (by omega), w64 (by omega) (by omega), show d - ystart y - (365 + leapI y) = d - ystart (y + 1) by omega]
      exact hK k hk
    · obtain ⟨M, dd, hI, K, hK⟩ := rdate_l1 y (by omega) (by omega) 11 0 (d - ystart y) (by omega) (by omega) (by omega) (by rw [cum0, cum12]; omega)
      dsimp only at hK
      rw [cum0, show ystart y + 0 + (d - ystart y) = d by omega] at hI
      rw [dateOf_eq hI]
      refine evUp K fun k hk => ?_
      rw [cohousingref03_Date.l0, leap_eq (by omega)]
      simp only [Option.bind_some]
      rw [if_neg c]
      exact hK k hk
theorem rdate_ev (d : Int) : Ev (fun k => cohousingref03_Date.f k d) (dateOf d) := by
  by_cases h : 0 ≤ d ∧ d ≤ 36524
  · obtain ⟨K, hK⟩ := rdate_l0 d h.1 h.2 99 2000 (by omega) (by omega) (by rw [ystart_2000]; omega)
    dsimp only at hK
    refine ⟨K, fun k hk => ?_⟩
    have hK' := hK k hk
    rw [ystart_2000, show d - 0 = d by omega] at hK'
    show cohousingref03_Date.f k d = _
    unfold cohousingref03_Date.f
    rw [in_eq]
    simp only [Option.bind_some, decide_eq_true_eq]
    rw [if_pos h]
    exact hK'
  · rw [dateOf_out (by omega)]
    refine ⟨0, fun k _ => ?_⟩
    show cohousingref03_Date.f k d = _
    unfold cohousingref03_Date.f
    rw [in_eq]
    simp only [Option.bind_some, decide_eq_true_eq]
    rw [if_neg h]

/-! ### Day -/
theorem day_l0 (y dd : Int) (hy : 2000 ≤ y) (hy1 : y ≤ 2099) (M : Int) (hM : M ≤ 11) (hd : 1 ≤ dd) (hd1 : dd ≤ 31) : ∀ (n : Nat) (m : Int), 0 ≤ m → m + n = M →
    Ev (fun k => calendar_Day.l0 k y dd (ystart y + cum y m) M m) (ystart y + cum y M + dd - 1, 0) := by
  have hs := ystart_mono (a := 2000) (b := y) hy
  have hs1 := ystart_mono (a := y) (b := 2100) (by omega)
  rw [ystart_2000] at hs
  rw [ystart_2100] at hs1
  intro n
  induction n with
  | zero =>
    intro m h0 hm
    obtain rfl : m = M := by omega
    have c0 := cum_le y (a := 0) (b := m) (by omega) (by omega) (by omega)
    have c1 := cum_le y (a := m) (b := 12) (by omega) (by omega) (by omega)
    have hl := leapI_01 y
    rw [cum0] at c0
    rw [cum12] at c1
    refine evUp 0 fun k _ => ?_
    rw [calendar_Day.l0, if_neg (by omega), w64 (x := ystart y + cum y m + dd) (by omega) (by omega), w64 (by omega) (by omega)]
  | succ n ih =>
    intro m h0 hm
    have c0 := cum_le y (a := 0) (b := m) (by omega) (by omega) (by omega)
    have c1 := cum_le y (a := m) (b := 12) (by omega) (by omega) (by omega)
    have hl := leapI_01 y
    rw [cum0] at c0
    rw [cum12] at c1
    have hb := mlen_bd y (m := m) (by omega) (by omega)
    obtain ⟨K, hK⟩ := ih (m + 1) (by omega) (by omega)
    dsimp only at hK
    refine evUp K fun k hk => ?_
    rw [calendar_Day.l0, if_pos (by omega), length_eq (by omega) (by omega) (by omega)]
    simp only [Option.bind_some]
    rw [w64 (by omega) (by omega), w64 (by omega) (by omega), show ystart y + cum y m + mlen y m = ystart y + cum y (m + 1) by unfold mlen; omega]
    exact hK k hk
theorem firstOf_eq {y : Int} (hy : 2000 ≤ y) (hy1 : y ≤ 2099) : calendar_firstOf.f y = some (ystart y) := by
  unfold calendar_firstOf.f ystart
  simp only [Option.some.injEq]
  rw [w64 (x := y - 2000) (by omega) (by omega)]
  rw [w64 (x := 365 * (y - 2000)) (by omega) (by omega), w64 (x := y - 2000 + 3) (by omega) (by omega), tdiv_pos (by omega), w64 (x := (y - 2000 + 3) / 4) (by omega) (by omega), w64 (by omega) (by omega)]
  omega
theorem day_ev (y m d : Int) : Ev (fun k => calendar_Day.f k y m d) (dayOf y m d) := by
  have bad : ∀ k, calendar_Day.j0 (k + 1) y m d true = some (0, 3) := fun k => by rw [calendar_Day.j0, if_pos rfl]
  unfold dayOf
  by_cases h1 : y < 2000
  · rw [if_neg (by unfold ValidD; omega)]
    refine evUp 0 fun k _ => ?_
    unfold calendar_Day.f
    rw [if_pos h1, bad]
  by_cases h2 : y > 2099
  · rw [if_neg (by unfold ValidD; omega)]
    refine evUp 0 fun k _ => ?_
    unfold calendar_Day.f
    rw [if_neg h1, if_pos h2, bad]
  by_cases h3 : m < 1
  · rw [if_neg (by unfold ValidD; omega)]
    refine evUp 0 fun k _ => ?_
    unfold calendar_Day.f
    rw [if_neg h1, if_neg h2, if_pos h3, bad]
  by_cases h4 : m > 12
  · rw [if_neg (by unfold ValidD; omega)]
    refine evUp 0 fun k _ => ?_
    unfold calendar_Day.f
    rw [if_neg h1, if_neg h2, if_neg h3, if_pos h4, bad]
  by_cases h5 : d < 1
  · rw [if_neg (by unfold ValidD; omega)]
    refine evUp 0 fun k _ => ?_
    unfold calendar_Day.f
    rw [if_neg h1, if_neg h2, if_neg h3, if_neg h4, if_pos h5, bad]
  by_cases h6 : d > mlen y (m - 1)
  · rw [if_neg (by unfold ValidD; omega)]
    refine evUp 0 fun k _ => ?_
    unfold calendar_Day.f
    rw [if_neg h1, if_neg h2, if_neg h3, if_neg h4, if_neg h5, w64 (by omega) (by omega), length_eq (by omega) (by omega) (by omega)]
    simp only [Option.bind_some]
    rw [decide_eq_true h6, bad]
  · rw [if_pos (by unfold ValidD; omega)]
    have hb := mlen_bd y (m := m - 1) (by omega) (by omega)
    obtain ⟨K, hK⟩ := day_l0 y d (by omega) (by omega) (m - 1) (by omega) (by omega) (by omega) (m - 1).toNat 0 (by omega) (by omega)
    dsimp only at hK
    rw [cum0] at hK
    simp only [Int.add_zero] at hK
    refine evUp K fun k hk => ?_
    unfold calendar_Day.f
    rw [if_neg h1, if_neg h2, if_neg h3, if_neg h4, if_neg h5, w64 (by omega) (by omega), length_eq (by omega) (by omega) (by omega)]
    simp only [Option.bind_some]
    rw [decide_eq_false h6, calendar_Day.j0, if_neg (by simp), firstOf_eq (by omega) (by omega)]
    simp only [Option.bind_some]
    rw [w64 (by omega) (by omega)]
    exact hK k hk
theorem rday_l1 (y m d : Int) (hy : 2000 ≤ y) (hy1 : y ≤ 2099) (hm1 : m ≤ 12) (hd : 1 ≤ d) (hd1 : d ≤ 31) : ∀ (n : Nat) (i : Int), 1 ≤ i → i + n = m →
    Ev (fun k => cohousingref03_Day.l1 k y m (ystart y + cum y (i - 1) + d - 1) i) (ystart y + cum y (m - 1) + d - 1, 0) := by
  have hs := ystart_mono (a := 2000) (b := y) hy
  have hs1 := ystart_mono (a := y) (b := 2100) (by omega)
  rw [ystart_2000] at hs
  rw [ystart_2100] at hs1
  intro n
  induction n with
  | zero =>
    intro i h0 hi
    obtain rfl : i = m := by omega
    refine evUp 0 fun k _ => ?_
    rw [cohousingref03_Day.l1, if_neg (by omega)]
  | succ n ih =>
    intro i h0 hi
    have c0 := cum_le y (a := 0) (b := i - 1) (by omega) (by omega) (by omega)
    have c1 := cum_le y (a := i - 1) (b := 12) (by omega) (by omega) (by omega)
    have hl := leapI_01 y
    rw [cum0] at c0
    rw [cum12] at c1
    have hb := mlen_bd y (m := i - 1) (by omega) (by omega)
    obtain ⟨K, hK⟩ := ih (i + 1) (by omega) (by omega)
    dsimp only at hK
    refine evUp (K + 2) fun k hk => ?_
    obtain ⟨j, rfl⟩ : ∃ j, k = j + 2 := ⟨k - 2, by omega⟩
    rw [cohousingref03_Day.l1, if_pos (by omega), rlength_ev (by omega) (by omega) (by omega)]
    simp only [Option.bind_some]
    rw [w64 (by omega) (by omega), w64 (by omega) (by omega), show ystart y + cum y (i - 1) + d - 1 + mlen y (i - 1) = ystart y + cum y (i + 1 - 1) + d - 1 by unfold mlen; rw [show i - 1 + 1 = i + 1 - 1 by omega]; omega]
    exact hK _ (by omega)
theorem rday_l0 (y m d : Int) (hy : 2000 ≤ y) (hy1 : y ≤ 2099) (hm : 1 ≤ m) (hm1 : m ≤ 12) (hd : 1 ≤ d) (hd1 : d ≤ 31) : ∀ (n : Nat) (Y : Int), 2000 ≤ Y → Y + n = y →
    Ev (fun k => cohousingref03_Day.l0 k y m (ystart Y + d - 1) Y) (ystart y + cum y (m - 1) + d - 1, 0) := by
  intro n
  induction n with
  | zero =>
    intro Y h0 hY
    obtain rfl : Y = y := by omega
    obtain ⟨K, hK⟩ := rday_l1 Y m d hy hy1 hm1 hd hd1 (m - 1).toNat 1 (by omega) (by omega)
    dsimp only at hK
    rw [show (1 : Int) - 1 = 0 by rfl, cum0, show ystart Y + 0 + d - 1 = ystart Y + d - 1 by omega] at hK
    refine evUp K fun k hk => ?_
    rw [cohousingref03_Day.l0, if_neg (by omega)]
    exact hK k hk
  | succ n ih =>
    intro Y h0 hY
    have hs := ystart_mono (a := 2000) (b := Y) h0
    have hs1 := ystart_mono (a := Y) (b := 2100) (by omega)
    rw [ystart_2000] at hs
    rw [ystart_2100] at hs1
    have h1 := ystart_succ Y
    have hl := leapI_01 Y
    obtain ⟨K, hK⟩ := ih (Y + 1) (by omega) (by omega)
    dsimp only at hK
    refine evUp K fun k hk => ?_
    rw [cohousingref03_Day.l0, if_pos (by omega), leap_eq (by omega)]
    simp only [Option.bind_some]
    rw [w64 (by omega) (by omega), w64 (by omega) (by omega), show ystart Y + d - 1 + (365 + leapI Y) = ystart (Y + 1) + d - 1 by omega]
    exact hK k hk
theorem rday_ev (y m d : Int) : Ev (fun k => cohousingref03_Day.f k y m d) (dayOf y m d) := by
  have bad : ∀ k, cohousingref03_Day.j0 (k + 1) y m d true = some (0, 3) := fun k => by rw [cohousingref03_Day.j0, if_pos rfl]
  unfold dayOf
  by_cases h1 : y < 2000
  · rw [if_neg (by unfold ValidD; omega)]
    refine evUp 0 fun k _ => ?_
    unfold cohousingref03_Day.f
    rw [if_pos h1, bad]
  by_cases h2 : y > 2099
  · rw [if_neg (by unfold ValidD; omega)]
    refine evUp 0 fun k _ => ?_
    unfold cohousingref03_Day.f
    rw [if_neg h1, if_pos h2, bad]
  by_cases h3 : m < 1
  · rw [if_neg (by unfold ValidD; omega)]
    refine evUp 0 fun k _ => ?_
    unfold cohousingref03_Day.f
    rw [if_neg h1, if_neg h2, if_pos h3, bad]
  by_cases h4 : m > 12
  · rw [if_neg (by unfold ValidD; omega)]
    refine evUp 0 fun k _ => ?_
    unfold cohousingref03_Day.f
    rw [if_neg h1, if_neg h2, if_neg h3, if_pos h4, bad]
  by_cases h5 : d < 1
  · rw [if_neg (by unfold ValidD; omega)]
    refine evUp 0 fun k _ => ?_
    unfold cohousingref03_Day.f
    rw [if_neg h1, if_neg h2, if_neg h3, if_neg h4, if_pos h5, bad]
  by_cases h6 : d > mlen y (m - 1)
  · rw [if_neg (by unfold ValidD; omega)]
    refine evUp 1 fun k hk => ?_
    obtain ⟨j, rfl⟩ : ∃ j, k = j + 1 := ⟨k - 1, by omega⟩
    unfold cohousingref03_Day.f
    rw [if_neg h1, if_neg h2, if_neg h3, if_neg h4, if_neg h5, rlength_ev (by omega) (by omega) (by omega)]
    simp only [Option.bind_some]
    rw [decide_eq_true h6, bad]
  · rw [if_pos (by unfold ValidD; omega)]
    have hb := mlen_bd y (m := m - 1) (by omega) (by omega)
    obtain ⟨K, hK⟩ := rday_l0 y m d (by omega) (by omega) (by omega) (by omega) (by omega) (by omega) (y - 2000).toNat 2000 (by omega) (by omega)
    dsimp only at hK
    rw [ystart_2000, show (0 : Int) + d - 1 = d - 1 by omega] at hK
    refine evUp (K + 1) fun k hk => ?_
    obtain ⟨j, rfl⟩ : ∃ j, k = j + 1 := ⟨k - 1, by omega⟩
    unfold cohousingref03_Day.f
    rw [if_neg h1, if_neg h2, if_neg h3, if_neg h4, if_neg h5, rlength_ev (by omega) (by omega) (by omega)]
    simp only [Option.bind_some]
    rw [decide_eq_false h6, cohousingref03_Day.j0, if_neg (by simp), w64 (by omega) (by omega)]
    exact hK _ (by omega)

/-! ### Weekday, Month, Days -/
theorem weekday_eq {d : Int} (h : 0 ≤ d) (h1 : d ≤ 1000000) : calendar_weekday.f d = some ((d + 5) % 7) := by
  unfold calendar_weekday.f
  rw [w64 (by omega) (by omega), tmod_pos (by omega)]
theorem Weekday_eq (d : Int) : calendar_Weekday.f d = some (weekdayOf d) := by
  unfold calendar_Weekday.f weekdayOf
  rw [valid_eq]
  simp only [Option.bind_some, decide_eq_true_eq]
  by_cases h : 0 ≤ d ∧ d ≤ 36524
  · rw [if_pos h, if_pos h, weekday_eq h.1 (by omega)]
    rfl
  · rw [if_neg h, if_neg h]
theorem RWeekday_eq (d : Int) : cohousingref03_Weekday.f d = some (weekdayOf d) := by
  unfold cohousingref03_Weekday.f weekdayOf
  rw [in_eq]
  simp only [Option.bind_some, decide_eq_true_eq]
  by_cases h : 0 ≤ d ∧ d ≤ 36524
  · rw [if_pos h, if_pos h, w64 (by omega) (by omega), tmod_pos (by omega)]
  · rw [if_neg h, if_neg h]
theorem dateOf_01 (d : Int) : (dateOf d).2.2.2 = 0 → 2000 ≤ (dateOf d).1 ∧ (dateOf d).1 ≤ 2099 ∧ 1 ≤ (dateOf d).2.1 ∧ (dateOf d).2.1 ≤ 12 := by
  intro h
  by_cases c : 0 ≤ d ∧ d ≤ 36524
  · obtain ⟨y, m, dd, hd, e⟩ := dateOf_in c.1 c.2
    rw [e]
    exact ⟨hd.y0, hd.y1, hd.m0, hd.m1⟩
  · rw [dateOf_out (by omega)] at h
    simp at h
theorem month_ev (d : Int) : Ev (fun k => calendar_Month.f k d) (monthOf d) := by
  obtain ⟨K, hK⟩ := date_ev d
  dsimp only at hK
  refine ⟨K, fun k hk => ?_⟩
  show calendar_Month.f k d = _
  unfold calendar_Month.f monthOf
  rw [hK k hk]
  simp only [Option.bind_some]
  by_cases c : (dateOf d).2.2.2 = 0
  · have := dateOf_01 d c
    rw [if_pos c, if_pos c, w64 (x := (dateOf d).1 - 2000) (by omega) (by omega), w64 (x := 12 * ((dateOf d).1 - 2000)) (by omega) (by omega), w64 (x := 12 * ((dateOf d).1 - 2000) + _) (by omega) (by omega), w64 (by omega) (by omega)]
  · rw [if_neg c, if_neg c]
theorem rmonth_ev (d : Int) : Ev (fun k => cohousingref03_Month.f k d) (monthOf d) := by
  obtain ⟨K, hK⟩ := rdate_ev d
  dsimp only at hK
  refine ⟨K, fun k hk => ?_⟩
  show cohousingref03_Month.f k d = _
  unfold cohousingref03_Month.f monthOf
  rw [hK k hk]
  simp only [Option.bind_some]
  by_cases c : (dateOf d).2.2.2 = 0
  · have := dateOf_01 d c
    rw [if_pos c, if_pos c, w64 (x := (dateOf d).1 - 2000) (by omega) (by omega), w64 (x := 12 * ((dateOf d).1 - 2000)) (by omega) (by omega), w64 (x := 12 * ((dateOf d).1 - 2000) + _) (by omega) (by omega), w64 (by omega) (by omega)]
  · rw [if_neg c, if_neg c]
theorem days_l0 (y m : Int) (hy : 2000 ≤ y) (hy1 : y ≤ 2099) (a0 : Int) (ha : 0 ≤ a0) (hm : a0 % 12 = m) : ∀ (n : Nat) (i : Int), 0 ≤ i → i + n = m →
    Ev (fun k => calendar_Days.l0 k a0 y (ystart y + cum y i) m i) (ystart y + cum y m, ystart y + cum y (m + 1), 0) := by
  have hs := ystart_mono (a := 2000) (b := y) hy
  have hs1 := ystart_mono (a := y) (b := 2100) (by omega)
  rw [ystart_2000] at hs
  rw [ystart_2100] at hs1
  intro n
  induction n with
  | zero =>
    intro i h0 hi
    obtain rfl : i = m := by omega
    have c0 := cum_le y (a := 0) (b := i) (by omega) (by omega) (by omega)
    have c1 := cum_le y (a := i) (b := 12) (by omega) (by omega) (by omega)
    have hl := leapI_01 y
    rw [cum0] at c0
    rw [cum12] at c1
    have hb := mlen_bd y (m := i) (by omega) (by omega)
    refine evUp 0 fun k _ => ?_
    rw [calendar_Days.l0, if_neg (by omega), tmod_pos ha, hm, length_eq (by omega) (by omega) (by omega)]
    simp only [Option.bind_some]
    rw [w64 (by omega) (by omega), show ystart y + cum y i + mlen y i = ystart y + cum y (i + 1) by unfold mlen; omega]
  | succ n ih =>
    intro i h0 hi
    have c0 := cum_le y (a := 0) (b := i) (by omega) (by omega) (by omega)
    have c1 := cum_le y (a := i) (b := 12) (by omega) (by omega) (by omega)
    have hl := leapI_01 y
    rw [cum0] at c0
    rw [cum12] at c1
    have hb := mlen_bd y (m := i) (by omega) (by omega)
    obtain ⟨K, hK⟩ := ih (i + 1) (by omega) (by omega)
    dsimp only at hK
    refine evUp K fun k hk => ?_
    rw [calendar_Days.l0, if_pos (by omega), length_eq (by omega) (by omega) (by omega)]
    simp only [Option.bind_some]
    rw [w64 (by omega) (by omega), w64 (by omega) (by omega), show ystart y + cum y i + mlen y i = ystart y + cum y (i + 1) by unfold mlen; omega]
    exact hK k hk
theorem days_ev (m : Int) : Ev (fun k => calendar_Days.f k m) (daysOf m) := by
  have bad : ∀ k, calendar_Days.j0 (k + 1) m true = some (0, 0, 3) := fun k => by rw [calendar_Days.j0, if_pos rfl]
  unfold daysOf
  by_cases h1 : m < 0
  · rw [if_neg (by omega)]
    refine evUp 0 fun k _ => ?_
    unfold calendar_Days.f
    rw [if_pos h1, bad]
  by_cases h2 : m > 1199
  · rw [if_neg (by omega)]
    refine evUp 0 fun k _ => ?_
    unfold calendar_Days.f
    rw [if_neg h1, decide_eq_true h2, bad]
  · rw [if_pos (by omega)]
    obtain ⟨K, hK⟩ := days_l0 (2000 + m / 12) (m % 12) (by omega) (by omega) m (by omega) rfl (m % 12).toNat 0 (by omega) (by omega)
    dsimp only at hK
    rw [cum0, Int.add_zero] at hK
    refine evUp K fun k hk => ?_
    unfold calendar_Days.f
    rw [if_neg h1, decide_eq_false h2, calendar_Days.j0, if_neg (by simp), tdiv_pos (by omega), tmod_pos (by omega), w64 (x := m / 12) (by omega) (by omega), w64 (by omega) (by omega), firstOf_eq (by omega) (by omega)]
    exact hK k hk
theorem rdays_ev (m : Int) : Ev (fun k => cohousingref03_Days.f k m) (daysOf m) := by
  have bad : ∀ k, cohousingref03_Days.j0 (k + 1) m true = some (0, 0, 3) := fun k => by rw [cohousingref03_Days.j0, if_pos rfl]
  unfold daysOf
  by_cases h1 : m < 0
  · rw [if_neg (by omega)]
    refine evUp 0 fun k _ => ?_
    unfold cohousingref03_Days.f
    rw [if_pos h1, bad]
  by_cases h2 : m > 1199
  · rw [if_neg (by omega)]
    refine evUp 0 fun k _ => ?_
    unfold cohousingref03_Days.f
    rw [if_neg h1, decide_eq_true h2, bad]
  · rw [if_pos (by omega)]
    obtain ⟨K, hK⟩ := rday_ev (2000 + m / 12) (m % 12 + 1) 1
    dsimp only at hK
    have em : m % 12 + 1 - 1 = m % 12 := by omega
    have hb := mlen_bd (2000 + m / 12) (m := m % 12) (by omega) (by omega)
    have ed : dayOf (2000 + m / 12) (m % 12 + 1) 1 = (ystart (2000 + m / 12) + cum (2000 + m / 12) (m % 12), 0) := by
      unfold dayOf
      rw [if_pos (by unfold ValidD; rw [em]; omega), em]
      congr 1
      omega
    rw [ed] at hK
    have hs := ystart_mono (a := 2000) (b := 2000 + m / 12) (by omega)
    have hs1 := ystart_mono (a := 2000 + m / 12) (b := 2100) (by omega)
    rw [ystart_2000] at hs
    rw [ystart_2100] at hs1
    have c0 := cum_le (2000 + m / 12) (a := 0) (b := m % 12) (by omega) (by omega) (by omega)
    have c1 := cum_le (2000 + m / 12) (a := m % 12) (b := 12) (by omega) (by omega) (by omega)
    have hl := leapI_01 (2000 + m / 12)
    rw [cum0] at c0
    rw [cum12] at c1
    refine evUp (K + 2) fun k hk => ?_
    obtain ⟨j, rfl⟩ : ∃ j, k = j + 2 := ⟨k - 2, by omega⟩
    unfold cohousingref03_Days.f
    have hK' := hK (j + 2) (by omega)
    rw [if_neg h1, decide_eq_false h2, cohousingref03_Days.j0, if_neg (by simp), tdiv_pos (by omega), tmod_pos (by omega), w64 (x := m / 12) (by omega) (by omega), w64 (x := 2000 + m / 12) (by omega) (by omega), w64 (x := m % 12 + 1) (by omega) (by omega), hK']
    simp only [Option.bind_some]
    rw [rlength_ev (by omega) (by omega) (by omega), em]
    simp only [Option.bind_some]
    rw [w64 (by omega) (by omega), show ystart (2000 + m / 12) + cum (2000 + m / 12) (m % 12) + mlen (2000 + m / 12) (m % 12) = ystart (2000 + m / 12) + cum (2000 + m / 12) (m % 12 + 1) by unfold mlen; omega]
end Go.Proofs.YtjkpojedegmciaaDoor.Cal
