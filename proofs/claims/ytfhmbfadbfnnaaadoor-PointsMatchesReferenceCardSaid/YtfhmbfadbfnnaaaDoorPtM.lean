/- Plain facts about months and points: numbers alone, no Go. Conditions: as each theorem states. -/
import Derived.Test.YtfhmbfadbfnnaaaDoorCalM
namespace Go.Proofs.YtfhmbfadbfnnaaaDoor.Pts
open Go.RowKit Go.Proofs.YtfhmbfadbfnnaaaDoorW.PrintWords Go.Proofs.YtfhmbfadbfnnaaaDoor.Cal
set_option linter.unusedVariables false
set_option linter.unusedSimpArgs false
noncomputable def moOf (d : Int) : Int := (monthOf d).1
noncomputable def ddOf (d : Int) : Int := (dateOf d).2.2.1
noncomputable def monthsOf (s d : Int) : Int := moOf d - moOf s - (if ddOf d < ddOf s then 1 else 0)
theorem mo_of {d y m q : Int} (h : IsDate d y m q) : moOf d = 12 * (y - 2000) + m - 1 ∧ ddOf d = q := by
  unfold moOf ddOf monthOf
  rw [dateOf_eq h]
  exact ⟨rfl, rfl⟩
/-- An earlier day is in no later month; in one month it has no greater date. -/
theorem mo_mono {s d : Int} (h0 : 0 ≤ s) (h1 : s ≤ d) (h2 : d ≤ 36524) : moOf s ≤ moOf d ∧ (moOf s = moOf d → ddOf s ≤ ddOf d) := by
  obtain ⟨y, m, q, hs, _⟩ := dateOf_in h0 (show s ≤ 36524 by omega)
  obtain ⟨y', m', q', hd, _⟩ := dateOf_in (show 0 ≤ d by omega) h2
  obtain ⟨e1, e2⟩ := mo_of hs
  obtain ⟨e3, e4⟩ := mo_of hd
  have a1 := hs.m0
  have a2 := hs.m1
  have b1 := hd.m0
  have b2 := hd.m1
  have hy : y ≤ y' := by
    rcases Int.lt_or_le y' y with c | c
    · have := ystart_mono (a := y' + 1) (b := y) (by omega)
      have := hs.year
      have := hd.year
      omega
    · exact c
  have hm : y = y' → m ≤ m' := by
    intro e
    subst e
    rcases Int.lt_or_le m' m with c | c
    · have := cum_le y (a := m') (b := m - 1) (by omega) (by omega) (by omega)
      have := hs.lo
      have := hd.lo
      omega
    · exact c
  rw [e1, e2, e3, e4]
  refine ⟨?_, fun e => ?_⟩
  · by_cases c : y = y'
    · have := hm c; omega
    · omega
  · have c : y = y' := by omega
    subst c
    have c2 : m = m' := by omega
    subst c2
    have := hs.eq
    have := hd.eq
    omega
theorem months_nonneg {s d : Int} (h0 : 0 ≤ s) (h1 : s ≤ d) (h2 : d ≤ 36524) : 0 ≤ monthsOf s d := by
  obtain ⟨a, b⟩ := mo_mono h0 h1 h2
  unfold monthsOf
  by_cases c : moOf s = moOf d
  · have := b c
    rw [if_neg (by omega)]
    omega
  · split <;> omega
theorem mo_range {d : Int} (h0 : 0 ≤ d) (h2 : d ≤ 36524) : 0 ≤ moOf d ∧ moOf d ≤ 1199 ∧ 1 ≤ ddOf d := by
  obtain ⟨y, m, q, hs, _⟩ := dateOf_in h0 h2
  obtain ⟨e1, e2⟩ := mo_of hs
  have := hs.m0
  have := hs.m1
  have := hs.y0
  have := hs.y1
  have := hs.d0
  omega
theorem months_le {s d : Int} (h0 : 0 ≤ s) (h1 : s ≤ 36524) (h2 : 0 ≤ d) (h3 : d ≤ 36524) : -1200 ≤ monthsOf s d ∧ monthsOf s d ≤ 1199 := by
  have a := mo_range h0 h1
  have b := mo_range h2 h3
  unfold monthsOf
  split <;> omega
theorem months_mono {s d l : Int} (h0 : 0 ≤ s) (h1 : s ≤ d) (h2 : d ≤ l) (h3 : l ≤ 36524) : monthsOf s d ≤ monthsOf s l := by
  obtain ⟨a, b⟩ := mo_mono (s := d) (d := l) (by omega) h2 h3
  unfold monthsOf
  by_cases c : moOf d = moOf l
  · have := b c
    by_cases e : ddOf l < ddOf s
    · rw [if_pos e, if_pos (show ddOf d < ddOf s by omega)]; omega
    · rw [if_neg e]; split <;> omega
  · split <;> split <;> omega
/-- The same date of the next month. -/
theorem months_next {s d n y m q y' m' : Int} (hd : IsDate d y m q) (hn : IsDate n y' m' q) (e : 12 * (y' - 2000) + m' - 1 = 12 * (y - 2000) + m - 1 + 1) : monthsOf s n = monthsOf s d + 1 := by
  obtain ⟨a, b⟩ := mo_of hd
  obtain ⟨c, f⟩ := mo_of hn
  unfold monthsOf
  rw [a, b, c, f]
  omega
/-! ### Points -/
def validW (a b c d : Int) : Bool := decide ((0 ≤ a ∧ a ≤ 1000000) ∧ (0 ≤ b ∧ b ≤ 1000000) ∧ (0 ≤ c ∧ c ≤ 1000000) ∧ (0 ≤ d ∧ d ≤ 1000000))
def validH (h s n l p : Int) : Bool := decide ((1 ≤ h ∧ h ≤ 64) ∧ (0 ≤ s ∧ s ≤ 36524) ∧ (0 ≤ n ∧ n ≤ 10) ∧ (0 ≤ l ∧ l ≤ 100000) ∧ (0 ≤ p ∧ p ≤ 1000))
noncomputable def ptsOf (a b c d s n l p day : Int) : Int := monthsOf s day * a + n * b + l * c + p * d
/-- What Count returns. -/
noncomputable def countOf (E a b c d h s n l p day : Int) : Int × Int :=
  if (validW a b c d && validH h s n l p) = true then
    (if 0 ≤ day ∧ day ≤ 36524 then (if s > day then (0, E) else if ptsOf a b c d s n l p day > 1000000000 then (0, 3) else (ptsOf a b c d s n l p day, 0)) else (0, 3)) else (0, 1)
theorem countOf_ok {E a b c d h s n l p day : Int} (hE : E ≠ 0) (h0 : (countOf E a b c d h s n l p day).2 = 0) : (validW a b c d = true ∧ validH h s n l p = true) ∧ (0 ≤ day ∧ day ≤ 36524) ∧ s ≤ day ∧ ptsOf a b c d s n l p day ≤ 1000000000 ∧ countOf E a b c d h s n l p day = (ptsOf a b c d s n l p day, 0) := by
  unfold countOf at h0 ⊢
  by_cases c1 : (validW a b c d && validH h s n l p) = true
  · rw [if_pos c1] at h0 ⊢
    by_cases c2 : 0 ≤ day ∧ day ≤ 36524
    · rw [if_pos c2] at h0 ⊢
      by_cases c3 : s > day
      · rw [if_pos c3] at h0; exact absurd h0 hE
      · rw [if_neg c3] at h0 ⊢
        by_cases c4 : ptsOf a b c d s n l p day > 1000000000
        · rw [if_pos c4] at h0; simp at h0
        · rw [if_neg c4]
          rw [Bool.and_eq_true] at c1
          exact ⟨c1, c2, by omega, by omega, rfl⟩
    · rw [if_neg c2] at h0; simp at h0
  · rw [if_neg c1] at h0; simp at h0
theorem countOf_in {E a b c d h s n l p day : Int} (h1 : validW a b c d = true) (h2 : validH h s n l p = true) (h3 : 0 ≤ day ∧ day ≤ 36524) (h4 : s ≤ day) : countOf E a b c d h s n l p day = if ptsOf a b c d s n l p day > 1000000000 then (0, 3) else (ptsOf a b c d s n l p day, 0) := by
  unfold countOf
  rw [if_pos (by rw [h1, h2]; rfl), if_pos h3, if_neg (by omega)]
end Go.Proofs.YtfhmbfadbfnnaaaDoor.Pts
