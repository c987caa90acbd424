/- Plain facts: working days counted, and how long a time without one can be. Conditions: as each theorem states. -/
import Derived.Test.YtjkpojedegmciaaDoorCalM
namespace Go.Proofs.YtjkpojedegmciaaDoor.Cal
open Go.RowKit Go.Proofs.YtjkpojedegmciaaDoorW.PrintWords
set_option linter.unusedVariables false
set_option linter.unusedSimpArgs false
def wk (d : Int) : Int := if (d + 5) % 7 < 5 then 1 else 0
theorem wk_01 (d : Int) : 0 ≤ wk d ∧ wk d ≤ 1 := by unfold wk; split <;> omega
/-- How many of n days from a day on are no days of a weekend. -/
def wsum (a : Int) : Nat → Int
  | 0 => 0
  | n + 1 => wsum a n + wk (a + n)
theorem wsum7 (a : Int) (n : Nat) : wsum a (n + 7) = wsum a n + 5 := by
  have h : ∀ b : Int, wk b + wk (b + 1) + wk (b + 2) + wk (b + 3) + wk (b + 4) + wk (b + 5) + wk (b + 6) = 5 := by
    intro b
    have : b % 7 = 0 ∨ b % 7 = 1 ∨ b % 7 = 2 ∨ b % 7 = 3 ∨ b % 7 = 4 ∨ b % 7 = 5 ∨ b % 7 = 6 := by omega
    unfold wk
    rcases this with h | h | h | h | h | h | h
    · rw [if_neg (by omega), if_neg (by omega), if_pos (by omega), if_pos (by omega), if_pos (by omega), if_pos (by omega), if_pos (by omega)]; rfl
    · rw [if_neg (by omega), if_pos (by omega), if_pos (by omega), if_pos (by omega), if_pos (by omega), if_pos (by omega), if_neg (by omega)]; rfl
    · rw [if_pos (by omega), if_pos (by omega), if_pos (by omega), if_pos (by omega), if_pos (by omega), if_neg (by omega), if_neg (by omega)]; rfl
    · rw [if_pos (by omega), if_pos (by omega), if_pos (by omega), if_pos (by omega), if_neg (by omega), if_neg (by omega), if_pos (by omega)]; rfl
    · rw [if_pos (by omega), if_pos (by omega), if_pos (by omega), if_neg (by omega), if_neg (by omega), if_pos (by omega), if_pos (by omega)]; rfl
    · rw [if_pos (by omega), if_pos (by omega), if_neg (by omega), if_neg (by omega), if_pos (by omega), if_pos (by omega), if_pos (by omega)]; rfl
    · rw [if_pos (by omega), if_neg (by omega), if_neg (by omega), if_pos (by omega), if_pos (by omega), if_pos (by omega), if_pos (by omega)]; rfl
  have e := h (a + n)
  simp only [wsum]
  rw [show a + ((n + 6 : Nat) : Int) = a + n + 6 by omega, show a + ((n + 5 : Nat) : Int) = a + n + 5 by omega, show a + ((n + 4 : Nat) : Int) = a + n + 4 by omega, show a + ((n + 3 : Nat) : Int) = a + n + 3 by omega, show a + ((n + 2 : Nat) : Int) = a + n + 2 by omega, show a + ((n + 1 : Nat) : Int) = a + n + 1 by omega]
  omega
theorem wsum_weeks (a : Int) : ∀ m : Nat, wsum a (7 * m) = 5 * m
  | 0 => rfl
  | m + 1 => by
    rw [show 7 * (m + 1) = 7 * m + 7 by omega, wsum7, wsum_weeks a m]
    omega
theorem free_count {l : List Int} (h : HolOK l) (a : Int) : ∀ n : Nat, (∀ x, a ≤ x → x < a + n → Free l x) → ∃ i : Int, wsum a n ≤ i ∧ 0 ≤ i ∧ i ≤ l.length ∧ ∀ j, 0 ≤ j → j < i → rd l j < a + n := by
  intro n
  induction n with
  | zero => exact fun _ => ⟨0, by simp [wsum], by omega, by omega, fun j h0 h1 => by omega⟩
  | succ n ih =>
    intro hf
    obtain ⟨i, h1, h2, h3, h4⟩ := ih (fun x a b => hf x a (by omega))
    simp only [wsum]
    by_cases c : (a + n + 5) % 7 < 5
    · have hw : wk (a + n) = 1 := by unfold wk; rw [if_pos c]
      have hm : a + n ∈ l := (hf (a + n) (by omega) (by omega)).elim id (fun d => by omega)
      obtain ⟨t, t0, t1, e⟩ := mem_rd hm
      have ht : i ≤ t := by
        rcases Int.lt_or_le t i with d | d
        · have := h4 t t0 d; omega
        · exact d
      refine ⟨t + 1, by omega, by omega, by omega, fun j j0 j1 => ?_⟩
      by_cases q : j = t
      · subst q; omega
      · have := h.2.lt j0 (show j < t by omega) t1
        omega
    · have hw : wk (a + n) = 0 := by unfold wk; rw [if_neg c]
      exact ⟨i, by omega, h2, h3, fun j j0 j1 => by have := h4 j j0 j1; omega⟩
theorem next_near {l : List Int} (h : HolOK l) {d e : Int} (hn : IsNext l d e) : e < d + 147 := by
  rcases Int.lt_or_le e (d + 147) with c | c
  · exact c
  · obtain ⟨i, h1, h2, h3, _⟩ := free_count h d 147 (fun x a b => hn.free x a (by omega))
    have := wsum_weeks d 21
    have := h.1
    rw [show 7 * 21 = 147 by rfl] at *
    omega
theorem rd_less (l : List Int) (k : Nat) (hk : k < l.length) (j : Int) (h0 : 0 ≤ j) : rd (l.take k ++ l.drop (k + 1)) j = if j < k then rd l j else rd l (j + 1) := by
  obtain ⟨n, rfl⟩ := Int.eq_ofNat_of_zero_le h0
  unfold rd
  rw [Int.toNat_natCast]
  by_cases c : n < k
  · rw [if_pos (by omega)]
    rw [List.getD_eq_getElem?_getD, List.getD_eq_getElem?_getD, List.getElem?_append_left (by simp; omega), List.getElem?_take, if_pos c]
  · rw [if_neg (by omega), List.getD_eq_getElem?_getD, List.getD_eq_getElem?_getD, List.getElem?_append_right (by simp; omega), List.getElem?_drop]
    congr 2
    simp
    omega
theorem less_ok {l : List Int} (h : HolOK l) {k : Nat} (hk : k < l.length) : HolOK (l.take k ++ l.drop (k + 1)) := by
  have hlen : (l.take k ++ l.drop (k + 1)).length = l.length - 1 := by simp; omega
  have h1 := h.1
  refine ⟨by omega, fun j j0 j1 => ?_, fun j j0 j1 => ?_⟩
  · rw [rd_less l k hk j j0]
    split
    · exact h.2.1 j j0 (by omega)
    · exact h.2.1 (j + 1) (by omega) (by omega)
  · rw [rd_less l k hk j (by omega), rd_less l k hk (j - 1) (by omega)]
    split <;> split
    · exact h.2.lt (by omega) (by omega) (by omega)
    · exact h.2.lt (by omega) (by omega) (by omega)
    · omega
    · exact h.2.lt (by omega) (by omega) (by omega)
theorem less_free {l : List Int} {k : Nat} {x : Int} (h : Free (l.take k ++ l.drop (k + 1)) x) : Free l x := by
  rcases h with h | h
  · refine .inl ?_
    rcases List.mem_append.mp h with h | h
    · exact List.mem_of_mem_take h
    · exact List.mem_of_mem_drop h
  · exact .inr h
theorem less_next {l : List Int} (h : HolOK l) {k : Nat} (hk : k < l.length) (d : Int) : nextW (l.take k ++ l.drop (k + 1)) d ≤ nextW l d := by
  have a := (nextW_is h d).1
  have b := (nextW_is (less_ok h hk) d).1
  rcases Int.lt_or_le (nextW l d) (nextW (l.take k ++ l.drop (k + 1)) d) with c | c
  · exact absurd (less_free (b.free _ a.le c)) a.work
  · exact c
end Go.Proofs.YtjkpojedegmciaaDoor.Cal
