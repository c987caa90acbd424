/- For all votes and majorities: a further vote for a resolution does not defeat it, one against it does not carry it; without votes for it, it is not carried; without votes against it, any vote carries it, unless the majority is 1; a multiple of all votes decides in the same way. Conditions: the last two numbers are those of their types. -/
import Derived.Test.YtemnlgefngjliaaMtA
import Derived.Test.YtemnlgefngjliaaPx36
namespace Go.Proofs.Ytemnlgefngjliaa.Pure
open Go.RowKit Go.Proofs.YtemnlgefngjliaaW.PrintWords Go.Proofs.Ytemnlgefngjliaa.Given Go.Proofs.Ytemnlgefngjliaa.Px Go.Proofs.Ytemnlgefngjliaa.Meet
set_option linter.unusedVariables false
set_option linter.unusedSimpArgs false
theorem passB_in {y n p q : Int} (h : partB p q = true) (h1 : 0 ≤ y) (h2 : y ≤ 1000000) (h3 : 0 ≤ n) (h4 : n ≤ 1000000) : passB y n p q = (decide (y * q > (y + n) * p), 0) := by
 unfold passB
 rw [if_pos ⟨⟨h1, h2⟩, ⟨h3, h4⟩, h⟩]
theorem passB_cases (y n p q : Int) : (passB y n p q).2 = 0 ∧ (0 ≤ y ∧ y ≤ 1000000) ∧ (0 ≤ n ∧ n ≤ 1000000) ∧ partB p q = true ∨ passB y n p q = (false, 1) := by
 by_cases h : (0 ≤ y ∧ y ≤ 1000000) ∧ (0 ≤ n ∧ n ≤ 1000000) ∧ partB p q = true
 ·left
  unfold passB
  rw [if_pos h]
  exact ⟨rfl, h⟩
 ·right
  unfold passB
  rw [if_neg h]
theorem more_for {y n m p q : Int} (hm : 0 ≤ m) (hp : 0 ≤ p) (hq : p ≤ q) (h : y * q > (y + n) * p) : (y + m) * q > (y + m + n) * p := by
 have h1 : m * p ≤ m * q := Int.mul_le_mul_of_nonneg_left hq hm
 rw [Int.add_mul, show y + m + n = (y + n) + m by omega, Int.add_mul (y + n)]
 omega
theorem more_against {y n m p q : Int} (hm : 0 ≤ m) (hp : 0 ≤ p) (h : y * q > (y + (n + m)) * p) : y * q > (y + n) * p := by
 have h1 : 0 ≤ m * p := Int.mul_nonneg hm hp
 rw [show y + (n + m) = (y + n) + m by omega, Int.add_mul (y + n)] at h
 omega
theorem none_against {y p q : Int} (hy : 0 ≤ y) (hq : p ≤ q) : (y * q > (y + 0) * p) ↔ (y > 0 ∧ p < q) := by
 rw [Int.add_zero]
 constructor
 ·intro h
  rcases Int.lt_or_eq_of_le hy with h1 | h1
  ·rcases Int.lt_or_eq_of_le hq with h2 | h2
   ·exact ⟨h1, h2⟩
   ·rw [h2] at h; omega
  ·rw [← h1] at h; omega
 ·rintro ⟨h1, h2⟩
  exact Int.mul_lt_mul_of_pos_left h2 h1
theorem multiple {y n p q m : Int} (hm : 1 ≤ m) : ((m * y) * q > (m * y + m * n) * p) ↔ (y * q > (y + n) * p) := by
 rw [← Int.mul_add, Int.mul_assoc, Int.mul_assoc]
 constructor
 ·intro h
  exact Int.lt_of_mul_lt_mul_left h (by omega)
 ·intro h
  exact Int.mul_lt_mul_of_pos_left h (by omega)
theorem j1_true (k : Nat) {a0 a1 a4 p q : Int} (hp : partB p q = true) (h0 : 0 ≤ a0) (h1 : a0 ≤ 1000000) (h2 : 0 ≤ a1) (h3 : a1 ≤ 1000000) (h4 : 0 ≤ a4) (h5 : a4 ≤ 255) :
  cohousinglaw39_MeetingPassed.j1 (k + 2) a0 a1 a4 true (passB a0 a1 p q).1 false p q = some true := by
 have e0 : wrap64 (1 + wrap64 a4) = 1 + a4 := by rw [w64 (x := a4) (by omega) (by omega), w64 (by omega) (by omega)]
 have b0 : 0 ≤ (1 + a4) * a0 := Int.mul_nonneg (by omega) h0
 have b1 : (1 + a4) * a0 ≤ 256 * 1000000 := Int.mul_le_mul (by omega) h1 h0 (by omega)
 have b2 : 0 ≤ (1 + a4) * a1 := Int.mul_nonneg (by omega) h2
 have b3 : (1 + a4) * a1 ≤ 256 * 1000000 := Int.mul_le_mul (by omega) h3 h2 (by omega)
 rw [cohousinglaw39_MeetingPassed.j1, if_neg (by decide), e0, w64 (x := (1 + a4) * a0) (by omega) (by omega), w64 (x := (1 + a4) * a1) (by omega) (by omega), passed_eq, Option.bind_some, if_pos rfl]
 rcases passB_cases ((1 + a4) * a0) ((1 + a4) * a1) p q with ⟨hz, hy, hn, _⟩ | hz
 ·rw [if_pos hz, passB_in hp hy.1 hy.2 hn.1 hn.2, passB_in hp h0 h1 h2 h3]
  dsimp only
  rw [show decide ((1 + a4) * a0 * q > ((1 + a4) * a0 + (1 + a4) * a1) * p) = decide (a0 * q > (a0 + a1) * p) from decide_eq_decide.mpr (multiple (by omega))]
  simp
 ·rw [hz]
  rfl
theorem j0_true (k : Nat) {a0 a1 a4 p q : Int} (hp : partB p q = true) (h0 : 0 ≤ a0) (h1 : a0 ≤ 1000000) (h2 : 0 ≤ a1) (h3 : a1 ≤ 1000000) (h4 : 0 ≤ a4) (h5 : a4 ≤ 255) :
  cohousinglaw39_MeetingPassed.j0 (k + 3) a0 a1 a4 true (passB a0 a1 p q).1 false p q = some true := by
 obtain ⟨q1, q2, p1, p2⟩ := part_true hp
 have d1 : passB 0 a1 p q = (false, 0) := by
  rw [passB_in hp (by omega) (by omega) h2 h3]
  have : 0 ≤ (0 + a1) * p := Int.mul_nonneg (by omega) p1
  rw [Int.zero_mul, decide_eq_false (by omega)]
 have d2 : passB a0 0 p q = (decide (a0 > 0 ∧ p < q), 0) := by
  rw [passB_in hp h0 h1 (by omega) (by omega), show decide (a0 * q > (a0 + 0) * p) = decide (a0 > 0 ∧ p < q) from decide_eq_decide.mpr (none_against h0 p2)]
 rw [cohousinglaw39_MeetingPassed.j0, if_neg (by decide), passed_eq, Option.bind_some, passed_eq, Option.bind_some, d1, d2]
 dsimp only
 rw [if_pos rfl, if_neg (by decide), if_pos rfl]
 by_cases c : a0 > 0
 ·rw [if_pos c, show (decide (a0 > 0 ∧ p < q) != decide (p < q)) = false by simp [c]]
  exact j1_true k hp h0 h1 h2 h3 h4 h5
 ·rw [if_neg c, show (decide (a0 > 0 ∧ p < q) != false) = false by simp [c]]
  exact j1_true k hp h0 h1 h2 h3 h4 h5
theorem MeetingPassed (a0 a1 p q a3 a4 : Int) (h3 : 0 ≤ a3) (h4 : a3 ≤ 65535) (h5 : 0 ≤ a4) (h6 : a4 ≤ 255) : Ev (fun k => cohousinglaw39_MeetingPassed.f k a0 a1 p q a3 a4) true := by
 obtain ⟨K, hK⟩ := head_ev
 dsimp only at hK
 refine evUp (K + 3) fun k hk => ?_
 obtain ⟨j, rfl⟩ : ∃ j, k = j + 2 := ⟨k - 2, by omega⟩
 rw [cohousinglaw39_MeetingPassed.f, hK _ (by omega), Option.bind_some, passed_eq, Option.bind_some]
 rcases passB_cases a0 a1 p q with ⟨hz, hy, hn, hp⟩ | hz
 ·obtain ⟨q1, q2, p1, p2⟩ := part_true hp
  rw [if_pos hz, w64 (x := a3) (by omega) (by omega), w64 (x := a0 + a3) (by omega) (by omega), w64 (x := a1 + a3) (by omega) (by omega), passed_eq, Option.bind_some, passed_eq, Option.bind_some]
  have H := j0_true j hp hy.1 hy.2 hn.1 hn.2 h5 h6
  have eA := passB_in hp hy.1 hy.2 hn.1 hn.2
  have hB : (passB (a0 + a3) a1 p q).2 = 0 → (passB a0 a1 p q).1 = true → (passB (a0 + a3) a1 p q).1 = true := by
   intro e1 e2
   rcases passB_cases (a0 + a3) a1 p q with ⟨_, hy', hn', _⟩ | hz'
   ·rw [eA] at e2
    rw [passB_in hp hy'.1 hy'.2 hn'.1 hn'.2]
    exact decide_eq_true (more_for h3 p1 p2 (of_decide_eq_true e2))
   ·rw [hz'] at e1
    exact absurd e1 (by decide)
  have hC : (passB a0 (a1 + a3) p q).2 = 0 → (passB a0 a1 p q).1 = false → (passB a0 (a1 + a3) p q).1 = false := by
   intro e1 e2
   rcases passB_cases a0 (a1 + a3) p q with ⟨_, hy', hn', _⟩ | hz'
   ·rw [eA] at e2
    rw [passB_in hp hy'.1 hy'.2 hn'.1 hn'.2]
    exact decide_eq_false fun hh => of_decide_eq_false e2 (more_against h3 p1 hh)
   ·rw [hz'] at e1
    exact absurd e1 (by decide)
  generalize passB (a0 + a3) a1 p q = B at hB ⊢
  generalize passB a0 (a1 + a3) p q = C at hC ⊢
  generalize (passB a0 a1 p q).1 = A at hB hC H ⊢
  by_cases cB : B.2 = 0
  ·rw [if_pos cB]
   cases A with
   | true => rw [if_pos rfl, if_pos (hB cB rfl)]; split <;> exact H
   | false =>
    rw [if_neg (by decide)]
    by_cases cC : C.2 = 0
    ·rw [if_pos cC, hC cC rfl]; exact H
    ·rw [if_neg cC]; exact H
  ·rw [if_neg cB]
   by_cases cC : C.2 = 0
   ·rw [if_pos cC]
    cases A with
    | true => rw [if_pos rfl]; exact H
    | false => rw [if_neg (by decide), hC cC rfl]; exact H
   ·rw [if_neg cC]; exact H
 ·rw [hz]
  rfl
end Go.Proofs.Ytemnlgefngjliaa.Pure
