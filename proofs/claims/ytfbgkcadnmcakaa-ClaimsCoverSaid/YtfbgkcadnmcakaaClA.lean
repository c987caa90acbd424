/- What the claims' small functions count: numbers, claims, assignments, the holder. Conditions: as each theorem states. -/
import Derived.Test.YtfbgkcadnmcakaaClT
import Derived.Test.YtfbgkcadnmcakaaPx11
import Derived.Test.YtfbgkcadnmcakaaPx10
import Derived.Test.YtfbgkcadnmcakaaPx4
import Derived.Test.YtfbgkcadnmcakaaPx9
namespace Go.Proofs.Ytfbgkcadnmcakaa.Cl
open Go.RowKit Go.Proofs.YtfbgkcadnmcakaaW.PrintWords Go.Proofs.Ytfbgkcadnmcakaa.Given Go.Proofs.Ytfbgkcadnmcakaa.Px
set_option linter.unusedVariables false
set_option linter.unusedSimpArgs false
theorem a9u (l : List Int) {i : Int} (h0 : 0 ≤ i) (h1 : i < l.length) : l.drop i.toNat = rd l i :: l.drop (i + 1).toNat := by
  have h : i.toNat < l.length := by omega
  rw [show (i + 1).toNat = i.toNat + 1 by omega, List.drop_eq_getElem_cons h]
  unfold rd
  rw [List.getD_eq_getElem?_getD, List.getElem?_eq_getElem h]
  rfl
theorem a5t (l : List S30) {i : Int} (h0 : 0 ≤ i) (h1 : i < l.length) : l.drop i.toNat = a0a l i :: l.drop (i + 1).toNat := by
  have h : i.toNat < l.length := by omega
  rw [show (i + 1).toNat = i.toNat + 1 by omega, List.drop_eq_getElem_cons h]
  unfold a0a
  rw [List.getD_eq_getElem?_getD, List.getElem?_eq_getElem h]
  rfl
theorem dropEnd {α : Type} (l : List α) {i : Int} (h : i = l.length) : l.drop i.toNat = [] := by
  rw [h]; simp
def numB (n : Int) : Bool := decide (1 ≤ n ∧ n ≤ 1000000)
def a8p (a b : Int) : Bool := decide (0 ≤ a ∧ a < b ∧ b ≤ 36525)
def a5j (x : S30) : Bool := numB x.f0 && (numB x.f1 && (numB x.f2 && (decide (1 ≤ x.f3 ∧ x.f3 ≤ 1000000000) && a8p x.f4.f0 x.f4.f1)))
theorem b1e (n : Int) : a3s.f n = some (!numB n) := by
  unfold a3s.f numB
  by_cases h : n < 1
  · rw [if_pos h, decide_eq_false (by omega)]; rfl
  · rw [if_neg h]
    by_cases c : n ≤ 1000000
    · rw [decide_eq_false (show ¬ n > 1000000 by omega), decide_eq_true (show 1 ≤ n ∧ n ≤ 1000000 by omega)]; rfl
    · rw [decide_eq_true (show n > 1000000 by omega), decide_eq_false (show ¬ (1 ≤ n ∧ n ≤ 1000000) by omega)]; rfl
theorem b3o (l : List Int) (hl : (l.length : Int) ≤ 9223372036854775807) : ∀ (n : Nat) (i : Int), 0 ≤ i → i + n = l.length →
    ∃ r, Ev (fun k => a0i.l0 k l (l.length : Int) i) r ∧ (r ≥ 0 ↔ (l.drop i.toNat).all numB = false) := by
  intro n
  induction n with
  | zero =>
    intro i i0 hi
    refine ⟨-1, evUp 0 fun k _ => by rw [a0i.l0, if_neg (by omega)], ?_⟩
    rw [dropEnd l (by omega)]
    simp
  | succ n ih =>
    intro i i0 hi
    have e := a9u l i0 (by omega)
    by_cases c : numB (rd l i) = true
    · obtain ⟨r, ⟨K, hK⟩, hr⟩ := ih (i + 1) (by omega) (by omega)
      dsimp only at hK
      refine ⟨r, evUp K fun k hk => ?_, ?_⟩
      · rw [a0i.l0, if_pos (by omega), if_pos i0, if_pos (by omega), b1e, Option.bind_some, c, if_neg (by decide), w64 (by omega) (by omega)]
        exact hK k hk
      · rw [hr, e, List.all_cons, c, Bool.true_and]
    · rw [Bool.not_eq_true] at c
      refine ⟨i, evUp 0 fun k _ => ?_, ?_⟩
      · rw [a0i.l0, if_pos (by omega), if_pos i0, if_pos (by omega), b1e, Option.bind_some, c, if_pos (by decide)]
      · rw [e, List.all_cons, c, Bool.false_and]
        simpa using i0
theorem b1u (l : List Int) (hl : (l.length : Int) ≤ 9223372036854775807) : Ev (fun k => a1l.f k l) (l.all numB) := by
  obtain ⟨r, ⟨K, hK⟩, hr⟩ := b3o l hl l.length 0 (by omega) (by omega)
  dsimp only at hK
  refine ⟨K, fun k hk => ?_⟩
  dsimp only
  unfold a1l.f a1i.f a0i.f
  rw [hK k hk, Option.bind_some, Option.bind_some]
  rw [show (0 : Int).toNat = 0 from rfl, List.drop_zero] at hr
  by_cases c : r ≥ 0
  · rw [decide_eq_true c, hr.1 c]; rfl
  · rw [decide_eq_false c]
    have : ¬ l.all numB = false := fun h => c (hr.2 h)
    rw [Bool.not_eq_false] at this
    rw [this]; rfl
theorem b5u (a b : Int) (k : Nat) : a1b.f (k + 3) ([(⟨a, b⟩ : S28)] : List S28) = some (a8p a b) := by
  have e : a2o [(⟨a, b⟩ : S28)] 0 = ⟨a, b⟩ := rfl
  have h1 : a4d.f a b = some (a8p a b) := by
    unfold a4d.f a8p
    by_cases c : 0 ≤ a
    · rw [if_pos c]
      by_cases d : a < b
      · rw [if_pos d]; congr 1; simp [c, d]
      · rw [if_neg d]; congr 1; simp [d]
    · rw [if_neg c]; congr 1; simp [c]
  unfold a1b.f
  rw [a1b.l0]
  simp only [List.length_cons, List.length_nil]
  rw [if_pos (by decide), if_pos (by decide), if_pos (by decide), e, h1, Option.bind_some]
  by_cases c : a8p a b = true
  · rw [if_pos c, if_neg (by decide), a1b.j1, if_neg (by decide), w64 (by decide) (by decide), a1b.l0, if_neg (by decide), c]
    rfl
  · rw [if_neg c, a1b.j1, if_pos rfl]
    rw [Bool.not_eq_true] at c
    rw [c]
theorem b3p (x : S30) : Ev (fun k => a2j.f k x.f0 x.f1 x.f2 x.f3 x.f4.f0 x.f4.f1) (a5j x) := by
  obtain ⟨K, hK⟩ := b1u [x.f0, x.f1, x.f2] (by simp)
  dsimp only at hK
  refine ⟨K + 3, fun k hk => ?_⟩
  obtain ⟨k, rfl⟩ : ∃ j, k = j + 3 := ⟨k - 3, by omega⟩
  dsimp only
  unfold a2j.f
  rw [hK _ (by omega), Option.bind_some, b5u]
  have e : [x.f0, x.f1, x.f2].all numB = (numB x.f0 && (numB x.f1 && (numB x.f2 && true))) := rfl
  rw [e]
  unfold a5j
  cases numB x.f0 with
  | false => rfl
  | true =>
    cases numB x.f1 with
    | false => rfl
    | true =>
      cases numB x.f2 with
      | false => rfl
      | true =>
        rw [if_pos (show (true && (true && (true && true))) = true from rfl)]
        by_cases c : 1 ≤ x.f3
        · rw [if_pos c]
          by_cases d : x.f3 ≤ 1000000000
          · rw [if_pos d, Option.bind_some]; simp [c, d]
          · rw [if_neg d]; simp [d]
        · rw [if_neg c]; simp [c]
end Go.Proofs.Ytfbgkcadnmcakaa.Cl
