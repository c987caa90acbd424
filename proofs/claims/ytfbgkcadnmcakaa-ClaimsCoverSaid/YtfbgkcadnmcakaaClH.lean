/- What the reference's Valid, Raise and Cover count: the same as the program's. Conditions: as each theorem states. -/
import Derived.Test.YtfbgkcadnmcakaaClD
import Derived.Test.YtfbgkcadnmcakaaClR
import Derived.Test.YtfbgkcadnmcakaaPx23
import Derived.Test.YtfbgkcadnmcakaaPx16
import Derived.Test.YtfbgkcadnmcakaaPx15
import Derived.Test.YtfbgkcadnmcakaaPx14
import Derived.Test.YtfbgkcadnmcakaaClA
namespace Go.Proofs.Ytfbgkcadnmcakaa.Cl
open Go.RowKit Go.Proofs.YtfbgkcadnmcakaaW.PrintWords Go.Proofs.YtfbgkcadnmcakaaW.PrintMore Go.Proofs.Ytfbgkcadnmcakaa.Given Go.Proofs.Ytfbgkcadnmcakaa.Px
set_option linter.unusedVariables false
set_option linter.unusedSimpArgs false
theorem b5v (l : List S30) (hl : (l.length : Int) ≤ 9223372036854775807) (id : Int) : ∀ (n : Nat) (i : Int), 0 ≤ i → i + n = l.length →
    ∃ r, Ev (fun k => a1m.l0 k l id i) r ∧ ((r < 0 ∧ fnd (l.drop i.toNat) id = none) ∨ (i ≤ r ∧ r < l.length ∧ fnd (l.drop i.toNat) id = some (a0a l r))) := by
  intro n
  induction n with
  | zero =>
    intro i i0 hi
    rw [dropEnd l (by omega)]
    exact ⟨-1, evUp 0 fun k _ => by rw [a1m.l0, if_neg (by omega)], .inl ⟨by omega, rfl⟩⟩
  | succ n ih =>
    intro i i0 hi
    rw [a5t l i0 (by omega)]
    by_cases c : (a0a l i).f0 = id
    · refine ⟨i, evUp 0 fun k _ => by rw [a1m.l0, if_pos (by omega), if_pos i0, if_pos c], .inr ⟨Int.le_refl _, by omega, ?_⟩⟩
      unfold fnd
      rw [List.find?_cons, decide_eq_true c]
    · obtain ⟨r, ⟨K, hK⟩, hr⟩ := ih (i + 1) (by omega) (by omega)
      dsimp only at hK
      refine ⟨r, evUp K fun k hk => ?_, ?_⟩
      · rw [a1m.l0, if_pos (by omega), if_pos i0, if_neg c, w64 (by omega) (by omega)]
        exact hK k hk
      · have e : fnd (a0a l i :: l.drop (i + 1).toNat) id = fnd (l.drop (i + 1).toNat) id := by
          unfold fnd
          rw [List.find?_cons, decide_eq_false c]
        rw [e]
        rcases hr with h | ⟨h1, h2, h3⟩
        · exact .inl h
        · exact .inr ⟨by omega, h2, h3⟩
theorem b6e (l : List S30) (hl : (l.length : Int) ≤ 9223372036854775807) (id : Int) : ∃ r, Ev (fun k => a1m.f k l id) r ∧ ((r < 0 ∧ fnd l id = none) ∨ (0 ≤ r ∧ r < l.length ∧ fnd l id = some (a0a l r))) := by
  obtain ⟨r, h1, h2⟩ := b5v l hl id l.length 0 (by omega) (by omega)
  exact ⟨r, h1, h2⟩
theorem b2z (x y : S30) : a2e.f x.f0 x.f1 x.f2 x.f3 x.f4.f0 x.f4.f1 y.f0 y.f1 y.f2 y.f3 y.f4.f0 y.f4.f1 = some (decide (cfS x y < 0)) := by
  unfold a2e.f
  have h := b0i x y
  by_cases c : x.f4.f1 < y.f4.f1
  · rw [if_pos c, decide_eq_true (h.2 (.inl c))]
  · rw [if_neg c]
    by_cases d : x.f4.f1 = y.f4.f1
    · rw [if_pos d]
      congr 1
      exact decide_eq_decide.2 (by rw [h]; omega)
    · rw [if_neg d, decide_eq_false (by rw [h]; omega)]
theorem b3a (l : List S30) (hl : (l.length : Int) ≤ 9223372036854775807) : Ev (fun k => a0t.f k l l) true := by
  have h : ∀ (n : Nat) (i : Int), 0 ≤ i → i + n = l.length → Ev (fun k => a0t.l0 k l l i) true := by
    intro n
    induction n with
    | zero => exact fun i i0 hi => evUp 0 fun k _ => by rw [a0t.l0, if_neg (by omega)]
    | succ n ih =>
      intro i i0 hi
      obtain ⟨K, hK⟩ := ih (i + 1) (by omega) (by omega)
      dsimp only at hK
      refine evUp K fun k hk => ?_
      rw [a0t.l0, if_pos (by omega), if_pos i0, if_pos (by omega), w64 (by omega) (by omega), if_neg (by simp)]
      exact hK k hk
  obtain ⟨K, hK⟩ := h l.length 0 (by omega) (by omega)
  dsimp only at hK
  exact ⟨K, fun k hk => by dsimp only; unfold a0t.f; rw [if_pos rfl]; exact hK k hk⟩
end Go.Proofs.Ytfbgkcadnmcakaa.Cl
/- The claims' example, and the order of the assignments: without some, and with one behind. Conditions: as each theorem states. -/
namespace Go.Proofs.Ytfbgkcadnmcakaa.Cl
open Go.RowKit Go.Proofs.YtfbgkcadnmcakaaW.PrintWords Go.Proofs.Ytfbgkcadnmcakaa.Given Go.Proofs.Ytfbgkcadnmcakaa.Px
set_option linter.unusedVariables false
set_option linter.unusedSimpArgs false
set_option maxRecDepth 100000 in
theorem b4n : Ev (fun k => a0e.f k) true := Ev.of (fun k => a0e.mono k) (k := 60) (by decide +kernel)
end Go.Proofs.Ytfbgkcadnmcakaa.Cl
