/- Words that the kit's print.sh printed, in a copy without what is not used. Conditions: as_ each theorem states. -/
import Derived.Test.YtfbgkcadnmcakaaClU
import Derived.Test.YtfbgkcadnmcakaaClH
import Derived.Test.YtfbgkcadnmcakaaPx24
import Derived.SizedLaws
import Derived.ChangeSlices
namespace Go.Proofs.Ytfbgkcadnmcakaa.Pure
open Go.RowKit Go.Proofs.YtfbgkcadnmcakaaW.PrintWords Go.Proofs.Ytfbgkcadnmcakaa.Given Go.Proofs.Ytfbgkcadnmcakaa.Px Go.Proofs.Ytfbgkcadnmcakaa.Cl
set_option linter.unusedVariables false
set_option linter.unusedSimpArgs false
theorem ClaimsMatchesReference (l : List S30) (q0 q1 q2 q3 q4 q5 : Int) (a : List S26) (who : Int) (b ids : List Int) (cents day : Int) : Ev (fun k => a0d.f k l q0 q1 q2 q3 q4 q5 a who b ids cents day) true := by
  obtain ⟨K0, h0⟩ := b8a
  dsimp only at h0
  have hno : ∀ k, a0d.j0 (k + 1) l a who b ids cents day true true q0 q1 q2 q3 q4 q5 = some true := fun k => by rw [a0d.j0, if_pos rfl]
  by_cases c1 : (l.length : Int) > 110
  · refine ⟨K0 + 1, fun k hk => ?_⟩
    obtain ⟨k, rfl⟩ : ∃ j, k = j + 1 := ⟨k - 1, by omega⟩
    dsimp only
    unfold a0d.f
    rw [h0 _ (by omega), Option.bind_some, if_pos c1, hno]
  by_cases c2 : (a.length : Int) > 40
  · refine ⟨K0 + 1, fun k hk => ?_⟩
    obtain ⟨k, rfl⟩ : ∃ j, k = j + 1 := ⟨k - 1, by omega⟩
    dsimp only
    unfold a0d.f
    rw [h0 _ (by omega), Option.bind_some, if_neg c1, if_pos c2, hno]
  by_cases c3 : (b.length : Int) > 110
  · refine ⟨K0 + 1, fun k hk => ?_⟩
    obtain ⟨k, rfl⟩ : ∃ j, k = j + 1 := ⟨k - 1, by omega⟩
    dsimp only
    unfold a0d.f
    rw [h0 _ (by omega), Option.bind_some, if_neg c1, if_neg c2, if_pos c3, hno]
  by_cases c4 : (ids.length : Int) > 110
  · refine ⟨K0 + 1, fun k hk => ?_⟩
    obtain ⟨k, rfl⟩ : ∃ j, k = j + 1 := ⟨k - 1, by omega⟩
    dsimp only
    unfold a0d.f
    rw [h0 _ (by omega), Option.bind_some, if_neg c1, if_neg c2, if_neg c3, decide_eq_true c4, hno]
  obtain ⟨x, hx⟩ : ∃ x : S30, x = ⟨q0, q1, q2, q3, ⟨q4, q5⟩⟩ := ⟨_, rfl⟩
  obtain ⟨K1, h1⟩ := b5p x a day
  obtain ⟨K2, h2⟩ := b2x x a (by omega) day
  obtain ⟨K3, h3⟩ := b2s l (by omega)
  obtain ⟨K4, h4⟩ := a7k l
  obtain ⟨K5, h5⟩ := b6l l (by omega) a who b (by omega) day
  obtain ⟨K6, h6⟩ := b3f l a (by omega) who b (by omega) day
  have rl : (a7b l a who b day).1.length ≤ l.length := by
    unfold a7b
    split
    · rw [List.length_map]; exact List.length_filter_le _ _
    · exact Nat.zero_le _
  obtain ⟨K7, h7⟩ := b6q (a7b l a who b day).1 (by omega)
  obtain ⟨K8, h8⟩ := b6o l (by omega) ids (by omega) cents
  obtain ⟨K9, h9⟩ := b3i l ids (by omega) cents
  have cl : (a7c l ids cents).1.length ≤ ids.length := by
    unfold a7c covF
    split
    · split
      · rename_i c
        have h := b1c (a3p cfS (pick l ids []).1) cents
        rw [a5r] at h
        rcases b1b l ids [] (by simp) with ⟨_, _, e⟩ | ⟨_, _, e⟩
        · rw [e] at h ⊢
          have := List.length_filterMap_le (fnd l) ids
          rw [List.nil_append] at h
          exact Nat.le_trans h this
        · exact absurd c e
      · exact Nat.zero_le _
    · exact Nat.zero_le _
  obtain ⟨K10, h10⟩ := b5t (a7c l ids cents).1 (by omega)
  rw [hx] at h1 h2
  dsimp only at h1 h2 h3 h4 h5 h6 h7 h8 h9 h10
  refine ⟨K0 + K1 + K2 + K3 + K4 + K5 + K6 + K7 + K8 + K9 + K10 + 3, fun k hk => ?_⟩
  obtain ⟨k, rfl⟩ : ∃ j, k = j + 3 := ⟨k - 3, by omega⟩
  dsimp only
  unfold a0d.f
  rw [h0 _ (by omega), Option.bind_some, if_neg c1, if_neg c2, if_neg c3, decide_eq_false c4, a0d.j0, if_neg (by decide), h1 _ (by omega), Option.bind_some, h2 _ (by omega), Option.bind_some, if_pos rfl, h3 _ (by omega), Option.bind_some, h4 _ (by omega), Option.bind_some, if_pos (by simp), if_pos rfl, beq_self_eq_true, a0d.j1]
  rw [h5 _ (by omega), Option.bind_some, h6 _ (by omega), Option.bind_some, if_pos rfl, h7 _ (by omega), Option.bind_some, if_pos rfl, beq_self_eq_true, a0d.j2]
  rw [h8 _ (by omega), Option.bind_some, h9 _ (by omega), Option.bind_some, if_pos rfl, h10 _ (by omega), Option.bind_some, if_pos rfl, if_pos rfl, beq_self_eq_true]
end Go.Proofs.Ytfbgkcadnmcakaa.Pure
namespace Go.Proofs.YtfbgkcadnmcakaaW.PrintWords
open Go.ChangeShapes Go.WideShapes
end Go.Proofs.YtfbgkcadnmcakaaW.PrintWords
