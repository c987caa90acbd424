/- For any claim, assignments and day: the holder is the same without the assignments of other claims, and those after the day; and an assignment by somebody who does not hold the claim, behind the others on this day, changes nothing on it (up to 100 assignments). Conditions: none. -/
import Derived.Test.YtfbgkcadnmcakaaClB
import Derived.Test.YtfbgkcadnmcakaaClH
import Derived.Test.YtfbgkcadnmcakaaPx25
namespace Go.Proofs.Ytfbgkcadnmcakaa.Pure
open Go.RowKit Go.Proofs.YtfbgkcadnmcakaaW.PrintWords Go.Proofs.Ytfbgkcadnmcakaa.Given Go.Proofs.Ytfbgkcadnmcakaa.Px Go.Proofs.Ytfbgkcadnmcakaa.Cl
set_option linter.unusedVariables false
set_option linter.unusedSimpArgs false
theorem b3l (x : S30) (l : List S26) (from_ to_ day n : Int) (hl : l.length ≤ 100) (b : Bool) (hB : ∀ own, own = l.filter (ofB x.f0 day) → Ev (fun k => (a0q.f k x.f0 x.f1 x.f2 x.f3 x.f4.f0 x.f4.f1 own day).bind fun bt456 => (if bt456.2 = 0 then (a0e.j2 k l from_ to_ day true n (bt456.1 != n) x.f0 x.f1 x.f2 x.f3 x.f4.f0 x.f4.f1) else (a0e.j2 k l from_ to_ day true n true x.f0 x.f1 x.f2 x.f3 x.f4.f0 x.f4.f1))) b) :
    ∀ (m : Nat) (i : Int) (own : List S26), 0 ≤ i → i + m = l.length → own.length ≤ i → own ++ (l.drop i.toNat).filter (ofB x.f0 day) = l.filter (ofB x.f0 day) →
    Ev (fun k => a0e.l0 k l from_ to_ day true n own l (l.length : Int) i x.f0 x.f1 x.f2 x.f3 x.f4.f0 x.f4.f1) b := by
  intro m
  induction m with
  | zero =>
    intro i own i0 hi ho he
    rw [dropEnd l (by omega), List.filter_nil, List.append_nil] at he
    obtain ⟨K, hK⟩ := hB own he
    dsimp only at hK
    exact evUp K fun k hk => by rw [a0e.l0, if_neg (by omega)]; exact hK k hk
  | succ m ih =>
    intro i own i0 hi ho he
    have hd := b0m l i0 (by omega)
    rw [hd, List.filter_cons] at he
    have hlen : own.length + 1 < 4398046511104 := by omega
    by_cases c : ofB x.f0 day (a0b l i) = true
    · rw [if_pos c] at he
      obtain ⟨K, hK⟩ := ih (i + 1) (own ++ [a0b l i]) (by omega) (by omega) (by rw [List.length_append, List.length_singleton]; omega) (by rw [List.append_assoc]; exact he)
      dsimp only at hK
      unfold ofB at c
      rw [decide_eq_true_eq] at c
      refine evUp K fun k hk => ?_
      rw [a0e.l0, if_pos (by omega), if_pos i0, if_pos (by omega), if_pos c.1, if_pos c.2, Option.bind_some, w64 (by omega) (by omega), if_pos (by simpa using hlen)]
      exact hK k hk
    · rw [if_neg c] at he
      obtain ⟨K, hK⟩ := ih (i + 1) own (by omega) (by omega) (by omega) he
      dsimp only at hK
      refine evUp K fun k hk => ?_
      rw [a0e.l0, if_pos (by omega), if_pos i0, if_pos (by omega), w64 (by omega) (by omega)]
      by_cases c1 : (a0b l i).f0 = x.f0
      · rw [if_pos c1, if_neg (fun h => c (by unfold ofB; rw [decide_eq_true_eq]; exact ⟨c1, h⟩))]
        exact hK k hk
      · rw [if_neg c1]
        exact hK k hk
theorem ClaimsHolder (a b c d e f : Int) (l : List S26) (from_ to_ day : Int) : Ev (fun k => a0e.f k a b c d e f l from_ to_ day) true := by
  obtain ⟨K0, h0⟩ := b4o
  dsimp only at h0
  obtain ⟨x, hx⟩ : ∃ x : S30, x = ⟨a, b, c, d, ⟨e, f⟩⟩ := ⟨_, rfl⟩
  have H := fun l => b2v x l day
  have goal : Ev (fun k => a0e.f k x.f0 x.f1 x.f2 x.f3 x.f4.f0 x.f4.f1 l from_ to_ day) true := by
    obtain ⟨K1, h1⟩ := H l
    dsimp only at h1
    by_cases ok : (a5y x && (okA l && dayB day)) = true
    · have e1 : a5g x l day = (a4m x.f0 day x.f2 (a3k l), 0) := by unfold a5g; rw [if_pos ok]
      rw [e1] at h1
      have ok' := ok
      rw [Bool.and_eq_true, Bool.and_eq_true] at ok'
      obtain ⟨ok1, ok2, ok3⟩ := ok'
      by_cases hl : (l.length : Int) > 100
      · refine ⟨K0 + K1 + 1, fun k hk => ?_⟩
        obtain ⟨k, rfl⟩ : ∃ j, k = j + 1 := ⟨k - 1, by omega⟩
        dsimp only
        unfold a0e.f
        rw [h0 _ (by omega), Option.bind_some, h1 _ (by omega), Option.bind_some, if_pos rfl, decide_eq_true hl, a0e.j0, if_pos rfl, if_pos rfl, if_neg (show ¬ (0 : Int) = 1 by decide)]
      · have hl' : l.length ≤ 100 := by omega
        obtain ⟨n, hn⟩ : ∃ n, n = a4m x.f0 day x.f2 (a3k l) := ⟨_, rfl⟩
        rw [← hn] at h1
        have hB : ∀ own, own = l.filter (ofB x.f0 day) → Ev (fun k => (a0q.f k x.f0 x.f1 x.f2 x.f3 x.f4.f0 x.f4.f1 own day).bind fun bt456 => (if bt456.2 = 0 then (a0e.j2 k l from_ to_ day true n (bt456.1 != n) x.f0 x.f1 x.f2 x.f3 x.f4.f0 x.f4.f1) else (a0e.j2 k l from_ to_ day true n true x.f0 x.f1 x.f2 x.f3 x.f4.f0 x.f4.f1))) true := by
          intro own ho
          have e2 : a5g x own day = (n, 0) := by
            rw [b0n ok1 (by rw [ho]; exact b1r ok2) ok3, ho, a7k, hn]
          obtain ⟨K2, h2⟩ := H own
          dsimp only at h2
          rw [e2] at h2
          obtain ⟨z, hz⟩ : ∃ z : S26, z = ⟨x.f0, from_, to_, day⟩ := ⟨_, rfl⟩
          obtain ⟨K3, h3⟩ := H (l ++ [z])
          dsimp only at h3
          refine ⟨K2 + K3 + 1, fun k hk => ?_⟩
          obtain ⟨k, rfl⟩ : ∃ j, k = j + 1 := ⟨k - 1, by omega⟩
          dsimp only
          rw [h2 _ (by omega), Option.bind_some, if_pos rfl, bne_self_eq_false, a0e.j2, if_neg (by decide), Option.bind_some, if_pos (by simp; omega), Option.bind_some, Option.bind_some, if_pos (by simp; omega), ← hz, List.nil_append, h3 _ (by omega), Option.bind_some]
          by_cases ok4 : okA (l ++ [z]) = true
          · rw [b0n ok1 ok4 ok3, if_pos rfl, b0o x.f0 day x.f2 l z (by rw [hz]) (by rw [hz]), ← hn]
            have es : hstep x.f0 day n z = if from_ = n then to_ else n := by
              unfold hstep
              rw [hz]
              by_cases q : from_ = n
              · rw [if_pos q, if_pos ⟨rfl, Int.le_refl _, q⟩]
              · rw [if_neg q, if_neg (fun h => q h.2.2)]
            rw [es]
            by_cases q : from_ = n
            · rw [if_pos q, if_pos rfl, if_pos q]; simp
            · rw [if_neg q, if_pos rfl, if_neg q]; simp
          · rw [a9f (fun h => ok4 (by rw [Bool.and_eq_true, Bool.and_eq_true] at h; exact h.2.1)), if_neg (show ¬ (1 : Int) = 0 by decide), if_pos rfl]
            rfl
        obtain ⟨K4, h4⟩ := b3l x l from_ to_ day n hl' true hB l.length 0 [] (by omega) (by omega) (by simp) (by simp)
        dsimp only at h4
        refine ⟨K0 + K1 + K4 + 1, fun k hk => ?_⟩
        obtain ⟨k, rfl⟩ : ∃ j, k = j + 1 := ⟨k - 1, by omega⟩
        dsimp only
        unfold a0e.f
        rw [h0 _ (by omega), Option.bind_some, h1 _ (by omega), Option.bind_some, if_pos rfl, decide_eq_false hl, a0e.j0, if_neg (by decide)]
        exact h4 k (by omega)
    · have e1 : a5g x l day = (0, 1) := a9f ok
      rw [e1] at h1
      refine ⟨K0 + K1 + 1, fun k hk => ?_⟩
      obtain ⟨k, rfl⟩ : ∃ j, k = j + 1 := ⟨k - 1, by omega⟩
      dsimp only
      unfold a0e.f
      rw [h0 _ (by omega), Option.bind_some, h1 _ (by omega), Option.bind_some, if_neg (show ¬ (1 : Int) = 0 by decide), a0e.j0, if_pos rfl, if_pos rfl, if_pos rfl]
      rfl
  rw [hx] at goal
  exact goal
end Go.Proofs.Ytfbgkcadnmcakaa.Pure
