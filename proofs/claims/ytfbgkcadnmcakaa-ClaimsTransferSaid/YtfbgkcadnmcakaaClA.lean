/- What the claims' small functions count: numbers, claims, assignments, the holder. Conditions: as each theorem states. -/
import Derived.Test.YtfbgkcadnmcakaaClT
import Derived.Test.YtfbgkcadnmcakaaPx11
import Derived.Test.YtfbgkcadnmcakaaPx10
import Derived.Test.YtfbgkcadnmcakaaPx4
import Derived.Test.YtfbgkcadnmcakaaPx9
namespace Go.Proofs.Ytfbgkcadnmcakaa.Cl
open Go.RowKit Go.Proofs.YtfbgkcadnmcakaaW.PrintWords Go.Proofs.Ytfbgkcadnmcakaa.Given Go.Proofs.Ytfbgkcadnmcakaa.Px
set_option linter.unusedVariables false
set_option linter.unusedSimpArgs false
theorem b1w (l : List Int) {i : Int} (h0 : 0 ≤ i) (h1 : i < l.length) : l.drop i.toNat = rd l i :: l.drop (i + 1).toNat := by
  have h : i.toNat < l.length := by omega
  rw [show (i + 1).toNat = i.toNat + 1 by omega, List.drop_eq_getElem_cons h]
  unfold rd
  rw [List.getD_eq_getElem?_getD, List.getElem?_eq_getElem h]
  rfl
theorem b3d (l : List S26) {i : Int} (h0 : 0 ≤ i) (h1 : i < l.length) : l.drop i.toNat = a0c l i :: l.drop (i + 1).toNat := by
  have h : i.toNat < l.length := by omega
  rw [show (i + 1).toNat = i.toNat + 1 by omega, List.drop_eq_getElem_cons h]
  unfold a0c
  rw [List.getD_eq_getElem?_getD, List.getElem?_eq_getElem h]
  rfl
theorem a8i (l : List S30) {i : Int} (h0 : 0 ≤ i) (h1 : i < l.length) : l.drop i.toNat = a0b l i :: l.drop (i + 1).toNat := by
  have h : i.toNat < l.length := by omega
  rw [show (i + 1).toNat = i.toNat + 1 by omega, List.drop_eq_getElem_cons h]
  unfold a0b
  rw [List.getD_eq_getElem?_getD, List.getElem?_eq_getElem h]
  rfl
theorem dropEnd {α : Type} (l : List α) {i : Int} (h : i = l.length) : l.drop i.toNat = [] := by
  rw [h]; simp
def numB (n : Int) : Bool := decide (1 ≤ n ∧ n ≤ 1000000)
def dayB (n : Int) : Bool := decide (0 ≤ n ∧ n ≤ 36524)
def a8j (a b : Int) : Bool := decide (0 ≤ a ∧ a < b ∧ b ≤ 36525)
def a4z (x : S30) : Bool := numB x.f0 && (numB x.f1 && (numB x.f2 && (decide (1 ≤ x.f3 ∧ x.f3 ≤ 1000000000) && a8j x.f4.f0 x.f4.f1)))
def asgB (x : S26) : Bool := numB x.f0 && (numB x.f1 && (numB x.f2 && dayB x.f3))
def okA (l : List S26) : Bool := decide (l.length ≤ 1000) && l.all asgB
def hstep (id day who : Int) (x : S26) : Int := if x.f0 = id ∧ x.f3 ≤ day ∧ x.f1 = who then x.f2 else who
def a4g (id day who : Int) (l : List S26) : Int := l.foldl (hstep id day) who
theorem b1f (n : Int) : a3f.f n = some (!numB n) := by
  unfold a3f.f numB
  by_cases h : n < 1
  · rw [if_pos h, decide_eq_false (by omega)]; rfl
  · rw [if_neg h]
    by_cases c : n ≤ 1000000
    · rw [decide_eq_false (show ¬ n > 1000000 by omega), decide_eq_true (show 1 ≤ n ∧ n ≤ 1000000 by omega)]; rfl
    · rw [decide_eq_true (show n > 1000000 by omega), decide_eq_false (show ¬ (1 ≤ n ∧ n ≤ 1000000) by omega)]; rfl
theorem b3x (l : List Int) (hl : (l.length : Int) ≤ 9223372036854775807) : ∀ (n : Nat) (i : Int), 0 ≤ i → i + n = l.length →
    ∃ r, Ev (fun k => a0j.l0 k l (l.length : Int) i) r ∧ (r ≥ 0 ↔ (l.drop i.toNat).all numB = false) := by
  intro n
  induction n with
  | zero =>
    intro i i0 hi
    refine ⟨-1, evUp 0 fun k _ => by rw [a0j.l0, if_neg (by omega)], ?_⟩
    rw [dropEnd l (by omega)]
    simp
  | succ n ih =>
    intro i i0 hi
    have e := b1w l i0 (by omega)
    by_cases c : numB (rd l i) = true
    · obtain ⟨r, ⟨K, hK⟩, hr⟩ := ih (i + 1) (by omega) (by omega)
      dsimp only at hK
      refine ⟨r, evUp K fun k hk => ?_, ?_⟩
      · rw [a0j.l0, if_pos (by omega), if_pos i0, if_pos (by omega), b1f, Option.bind_some, c, if_neg (by decide), w64 (by omega) (by omega)]
        exact hK k hk
      · rw [hr, e, List.all_cons, c, Bool.true_and]
    · rw [Bool.not_eq_true] at c
      refine ⟨i, evUp 0 fun k _ => ?_, ?_⟩
      · rw [a0j.l0, if_pos (by omega), if_pos i0, if_pos (by omega), b1f, Option.bind_some, c, if_pos (by decide)]
      · rw [e, List.all_cons, c, Bool.false_and]
        simpa using i0
theorem a6r (l : List Int) (hl : (l.length : Int) ≤ 9223372036854775807) : Ev (fun k => a1c.f k l) (l.all numB) := by
  obtain ⟨r, ⟨K, hK⟩, hr⟩ := b3x l hl l.length 0 (by omega) (by omega)
  dsimp only at hK
  refine ⟨K, fun k hk => ?_⟩
  dsimp only
  unfold a1c.f a1a.f a0j.f
  rw [hK k hk, Option.bind_some, Option.bind_some]
  rw [show (0 : Int).toNat = 0 from rfl, List.drop_zero] at hr
  by_cases c : r ≥ 0
  · rw [decide_eq_true c, hr.1 c]; rfl
  · rw [decide_eq_false c]
    have : ¬ l.all numB = false := fun h => c (hr.2 h)
    rw [Bool.not_eq_false] at this
    rw [this]; rfl
theorem b6x (a b : Int) (k : Nat) : a0x.f (k + 3) ([(⟨a, b⟩ : S28)] : List S28) = some (a8j a b) := by
  have e : a2e [(⟨a, b⟩ : S28)] 0 = ⟨a, b⟩ := rfl
  have h1 : a3m.f a b = some (a8j a b) := by
    unfold a3m.f a8j
    by_cases c : 0 ≤ a
    · rw [if_pos c]
      by_cases d : a < b
      · rw [if_pos d]; congr 1; simp [c, d]
      · rw [if_neg d]; congr 1; simp [d]
    · rw [if_neg c]; congr 1; simp [c]
  unfold a0x.f
  rw [a0x.l0]
  simp only [List.length_cons, List.length_nil]
  rw [if_pos (by decide), if_pos (by decide), if_pos (by decide), e, h1, Option.bind_some]
  by_cases c : a8j a b = true
  · rw [if_pos c, if_neg (by decide), a0x.j1, if_neg (by decide), w64 (by decide) (by decide), a0x.l0, if_neg (by decide), c]
    rfl
  · rw [if_neg c, a0x.j1, if_pos rfl]
    rw [Bool.not_eq_true] at c
    rw [c]
theorem b0l (x : S30) : Ev (fun k => a1z.f k x.f0 x.f1 x.f2 x.f3 x.f4.f0 x.f4.f1) (a4z x) := by
  obtain ⟨K, hK⟩ := a6r [x.f0, x.f1, x.f2] (by simp)
  dsimp only at hK
  refine ⟨K + 3, fun k hk => ?_⟩
  obtain ⟨k, rfl⟩ : ∃ j, k = j + 3 := ⟨k - 3, by omega⟩
  dsimp only
  unfold a1z.f
  rw [hK _ (by omega), Option.bind_some, b6x]
  have e : [x.f0, x.f1, x.f2].all numB = (numB x.f0 && (numB x.f1 && (numB x.f2 && true))) := rfl
  rw [e]
  unfold a4z
  cases numB x.f0 with
  | false => rfl
  | true =>
    cases numB x.f1 with
    | false => rfl
    | true =>
      cases numB x.f2 with
      | false => rfl
      | true =>
        rw [if_pos (show (true && (true && (true && true))) = true from rfl)]
        by_cases c : 1 ≤ x.f3
        · rw [if_pos c]
          by_cases d : x.f3 ≤ 1000000000
          · rw [if_pos d, Option.bind_some]; simp [c, d]
          · rw [if_neg d]; simp [d]
        · rw [if_neg c]; simp [c]
theorem a5z (n : Int) : a1r.f n = some (dayB n) := by
  unfold a1r.f dayB
  by_cases c : 0 ≤ n
  · rw [if_pos c]; congr 1; simp [c]
  · rw [if_neg c]; congr 1; simp [c]
theorem b5z (x : S26) : Ev (fun k => a2f.f k x.f0 x.f1 x.f2 x.f3) (asgB x) := by
  obtain ⟨K, hK⟩ := a6r [x.f0, x.f1, x.f2] (by simp)
  dsimp only at hK
  refine ⟨K, fun k hk => ?_⟩
  dsimp only
  unfold a2f.f
  rw [hK _ (by omega), Option.bind_some, a5z]
  have e : [x.f0, x.f1, x.f2].all numB = (numB x.f0 && (numB x.f1 && (numB x.f2 && true))) := rfl
  rw [e]
  unfold asgB
  cases numB x.f0 with
  | false => rfl
  | true =>
    cases numB x.f1 with
    | false => rfl
    | true =>
      cases numB x.f2 with
      | false => rfl
      | true => rfl
theorem b5b (l : List S26) (hl : (l.length : Int) ≤ 9223372036854775807) : ∀ (n : Nat) (i : Int), 0 ≤ i → i + n = l.length →
    Ev (fun k => a0n.l0 k l (l.length : Int) i) ((l.drop i.toNat).all asgB) := by
  intro n
  induction n with
  | zero =>
    intro i i0 hi
    rw [dropEnd l (by omega)]
    exact evUp 0 fun k _ => by rw [a0n.l0, if_neg (by omega)]; rfl
  | succ n ih =>
    intro i i0 hi
    obtain ⟨K, hK⟩ := ih (i + 1) (by omega) (by omega)
    dsimp only at hK
    obtain ⟨K2, h2⟩ := b5z (a0c l i)
    dsimp only at h2
    refine evUp (K + K2) fun k hk => ?_
    rw [a0n.l0, if_pos (by omega), if_pos i0, if_pos (by omega), h2 k (by omega), Option.bind_some, b3d l i0 (by omega), List.all_cons, w64 (by omega) (by omega)]
    cases asgB (a0c l i) with
    | true => rw [if_pos rfl, hK k (by omega)]; rfl
    | false => rfl
theorem a8k (l : List S26) : Ev (fun k => a1k.f k l) (okA l) := by
  by_cases c : (l.length : Int) ≤ 1000
  · obtain ⟨K, hK⟩ := b5b l (by omega) l.length 0 (by omega) (by omega)
    dsimp only at hK
    refine ⟨K, fun k hk => ?_⟩
    dsimp only
    unfold a1k.f a0n.f okA
    rw [if_pos c, hK k hk, Option.bind_some, decide_eq_true (by omega), Bool.true_and]
    rfl
  · refine ⟨0, fun k _ => ?_⟩
    dsimp only
    unfold a1k.f okA
    rw [if_neg c, decide_eq_false (by omega), Bool.false_and]
theorem b3e (id against holder cents f u day : Int) (l : List S26) (hl : (l.length : Int) ≤ 9223372036854775807) : ∀ (n : Nat) (i who : Int), 0 ≤ i → i + n = l.length →
    Ev (fun k => a0w.l0 k day who l (l.length : Int) i id against holder cents f u) (a4g id day who (l.drop i.toNat)) := by
  intro n
  induction n with
  | zero =>
    intro i who i0 hi
    rw [dropEnd l (by omega)]
    exact evUp 0 fun k _ => by rw [a0w.l0, if_neg (by omega)]; rfl
  | succ n ih =>
    intro i who i0 hi
    obtain ⟨K, hK⟩ := ih (i + 1) (hstep id day who (a0c l i)) (by omega) (by omega)
    dsimp only at hK
    refine evUp (K + 1) fun k hk => ?_
    obtain ⟨k, rfl⟩ : ∃ j, k = j + 1 := ⟨k - 1, by omega⟩
    have hg := hK k (by omega)
    unfold hstep at hg
    rw [a0w.l0, if_pos (by omega), if_pos i0, if_pos (by omega), b3d l i0 (by omega)]
    show _ = some (a4g id day (hstep id day who (a0c l i)) _)
    unfold hstep
    by_cases c1 : (a0c l i).f0 = id
    · rw [if_pos c1]
      by_cases c2 : (a0c l i).f3 ≤ day
      · rw [if_pos c2, a0w.j1, w64 (by omega) (by omega)]
        by_cases c3 : (a0c l i).f1 = who
        · rw [if_pos (beq_iff_eq.2 c3)]
          rw [if_pos ⟨c1, c2, c3⟩] at hg ⊢
          exact hg
        · rw [if_neg (fun h => c3 (beq_iff_eq.1 h))]
          rw [if_neg (fun h => c3 h.2.2)] at hg ⊢
          exact hg
      · rw [if_neg c2, a0w.j1, w64 (by omega) (by omega), if_neg (by decide)]
        rw [if_neg (fun h => c2 h.2.1)] at hg ⊢
        exact hg
    · rw [if_neg c1, a0w.j1, w64 (by omega) (by omega), if_neg (by decide)]
      rw [if_neg (fun h => c1 h.1)] at hg ⊢
      exact hg
theorem a9i (x : S30) (l : List S26) (hl : (l.length : Int) ≤ 9223372036854775807) (day : Int) : Ev (fun k => a0w.f k x.f0 x.f1 x.f2 x.f3 x.f4.f0 x.f4.f1 l day) (a4g x.f0 day x.f2 l) :=
  b3e x.f0 x.f1 x.f2 x.f3 x.f4.f0 x.f4.f1 day l hl l.length 0 x.f2 (by omega) (by omega)
theorem b0m (l : List S26) (hl : l.length ≤ 1000000000) : Ev (fun k => a2a.f k l) (a2x l) := by
  obtain ⟨K, hK⟩ := b0k l hl
  dsimp only at hK
  refine ⟨K, fun k hk => ?_⟩
  dsimp only
  unfold a2a.f a3s.f
  rw [if_pos (by omega), Option.bind_some, hK k hk, Option.bind_some]
def a7m (x : S30) (l : List S26) (day : Int) : Int × Int := if (a4z x && (okA l && dayB day)) = true then (a4g x.f0 day x.f2 (a2x l), 0) else (0, 1)
theorem b3f {x : S30} {l : List S26} {day : Int} (h : ¬ (a4z x && (okA l && dayB day)) = true) : a7m x l day = (0, 1) := by
  unfold a7m
  rw [if_neg h]
theorem b1g {l : List S26} (h : okA l = true) : l.length ≤ 1000 := by
  unfold okA at h
  rw [Bool.and_eq_true, decide_eq_true_eq] at h
  exact h.1
theorem b3g (x : S30) (l : List S26) (day : Int) : Ev (fun k => a0t.f k x.f0 x.f1 x.f2 x.f3 x.f4.f0 x.f4.f1 l day) (a7m x l day) := by
  obtain ⟨K1, h1⟩ := b0l x
  obtain ⟨K2, h2⟩ := a8k l
  dsimp only at h1 h2
  unfold a7m
  by_cases c1 : a4z x = true
  · by_cases c2 : okA l = true
    · by_cases c3 : dayB day = true
      · have hl := b1g c2
        obtain ⟨K3, h3⟩ := b0m l (by omega)
        obtain ⟨K4, h4⟩ := a9i x (a2x l) (by rw [a9h]; omega) day
        dsimp only at h3 h4
        refine ⟨K1 + K2 + K3 + K4 + 1, fun k hk => ?_⟩
        obtain ⟨k, rfl⟩ : ∃ j, k = j + 1 := ⟨k - 1, by omega⟩
        dsimp only
        unfold a0t.f
        rw [h1 _ (by omega), Option.bind_some, if_pos c1, h2 _ (by omega), Option.bind_some, if_pos c2, a5z, Option.bind_some, c3, a0t.j0, if_neg (by decide), h3 _ (by omega), Option.bind_some, h4 _ (by omega), Option.bind_some, c1, c2]
        rfl
      · refine ⟨K1 + K2 + 1, fun k hk => ?_⟩
        obtain ⟨k, rfl⟩ : ∃ j, k = j + 1 := ⟨k - 1, by omega⟩
        rw [Bool.not_eq_true] at c3
        dsimp only
        unfold a0t.f
        rw [h1 _ (by omega), Option.bind_some, if_pos c1, h2 _ (by omega), Option.bind_some, if_pos c2, a5z, Option.bind_some, c3, a0t.j0, if_pos (by decide), c1, c2]
        rfl
    · refine ⟨K1 + K2 + 1, fun k hk => ?_⟩
      obtain ⟨k, rfl⟩ : ∃ j, k = j + 1 := ⟨k - 1, by omega⟩
      dsimp only
      unfold a0t.f
      rw [h1 _ (by omega), Option.bind_some, if_pos c1, h2 _ (by omega), Option.bind_some, if_neg c2, a0t.j0, if_pos rfl]
      rw [Bool.not_eq_true] at c2
      rw [c1, c2]
      rfl
  · refine ⟨K1 + 1, fun k hk => ?_⟩
    obtain ⟨k, rfl⟩ : ∃ j, k = j + 1 := ⟨k - 1, by omega⟩
    dsimp only
    unfold a0t.f
    rw [h1 _ (by omega), Option.bind_some, if_neg c1, a0t.j0, if_pos rfl]
    rw [Bool.not_eq_true] at c1
    rw [c1]
    rfl
end Go.Proofs.Ytfbgkcadnmcakaa.Cl
