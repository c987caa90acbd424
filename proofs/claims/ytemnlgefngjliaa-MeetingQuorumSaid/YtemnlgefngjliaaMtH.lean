/- A further member comes: who is present then, and whose votes count. Conditions: as each theorem states. -/
import Derived.Test.YtemnlgefngjliaaMtG
import Derived.Test.YtemnlgefngjliaaPx23
import Derived.Test.YtemnlgefngjliaaPx33
namespace Go.Proofs.Ytemnlgefngjliaa.Meet
open Go.RowKit Go.Proofs.YtemnlgefngjliaaW.PrintWords Go.Proofs.Ytemnlgefngjliaa.Given Go.Proofs.Ytemnlgefngjliaa.Px
open Go.Proofs.Ytemnlgefngjliaa.Cal
set_option linter.unusedVariables false
set_option linter.unusedSimpArgs false
def selF (p : Int → Bool) (vs : List S43) : Nat → Int → List Int
  | 0, _ => []
  | n + 1, i => if p (a0a vs i).f0 = true then (a0a vs i).f0 :: selF p vs n (i + 1) else selF p vs n (i + 1)
def sel (p : Int → Bool) (vs : List S43) : List Int := selF p vs vs.length 0
theorem a9h (p : Int → Bool) (vs : List S43) : ∀ (n : Nat) (i : Int), (selF p vs n i).length ≤ n
  | 0, _ => by simp [selF]
  | n + 1, i => by
    have := a9h p vs n (i + 1)
    rw [selF]
    split
    · rw [List.length_cons]; omega
    · omega
theorem a9i {p : Int → Bool} {vs : List S43} {x : Int} : ∀ {n : Nat} {i : Int}, x ∈ selF p vs n i ↔ ∃ j : Int, i ≤ j ∧ j < i + n ∧ (a0a vs j).f0 = x ∧ p x = true
  | 0, i => by
    simp only [selF, List.not_mem_nil, false_iff]
    rintro ⟨j, h1, h2, _⟩
    omega
  | n + 1, i => by
    have ih := a9i (p := p) (vs := vs) (x := x) (n := n) (i := i + 1)
    rw [selF]
    by_cases c : p (a0a vs i).f0 = true
    · rw [if_pos c, List.mem_cons, ih]
      constructor
      · rintro (h | ⟨j, h1, h2, h3, h4⟩)
        · exact ⟨i, by omega, by omega, h.symm, by rw [h]; exact c⟩
        · exact ⟨j, by omega, by omega, h3, h4⟩
      · rintro ⟨j, h1, h2, h3, h4⟩
        by_cases d : j = i
        · subst d; exact .inl h3.symm
        · exact .inr ⟨j, by omega, by omega, h3, h4⟩
    · rw [if_neg c, ih]
      constructor
      · rintro ⟨j, h1, h2, h3, h4⟩
        exact ⟨j, by omega, by omega, h3, h4⟩
      · rintro ⟨j, h1, h2, h3, h4⟩
        by_cases d : j = i
        · subst d; rw [h3] at c; exact absurd h4 c
        · exact ⟨j, by omega, by omega, h3, h4⟩
theorem b0t {p : Int → Bool} {vs : List S43} (hs : a5a vs) : ∀ (n : Nat) (i : Int), 0 ≤ i → i + n ≤ vs.length → (selF p vs n i).Pairwise (· < ·)
  | 0, i, _, _ => by simp [selF]
  | n + 1, i, h0, h1 => by
    have ih := b0t (p := p) hs n (i + 1) (by omega) (by omega)
    rw [selF]
    split
    · rw [List.pairwise_cons]
      refine ⟨fun y hy => ?_, ih⟩
      obtain ⟨j, j0, j1, rfl, _⟩ := a9i.mp hy
      exact hs i j h0 (by omega) (by omega)
    · exact ih
theorem b2o {l : List Int} (h : l.Pairwise (· < ·)) : a8v l := by
  intro a b a0 ab b1
  have k := List.pairwise_iff_getElem.mp h a.toNat b.toNat (by omega) (by omega) (by omega)
  unfold rd
  rw [List.getD_eq_getElem?_getD, List.getD_eq_getElem?_getD, List.getElem?_eq_getElem (by omega), List.getElem?_eq_getElem (by omega)]
  exact k
theorem b0m {p : Int → Bool} {vs : List S43} {x : Int} : x ∈ sel p vs ↔ 0 ≤ idxV vs x ∧ p x = true := by
  unfold sel
  rw [a9i]
  constructor
  · rintro ⟨j, h1, h2, h3, h4⟩
    exact ⟨a9g ⟨h1, by omega, h3⟩, h4⟩
  · rintro ⟨h1, h2⟩
    have a := b2w h1
    exact ⟨_, a.1, by have := a.2.1; omega, a.2.2, h2⟩
theorem b1y {vs : List S43} {here : List Int} (g : Good vs here) (p : Int → Bool) : Good vs (sel p vs) :=
  ⟨g.sv, g.lv, g.ok, g.px, b2o (b0t g.sv vs.length 0 (by omega) (by omega)), fun x hx => (b0m.mp hx).1⟩
theorem b6j {vs : List S43} {here : List Int} : ∀ {n : Nat} {i : Int}, (∀ j : Int, i ≤ j → j < i + n → okh vs here j = true) → hB vs here n i = true
  | 0, i, _ => rfl
  | n + 1, i, h => by
    rw [hB, h i (by omega) (by omega), b6j (fun j a b => h j (by omega) (by omega))]
    rfl
theorem b7h {vs : List S43} {here : List Int} (g : Good vs here) : hB vs here here.length 0 = true := b6j fun j j0 j1 => by
  unfold okh
  rw [Bool.and_eq_true, decide_eq_true_eq, decide_eq_true_eq]
  exact ⟨g.hi _ (a9r j0 (by omega)), fun q => g.sh (j - 1) j (by omega) (by omega) (by omega)⟩
theorem a9u {m0 m1 m2 : Int} {ag : List ByteArray} {vs : List S43} {here h2 : List Int} (hv : a4v m0 m1 m2 ag vs here = true) (g : Good vs h2) : a4v m0 m1 m2 ag vs h2 = true := by
  unfold a4v at hv ⊢
  simp only [Bool.and_eq_true] at hv ⊢
  exact ⟨hv.1, hv.2.1, hv.2.2.1, hv.2.2.2.1, hv.2.2.2.2.1, b7h g⟩
def come (vs : List S43) (here : List Int) (h : Int) : List Int := sel (fun x => decide (x ∈ here ∨ x = h)) vs
theorem b5w {vs : List S43} {here : List Int} (g : Good vs here) {k : Int} (k0 : 0 ≤ k) (k1 : k < vs.length) {x : Int} : x ∈ come vs here (a0a vs k).f0 ↔ x ∈ here ∨ x = (a0a vs k).f0 := by
  unfold come
  rw [b0m, decide_eq_true_eq]
  constructor
  · exact fun h => h.2
  · rintro (h | h)
    · exact ⟨g.hi x h, .inl h⟩
    · exact ⟨by rw [h]; exact a9g ⟨k0, k1, rfl⟩, .inr h⟩
section
variable (m0 m1 m2 : Int) (ag : List ByteArray) (vs : List S43) (here : List Int)
theorem b7i (hh : here.length ≤ 1000000) (hl : vs.length ≤ 1000000) {k : Int} (k0 : 0 ≤ k) (k1 : k < vs.length) : ∀ (n : Nat) (i : Int) (o : List Int), 0 ≤ i → i + n = vs.length → o.length ≤ i →
    Ev (fun kk => a1i.l1 kk k o vs (vs.length : Int) i m0 m1 m2 ag vs here) (m0, m1, m2, ag, vs, o ++ selF (fun x => decide (x ∈ here ∨ x = (a0a vs k).f0)) vs n i, k, true) := by
  intro n
  induction n with
  | zero =>
    intro i o h0 hi ho
    refine evUp 0 fun kk _ => ?_
    rw [a1i.l1, if_neg (by omega), selF, List.append_nil]
  | succ n ih =>
    intro i o h0 hi ho
    obtain ⟨K1, hK1⟩ := b2z m0 m1 m2 ag vs here (a0a vs i).f0 hh
    dsimp only at hK1
    have big : o.length < 17592186044416 := by omega
    by_cases c : (a0a vs i).f0 ∈ here ∨ (a0a vs i).f0 = (a0a vs k).f0
    · obtain ⟨K, hK⟩ := ih (i + 1) (o ++ [(a0a vs i).f0]) (by omega) (by omega) (by rw [List.length_append, List.length_singleton]; omega)
      dsimp only at hK
      refine evUp (K + K1) fun kk hk => ?_
      have e := hK kk (by omega)
      rw [a1i.l1, if_pos (by omega), if_pos h0, if_pos (by omega), hK1 kk (by omega), Option.bind_some, selF, if_pos (decide_eq_true c), w64 (x := i + 1) (by omega) (by omega)]
      rw [List.append_assoc, List.singleton_append] at e
      by_cases d : (a0a vs i).f0 ∈ here
      · rw [if_pos (decide_eq_true d), if_pos big]
        exact e
      · rw [if_neg (by simpa using d), if_pos k0, if_pos k1, if_pos (c.resolve_left d), if_pos big]
        exact e
    · obtain ⟨K, hK⟩ := ih (i + 1) o (by omega) (by omega) (by omega)
      dsimp only at hK
      refine evUp (K + K1) fun kk hk => ?_
      have e := hK kk (by omega)
      have e2 : selF (fun x => decide (x ∈ here ∨ x = (a0a vs k).f0)) vs (n + 1) i = selF (fun x => decide (x ∈ here ∨ x = (a0a vs k).f0)) vs n (i + 1) := by
        rw [selF, if_neg (by simpa using c)]
      rw [e2, a1i.l1, if_pos (by omega), if_pos h0, if_pos (by omega), hK1 kk (by omega), Option.bind_some, w64 (x := i + 1) (by omega) (by omega),
        if_neg (by simpa using fun q => c (.inl q)), if_pos k0, if_pos k1, if_neg (fun q => c (.inr q))]
      exact e
theorem b7j (hh : here.length ≤ 1000000) (hl : vs.length ≤ 1000000) (w : Int) (w0 : 0 ≤ w) (w1 : w ≤ 255) : ∀ (n : Nat) (i : Int) (o : List Int), 0 ≤ i → i + n = vs.length → o.length ≤ i → (∀ j ∈ o, 0 ≤ j ∧ j < vs.length ∧ ¬ (a0a vs j).f0 ∈ here) →
    ∃ r, Ev (fun kk => a1i.l0 kk w o vs (vs.length : Int) i m0 m1 m2 ag vs here) r ∧ (r = (m0, m1, m2, ag, vs, here, 0, false) ∨ ∃ k : Int, 0 ≤ k ∧ k < vs.length ∧ ¬ (a0a vs k).f0 ∈ here ∧ r = (m0, m1, m2, ag, vs, come vs here (a0a vs k).f0, k, true)) := by
  intro n
  induction n with
  | zero =>
    intro i o h0 hi ho hm
    by_cases c : (o.length : Int) = 0
    · refine ⟨_, evUp 0 fun kk _ => ?_, .inl rfl⟩
      rw [a1i.l0, if_neg (by omega), if_pos c]
    · have q0 : 0 ≤ Int.tmod (wrap64 w) (o.length : Int) := by rw [w64 (by omega) (by omega)]; exact Int.tmod_nonneg _ w0
      have q1 : Int.tmod (wrap64 w) (o.length : Int) < (o.length : Int) := Int.tmod_lt_of_pos _ (by omega)
      have q := hm _ (a9r q0 q1)
      obtain ⟨K, hK⟩ := b7i m0 m1 m2 ag vs here hh hl q.1 q.2.1 vs.length 0 [] (by omega) (by omega) (by simp)
      dsimp only at hK
      refine ⟨_, evUp K fun kk hk => ?_, .inr ⟨_, q.1, q.2.1, q.2.2, rfl⟩⟩
      rw [a1i.l0, if_neg (by omega), if_neg c, if_pos q0, if_pos q1, hK kk hk]
      rfl
  | succ n ih =>
    intro i o h0 hi ho hm
    obtain ⟨K1, hK1⟩ := b2z m0 m1 m2 ag vs here (a0a vs i).f0 hh
    dsimp only at hK1
    by_cases c : (a0a vs i).f0 ∈ here
    · obtain ⟨r, ⟨K, hK⟩, hr⟩ := ih (i + 1) o (by omega) (by omega) (by omega) hm
      dsimp only at hK
      refine ⟨r, evUp (K + K1) fun kk hk => ?_, hr⟩
      rw [a1i.l0, if_pos (by omega), if_pos h0, if_pos (by omega), hK1 kk (by omega), Option.bind_some, if_pos (decide_eq_true c), w64 (x := i + 1) (by omega) (by omega)]
      exact hK kk (by omega)
    · obtain ⟨r, ⟨K, hK⟩, hr⟩ := ih (i + 1) (o ++ [i]) (by omega) (by omega) (by rw [List.length_append, List.length_singleton]; omega) (fun j hj => by
        rcases List.mem_append.mp hj with q | q
        · exact hm j q
        · obtain rfl := List.mem_singleton.mp q
          exact ⟨h0, by omega, c⟩)
      dsimp only at hK
      refine ⟨r, evUp (K + K1) fun kk hk => ?_, hr⟩
      rw [a1i.l0, if_pos (by omega), if_pos h0, if_pos (by omega), hK1 kk (by omega), Option.bind_some, if_neg (by simpa using c), if_pos (by omega), w64 (x := i + 1) (by omega) (by omega)]
      exact hK kk (by omega)
theorem b7k (hh : here.length ≤ 1000000) (hl : vs.length ≤ 1000000) (w : Int) (w0 : 0 ≤ w) (w1 : w ≤ 255) :
    ∃ r, Ev (fun kk => a1i.f kk m0 m1 m2 ag vs here w) r ∧ (r = (m0, m1, m2, ag, vs, here, 0, false) ∨ ∃ k : Int, 0 ≤ k ∧ k < vs.length ∧ ¬ (a0a vs k).f0 ∈ here ∧ r = (m0, m1, m2, ag, vs, come vs here (a0a vs k).f0, k, true)) :=
  b7j m0 m1 m2 ag vs here hh hl w w0 w1 vs.length 0 [] (by omega) (by omega) (by simp) (fun j hj => by simp at hj)
end
theorem a8b {vs : List S43} {here : List Int} (ok : ∀ j : Int, 0 ≤ j → j < vs.length → okv vs j = true) : ∀ (n : Nat) (i : Int), 0 ≤ i → i + n = vs.length → 0 ≤ a4k vs here n i ∧ a4k vs here n i ≤ allE vs n i ∧ allE vs n i ≤ 1000 * n
  | 0, i, _, _ => by simp [a4k, allE]
  | n + 1, i, h0, hi => by
    have ih := a8b (here := here) ok n (i + 1) (by omega) (by omega)
    have hv := of_decide_eq_true (ok i h0 (by omega))
    rw [a4k, allE]
    split <;> omega
theorem b1z {vs : List S43} {h1 h2 : List Int} (ok : ∀ j : Int, 0 ≤ j → j < vs.length → okv vs j = true) (hb : ∀ j : Int, 0 ≤ j → j < vs.length → 0 ≤ byI vs h1 j → 0 ≤ byI vs h2 j) : ∀ (n : Nat) (i : Int), 0 ≤ i → i + n = vs.length → a4k vs h1 n i ≤ a4k vs h2 n i
  | 0, i, _, _ => by simp [a4k]
  | n + 1, i, h0, hi => by
    have ih := b1z ok hb n (i + 1) (by omega) (by omega)
    have hv := of_decide_eq_true (ok i h0 (by omega))
    rw [a4k, a4k]
    by_cases c : 0 ≤ byI vs h1 i
    · rw [if_pos c, if_pos (hb i h0 (by omega) c)]; omega
    · rw [if_neg c]; split <;> omega
theorem b0u {vs : List S43} {h : List Int} (hb : ∀ j : Int, 0 ≤ j → j < vs.length → 0 ≤ byI vs h j) : ∀ (n : Nat) (i : Int), 0 ≤ i → i + n = vs.length → a4k vs h n i = allE vs n i
  | 0, i, _, _ => by simp [a4k, allE]
  | n + 1, i, h0, hi => by
    rw [a4k, allE, if_pos (hb i h0 (by omega)), b0u hb n (i + 1) (by omega) (by omega)]
theorem a9v {vs : List S43} {here : List Int} (g : Good vs here) {p q : Int} (p0 : 0 ≤ p) (p1 : p ≤ 1000000000) (q0 : 0 ≤ q) (q1 : q ≤ 1000000000) :
    fewB p q vs here = decide (a4k vs here vs.length 0 * q < p * allE vs vs.length 0) := by
  have hb := a8b (here := here) g.ok vs.length 0 (by omega) (by omega)
  have hlv := g.lv
  unfold fewB
  rw [b7e g, b7d g.ok g.lv vs.length 0 0 (by omega) (by omega) (by omega) (by omega), Int.zero_add]
  generalize a4k vs here vs.length 0 = S at *
  generalize allE vs vs.length 0 = A at *
  have e1 : 0 ≤ S * q := Int.mul_nonneg hb.1 q0
  have e2 : S * q ≤ 64000 * 1000000000 := Int.mul_le_mul (by omega) q1 q0 (by omega)
  have e3 : 0 ≤ p * A := Int.mul_nonneg p0 (by omega)
  have e4 : p * A ≤ 1000000000 * 64000 := Int.mul_le_mul p1 (by omega) (by omega) (by omega)
  rw [w64 (by omega) (by omega), w64 (by omega) (by omega)]
theorem b5x {vs : List S43} {h1 h2 : List Int} (g1 : Good vs h1) (g2 : Good vs h2) (hs : ∀ x, x ∈ h1 → x ∈ h2) {p q : Int} (p0 : 0 ≤ p) (p1 : p ≤ 1000000000) (q0 : 0 ≤ q) (q1 : q ≤ 1000000000) (h : fewB p q vs h1 = false) : fewB p q vs h2 = false := by
  rw [a9v g1 p0 p1 q0 q1, decide_eq_false_iff_not] at h
  rw [a9v g2 p0 p1 q0 q1, decide_eq_false_iff_not]
  have := b1z (h1 := h1) (h2 := h2) g1.ok (fun j j0 j1 hj => by
    rw [b0l g1 j0 j1] at hj
    rw [b0l g2 j0 j1]
    exact hj.elim (fun a => .inl (hs _ a)) (fun a => .inr ⟨a.1, hs _ a.2⟩)) vs.length 0 (by omega) (by omega)
  have := Int.mul_le_mul_of_nonneg_right this q0
  omega
theorem b7l {vs : List S43} {h : List Int} (g : Good vs h) (hs : ∀ j : Int, 0 ≤ j → j < vs.length → (a0a vs j).f0 ∈ h) {p q : Int} (p0 : 0 ≤ p) (pq : p ≤ q) (q1 : q ≤ 1000000000) : fewB p q vs h = false := by
  rw [a9v g p0 (by omega) (by omega) q1, decide_eq_false_iff_not, b0u (fun j j0 j1 => (b0l g j0 j1).mpr (.inl (hs j j0 j1))) vs.length 0 (by omega) (by omega)]
  have hb := a8b (here := h) g.ok vs.length 0 (by omega) (by omega)
  have := Int.mul_le_mul_of_nonneg_left pq (show 0 ≤ allE vs vs.length 0 by omega)
  rw [Int.mul_comm p]
  omega
theorem b5y {vs : List S43} {h : List Int} (g : Good vs h) : fewB 0 1 vs h = false := by
  rw [a9v g (by omega) (by omega) (by omega) (by omega), decide_eq_false_iff_not]
  have hb := a8b (here := h) g.ok vs.length 0 (by omega) (by omega)
  omega
section
variable {vs : List S43} {here : List Int} {k : Int}
end
end Go.Proofs.Ytemnlgefngjliaa.Meet
