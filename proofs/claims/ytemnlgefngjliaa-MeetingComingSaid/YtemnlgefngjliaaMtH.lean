/- A further member comes: who is present then, and whose votes count. Conditions: as each theorem states. -/
import Derived.Test.YtemnlgefngjliaaMtG
import Derived.Test.YtemnlgefngjliaaPx23
import Derived.Test.YtemnlgefngjliaaPx33
namespace Go.Proofs.Ytemnlgefngjliaa.Meet
open Go.RowKit Go.Proofs.YtemnlgefngjliaaW.PrintWords Go.Proofs.Ytemnlgefngjliaa.Given Go.Proofs.Ytemnlgefngjliaa.Px
open Go.Proofs.Ytemnlgefngjliaa.Cal
set_option linter.unusedVariables false
set_option linter.unusedSimpArgs false
def selF (p : Int → Bool) (vs : List S43) : Nat → Int → List Int
  | 0, _ => []
  | n + 1, i => if p (a0a vs i).f0 = true then (a0a vs i).f0 :: selF p vs n (i + 1) else selF p vs n (i + 1)
def sel (p : Int → Bool) (vs : List S43) : List Int := selF p vs vs.length 0
theorem b1n (p : Int → Bool) (vs : List S43) : ∀ (n : Nat) (i : Int), (selF p vs n i).length ≤ n
  | 0, _ => by simp [selF]
  | n + 1, i => by
    have := b1n p vs n (i + 1)
    rw [selF]
    split
    · rw [List.length_cons]; omega
    · omega
theorem a8z {p : Int → Bool} {vs : List S43} {x : Int} : ∀ {n : Nat} {i : Int}, x ∈ selF p vs n i ↔ ∃ j : Int, i ≤ j ∧ j < i + n ∧ (a0a vs j).f0 = x ∧ p x = true
  | 0, i => by
    simp only [selF, List.not_mem_nil, false_iff]
    rintro ⟨j, h1, h2, _⟩
    omega
  | n + 1, i => by
    have ih := a8z (p := p) (vs := vs) (x := x) (n := n) (i := i + 1)
    rw [selF]
    by_cases c : p (a0a vs i).f0 = true
    · rw [if_pos c, List.mem_cons, ih]
      constructor
      · rintro (h | ⟨j, h1, h2, h3, h4⟩)
        · exact ⟨i, by omega, by omega, h.symm, by rw [h]; exact c⟩
        · exact ⟨j, by omega, by omega, h3, h4⟩
      · rintro ⟨j, h1, h2, h3, h4⟩
        by_cases d : j = i
        · subst d; exact .inl h3.symm
        · exact .inr ⟨j, by omega, by omega, h3, h4⟩
    · rw [if_neg c, ih]
      constructor
      · rintro ⟨j, h1, h2, h3, h4⟩
        exact ⟨j, by omega, by omega, h3, h4⟩
      · rintro ⟨j, h1, h2, h3, h4⟩
        by_cases d : j = i
        · subst d; rw [h3] at c; exact absurd h4 c
        · exact ⟨j, by omega, by omega, h3, h4⟩
theorem b0i {p : Int → Bool} {vs : List S43} (hs : a5b vs) : ∀ (n : Nat) (i : Int), 0 ≤ i → i + n ≤ vs.length → (selF p vs n i).Pairwise (· < ·)
  | 0, i, _, _ => by simp [selF]
  | n + 1, i, h0, h1 => by
    have ih := b0i (p := p) hs n (i + 1) (by omega) (by omega)
    rw [selF]
    split
    · rw [List.pairwise_cons]
      refine ⟨fun y hy => ?_, ih⟩
      obtain ⟨j, j0, j1, rfl, _⟩ := a8z.mp hy
      exact hs i j h0 (by omega) (by omega)
    · exact ih
theorem b2c {l : List Int} (h : l.Pairwise (· < ·)) : a8r l := by
  intro a b a0 ab b1
  have k := List.pairwise_iff_getElem.mp h a.toNat b.toNat (by omega) (by omega) (by omega)
  unfold rd
  rw [List.getD_eq_getElem?_getD, List.getD_eq_getElem?_getD, List.getElem?_eq_getElem (by omega), List.getElem?_eq_getElem (by omega)]
  exact k
theorem b2n {p : Int → Bool} {vs : List S43} {x : Int} : x ∈ sel p vs ↔ 0 ≤ idxV vs x ∧ p x = true := by
  unfold sel
  rw [a8z]
  constructor
  · rintro ⟨j, h1, h2, h3, h4⟩
    exact ⟨b1j ⟨h1, by omega, h3⟩, h4⟩
  · rintro ⟨h1, h2⟩
    have a := a9y h1
    exact ⟨_, a.1, by have := a.2.1; omega, a.2.2, h2⟩
theorem b1o {vs : List S43} {here : List Int} (g : Good vs here) (p : Int → Bool) : Good vs (sel p vs) :=
  ⟨g.sv, g.lv, g.ok, g.px, b2c (b0i g.sv vs.length 0 (by omega) (by omega)), fun x hx => (b2n.mp hx).1⟩
theorem b5n {vs : List S43} {here : List Int} : ∀ {n : Nat} {i : Int}, (∀ j : Int, i ≤ j → j < i + n → okh vs here j = true) → hB vs here n i = true
  | 0, i, _ => rfl
  | n + 1, i, h => by
    rw [hB, h i (by omega) (by omega), b5n (fun j a b => h j (by omega) (by omega))]
    rfl
theorem b6e {vs : List S43} {here : List Int} (g : Good vs here) : hB vs here here.length 0 = true := b5n fun j j0 j1 => by
  unfold okh
  rw [Bool.and_eq_true, decide_eq_true_eq, decide_eq_true_eq]
  exact ⟨g.hi _ (b1l j0 (by omega)), fun q => g.sh (j - 1) j (by omega) (by omega) (by omega)⟩
theorem b2w {m0 m1 m2 : Int} {ag : List ByteArray} {vs : List S43} {here h2 : List Int} (hv : a5q m0 m1 m2 ag vs here = true) (g : Good vs h2) : a5q m0 m1 m2 ag vs h2 = true := by
  unfold a5q at hv ⊢
  simp only [Bool.and_eq_true] at hv ⊢
  exact ⟨hv.1, hv.2.1, hv.2.2.1, hv.2.2.2.1, hv.2.2.2.2.1, b6e g⟩
def come (vs : List S43) (here : List Int) (h : Int) : List Int := sel (fun x => decide (x ∈ here ∨ x = h)) vs
theorem a6i {vs : List S43} {here : List Int} (g : Good vs here) {k : Int} (k0 : 0 ≤ k) (k1 : k < vs.length) {x : Int} : x ∈ come vs here (a0a vs k).f0 ↔ x ∈ here ∨ x = (a0a vs k).f0 := by
  unfold come
  rw [b2n, decide_eq_true_eq]
  constructor
  · exact fun h => h.2
  · rintro (h | h)
    · exact ⟨g.hi x h, .inl h⟩
    · exact ⟨by rw [h]; exact b1j ⟨k0, k1, rfl⟩, .inr h⟩
section
variable (m0 m1 m2 : Int) (ag : List ByteArray) (vs : List S43) (here : List Int)
theorem b6f (hh : here.length ≤ 1000000) (hl : vs.length ≤ 1000000) {k : Int} (k0 : 0 ≤ k) (k1 : k < vs.length) : ∀ (n : Nat) (i : Int) (o : List Int), 0 ≤ i → i + n = vs.length → o.length ≤ i →
    Ev (fun kk => a1j.l1 kk k o vs (vs.length : Int) i m0 m1 m2 ag vs here) (m0, m1, m2, ag, vs, o ++ selF (fun x => decide (x ∈ here ∨ x = (a0a vs k).f0)) vs n i, k, true) := by
  intro n
  induction n with
  | zero =>
    intro i o h0 hi ho
    refine evUp 0 fun kk _ => ?_
    rw [a1j.l1, if_neg (by omega), selF, List.append_nil]
  | succ n ih =>
    intro i o h0 hi ho
    obtain ⟨K1, hK1⟩ := b0b m0 m1 m2 ag vs here (a0a vs i).f0 hh
    dsimp only at hK1
    have big : o.length < 17592186044416 := by omega
    by_cases c : (a0a vs i).f0 ∈ here ∨ (a0a vs i).f0 = (a0a vs k).f0
    · obtain ⟨K, hK⟩ := ih (i + 1) (o ++ [(a0a vs i).f0]) (by omega) (by omega) (by rw [List.length_append, List.length_singleton]; omega)
      dsimp only at hK
      refine evUp (K + K1) fun kk hk => ?_
      have e := hK kk (by omega)
      rw [a1j.l1, if_pos (by omega), if_pos h0, if_pos (by omega), hK1 kk (by omega), Option.bind_some, selF, if_pos (decide_eq_true c), w64 (x := i + 1) (by omega) (by omega)]
      rw [List.append_assoc, List.singleton_append] at e
      by_cases d : (a0a vs i).f0 ∈ here
      · rw [if_pos (decide_eq_true d), if_pos big]
        exact e
      · rw [if_neg (by simpa using d), if_pos k0, if_pos k1, if_pos (c.resolve_left d), if_pos big]
        exact e
    · obtain ⟨K, hK⟩ := ih (i + 1) o (by omega) (by omega) (by omega)
      dsimp only at hK
      refine evUp (K + K1) fun kk hk => ?_
      have e := hK kk (by omega)
      have e2 : selF (fun x => decide (x ∈ here ∨ x = (a0a vs k).f0)) vs (n + 1) i = selF (fun x => decide (x ∈ here ∨ x = (a0a vs k).f0)) vs n (i + 1) := by
        rw [selF, if_neg (by simpa using c)]
      rw [e2, a1j.l1, if_pos (by omega), if_pos h0, if_pos (by omega), hK1 kk (by omega), Option.bind_some, w64 (x := i + 1) (by omega) (by omega),
        if_neg (by simpa using fun q => c (.inl q)), if_pos k0, if_pos k1, if_neg (fun q => c (.inr q))]
      exact e
theorem b6g (hh : here.length ≤ 1000000) (hl : vs.length ≤ 1000000) (w : Int) (w0 : 0 ≤ w) (w1 : w ≤ 255) : ∀ (n : Nat) (i : Int) (o : List Int), 0 ≤ i → i + n = vs.length → o.length ≤ i → (∀ j ∈ o, 0 ≤ j ∧ j < vs.length ∧ ¬ (a0a vs j).f0 ∈ here) →
    ∃ r, Ev (fun kk => a1j.l0 kk w o vs (vs.length : Int) i m0 m1 m2 ag vs here) r ∧ (r = (m0, m1, m2, ag, vs, here, 0, false) ∨ ∃ k : Int, 0 ≤ k ∧ k < vs.length ∧ ¬ (a0a vs k).f0 ∈ here ∧ r = (m0, m1, m2, ag, vs, come vs here (a0a vs k).f0, k, true)) := by
  intro n
  induction n with
  | zero =>
    intro i o h0 hi ho hm
    by_cases c : (o.length : Int) = 0
    · refine ⟨_, evUp 0 fun kk _ => ?_, .inl rfl⟩
      rw [a1j.l0, if_neg (by omega), if_pos c]
    · have q0 : 0 ≤ Int.tmod (wrap64 w) (o.length : Int) := by rw [w64 (by omega) (by omega)]; exact Int.tmod_nonneg _ w0
      have q1 : Int.tmod (wrap64 w) (o.length : Int) < (o.length : Int) := Int.tmod_lt_of_pos _ (by omega)
      have q := hm _ (b1l q0 q1)
      obtain ⟨K, hK⟩ := b6f m0 m1 m2 ag vs here hh hl q.1 q.2.1 vs.length 0 [] (by omega) (by omega) (by simp)
      dsimp only at hK
      refine ⟨_, evUp K fun kk hk => ?_, .inr ⟨_, q.1, q.2.1, q.2.2, rfl⟩⟩
      rw [a1j.l0, if_neg (by omega), if_neg c, if_pos q0, if_pos q1, hK kk hk]
      rfl
  | succ n ih =>
    intro i o h0 hi ho hm
    obtain ⟨K1, hK1⟩ := b0b m0 m1 m2 ag vs here (a0a vs i).f0 hh
    dsimp only at hK1
    by_cases c : (a0a vs i).f0 ∈ here
    · obtain ⟨r, ⟨K, hK⟩, hr⟩ := ih (i + 1) o (by omega) (by omega) (by omega) hm
      dsimp only at hK
      refine ⟨r, evUp (K + K1) fun kk hk => ?_, hr⟩
      rw [a1j.l0, if_pos (by omega), if_pos h0, if_pos (by omega), hK1 kk (by omega), Option.bind_some, if_pos (decide_eq_true c), w64 (x := i + 1) (by omega) (by omega)]
      exact hK kk (by omega)
    · obtain ⟨r, ⟨K, hK⟩, hr⟩ := ih (i + 1) (o ++ [i]) (by omega) (by omega) (by rw [List.length_append, List.length_singleton]; omega) (fun j hj => by
        rcases List.mem_append.mp hj with q | q
        · exact hm j q
        · obtain rfl := List.mem_singleton.mp q
          exact ⟨h0, by omega, c⟩)
      dsimp only at hK
      refine ⟨r, evUp (K + K1) fun kk hk => ?_, hr⟩
      rw [a1j.l0, if_pos (by omega), if_pos h0, if_pos (by omega), hK1 kk (by omega), Option.bind_some, if_neg (by simpa using c), if_pos (by omega), w64 (x := i + 1) (by omega) (by omega)]
      exact hK kk (by omega)
theorem b6h (hh : here.length ≤ 1000000) (hl : vs.length ≤ 1000000) (w : Int) (w0 : 0 ≤ w) (w1 : w ≤ 255) :
    ∃ r, Ev (fun kk => a1j.f kk m0 m1 m2 ag vs here w) r ∧ (r = (m0, m1, m2, ag, vs, here, 0, false) ∨ ∃ k : Int, 0 ≤ k ∧ k < vs.length ∧ ¬ (a0a vs k).f0 ∈ here ∧ r = (m0, m1, m2, ag, vs, come vs here (a0a vs k).f0, k, true)) :=
  b6g m0 m1 m2 ag vs here hh hl w w0 w1 vs.length 0 [] (by omega) (by omega) (by simp) (fun j hj => by simp at hj)
end
theorem b5b {vs : List S43} {here : List Int} (ok : ∀ j : Int, 0 ≤ j → j < vs.length → okv vs j = true) : ∀ (n : Nat) (i : Int), 0 ≤ i → i + n = vs.length → 0 ≤ a8j vs here n i ∧ a8j vs here n i ≤ allE vs n i ∧ allE vs n i ≤ 1000 * n
  | 0, i, _, _ => by simp [a8j, allE]
  | n + 1, i, h0, hi => by
    have ih := b5b (here := here) ok n (i + 1) (by omega) (by omega)
    have hv := of_decide_eq_true (ok i h0 (by omega))
    rw [a8j, allE]
    split <;> omega
noncomputable def cntT (own : S43 → Int) (vs : List S43) (here : List Int) (x : Int) : Nat → Int → Int
  | 0, _ => 0
  | n + 1, i => (if byI vs here i = x then own (a0a vs i) else 0) + cntT own vs here x n (i + 1)
theorem b6z {own : S43 → Int} {vs : List S43} {here : List Int} (hl : vs.length ≤ 64) (hown : ∀ j : Int, 0 ≤ j → j < vs.length → 0 ≤ own (a0a vs j) ∧ own (a0a vs j) ≤ 1000) {x : Int} (x0 : 0 ≤ x) (x1 : x < vs.length) : ∀ (n : Nat) (i : Int) (o : List Int), 0 ≤ i → i + n = vs.length → o.length = vs.length → BD o (1000 * i) →
    rd (W own vs here n i o) x = rd o x + cntT own vs here x n i := by
  intro n
  induction n with
  | zero => intro i o _ _ _ _; simp [W, cntT]
  | succ n ih =>
    intro i o h0 hi ho hb
    have hv := hown i h0 (by omega)
    have hs := b1m (own := own) (vs := vs) (here := here) (i := i) (o := o) (M := 1000 * i) (D := 1000) (by omega) ho hb hv (by omega) (by omega) (by omega)
    rw [W, ih (i + 1) _ (by omega) (by omega) (by rw [a6l, ho]) (by rw [show 1000 * (i + 1) = 1000 * i + 1000 by omega]; exact hs), cntT]
    unfold stepW
    by_cases c : 0 ≤ byI vs here i
    · have hlt := a8i (here := here) (show i < vs.length by omega)
      have hk := hb _ c (by omega)
      rw [if_pos c, b4h _ _ _ _ c (by omega) x0, w64 (by omega) (by omega)]
      by_cases d : x = byI vs here i
      · rw [if_pos d, if_pos d.symm, d]
        omega
      · rw [if_neg d, if_neg (fun h => d h.symm)]
        omega
    · rw [if_neg c, if_neg (by omega)]
      omega
theorem b1p {own : S43 → Int} {vs : List S43} {here : List Int} (hl : vs.length ≤ 64) (hown : ∀ j : Int, 0 ≤ j → j < vs.length → 0 ≤ own (a0a vs j) ∧ own (a0a vs j) ≤ 1000) {x : Int} (x0 : 0 ≤ x) (x1 : x < vs.length) : rd (wgt own vs here) x = cntT own vs here x vs.length 0 := by
  unfold wgt
  rw [b6z hl hown x0 x1 vs.length 0 _ (by omega) (by omega) (by rw [List.length_replicate]) (a8m _ (by omega)), a8k]
  omega
section
variable {vs : List S43} {here : List Int} {k : Int}
theorem b5c (g : Good vs here) {i j : Int} (i0 : 0 ≤ i) (i1 : i < vs.length) (j0 : 0 ≤ j) (j1 : j < vs.length) (h : (a0a vs i).f0 = (a0a vs j).f0) : i = j := by
  rcases Int.lt_trichotomy i j with c | c | c
  · have := g.sv i j i0 c j1; omega
  · exact c
  · have := g.sv j i j0 c i1; omega
theorem b0j (g : Good vs here) (k0 : 0 ≤ k) (k1 : k < vs.length) : byI vs (come vs here (a0a vs k).f0) k = k := by
  unfold byI
  rw [if_pos ((a6i g k0 k1).mpr (.inr rfl))]
theorem b6i (g : Good vs here) (k0 : 0 ≤ k) (k1 : k < vs.length) (hk : ¬ (a0a vs k).f0 ∈ here) {x : Int} (x0 : 0 ≤ x) (xk : x ≠ k) {j : Int} (j0 : 0 ≤ j) (j1 : j < vs.length) :
    byI vs (come vs here (a0a vs k).f0) j = x ↔ j ≠ k ∧ byI vs here j = x := by
  by_cases c : j = k
  · subst c
    rw [b0j g j0 j1]
    exact ⟨fun h => absurd h.symm xk, fun h => absurd rfl h.1⟩
  · have e1 : (a0a vs j).f0 ∈ come vs here (a0a vs k).f0 ↔ (a0a vs j).f0 ∈ here := by
      rw [a6i g k0 k1]
      exact ⟨fun h => h.resolve_right (fun q => c (b5c g j0 j1 k0 k1 q)), .inl⟩
    unfold byI
    by_cases d : (a0a vs j).f0 ∈ here
    · rw [if_pos (e1.mpr d), if_pos d]
      exact ⟨fun h => ⟨c, h⟩, fun h => h.2⟩
    · rw [if_neg (fun q => d (e1.mp q)), if_neg d]
      by_cases e : (a0a vs j).f2 ∈ here
      · rw [if_pos ((a6i g k0 k1).mpr (.inl e)), if_pos e]
        exact ⟨fun h => ⟨c, h⟩, fun h => h.2⟩
      · rw [if_neg e]
        by_cases f : (a0a vs j).f2 = (a0a vs k).f0
        · rw [if_pos ((a6i g k0 k1).mpr (.inr f)), f, a8q g.sv ⟨k0, k1, rfl⟩]
          exact ⟨fun h => absurd h.symm xk, fun h => by omega⟩
        · rw [if_neg (fun q => ((a6i g k0 k1).mp q).elim e f)]
          exact ⟨fun h => by omega, fun h => by omega⟩
theorem b1q (g : Good vs here) (own : S43 → Int) (k0 : 0 ≤ k) (k1 : k < vs.length) (hk : ¬ (a0a vs k).f0 ∈ here) {x : Int} (x0 : 0 ≤ x) (xk : x ≠ k) : ∀ (n : Nat) (i : Int), 0 ≤ i → i + n = vs.length →
    cntT own vs (come vs here (a0a vs k).f0) x n i = cntT own vs here x n i - (if i ≤ k ∧ byI vs here k = x then own (a0a vs k) else 0)
  | 0, i, h0, hi => by
    rw [if_neg (by omega)]
    simp [cntT]
  | n + 1, i, h0, hi => by
    have ih := b1q g own k0 k1 hk x0 xk n (i + 1) (by omega) (by omega)
    have hb := b6i g k0 k1 hk x0 xk h0 (show i < vs.length by omega)
    rw [cntT, cntT, ih]
    by_cases c : i = k
    · subst c
      rw [if_neg (fun q => (hb.mp q).1 rfl), if_neg (show ¬ (i + 1 ≤ i ∧ byI vs here i = x) by omega)]
      by_cases d : byI vs here i = x
      · rw [if_pos d, if_pos ⟨by omega, d⟩]; omega
      · rw [if_neg d, if_neg (fun q => d q.2)]; omega
    · have e : (i + 1 ≤ k ∧ byI vs here k = x) ↔ (i ≤ k ∧ byI vs here k = x) := by
        constructor
        · exact fun q => ⟨by omega, q.2⟩
        · exact fun q => ⟨by omega, q.2⟩
      by_cases d : byI vs here i = x
      · rw [if_pos (hb.mpr ⟨c, d⟩), if_pos d]
        by_cases f : i ≤ k ∧ byI vs here k = x
        · rw [if_pos (e.mpr f), if_pos f]; omega
        · rw [if_neg (fun q => f (e.mp q)), if_neg f]; omega
      · rw [if_neg (fun q => d (hb.mp q).2), if_neg d]
        by_cases f : i ≤ k ∧ byI vs here k = x
        · rw [if_pos (e.mpr f), if_pos f]; omega
        · rw [if_neg (fun q => f (e.mp q)), if_neg f]; omega
theorem b1r {own : S43 → Int} (hown : ∀ j : Int, 0 ≤ j → j < vs.length → 0 ≤ own (a0a vs j)) {h : List Int} (k0 : 0 ≤ k) (hk : byI vs h k = k) : ∀ (n : Nat) (i : Int), 0 ≤ i → i + n = vs.length →
    0 ≤ cntT own vs h k n i ∧ (i ≤ k → k < vs.length → own (a0a vs k) ≤ cntT own vs h k n i)
  | 0, i, h0, hi => ⟨by simp [cntT], fun a b => by omega⟩
  | n + 1, i, h0, hi => by
    have ih := b1r hown k0 hk n (i + 1) (by omega) (by omega)
    have hv := hown i h0 (by omega)
    rw [cntT]
    by_cases c : i = k
    · subst c
      rw [if_pos hk]
      exact ⟨by omega, fun _ _ => by omega⟩
    · refine ⟨by split <;> omega, fun a b => ?_⟩
      have := ih.2 (by omega) b
      split <;> omega
theorem b0k {own : S43 → Int} {h1 h2 : List Int} (hown : ∀ j : Int, 0 ≤ j → j < vs.length → 0 ≤ own (a0a vs j)) (hb : ∀ j : Int, 0 ≤ j → j < vs.length → 0 ≤ byI vs h1 j → 0 ≤ byI vs h2 j) : ∀ (n : Nat) (i : Int), 0 ≤ i → i + n = vs.length → a6d own vs h1 n i ≤ a6d own vs h2 n i
  | 0, i, _, _ => by simp [a6d]
  | n + 1, i, h0, hi => by
    have ih := b0k hown hb n (i + 1) (by omega) (by omega)
    have hv := hown i h0 (by omega)
    rw [a6d, a6d]
    by_cases c : 0 ≤ byI vs h1 i
    · rw [if_pos c, if_pos (hb i h0 (by omega) c)]; omega
    · rw [if_neg c]; split <;> omega
theorem b2o (g : Good vs here) (k0 : 0 ≤ k) (k1 : k < vs.length) (hk : ¬ (a0a vs k).f0 ∈ here) {x : Int} (x0 : 0 ≤ x) (x1 : x < vs.length) :
    byI vs here k = x ↔ (a0a vs k).f2 = (a0a vs x).f0 ∧ (a0a vs x).f0 ∈ here := by
  unfold byI
  rw [if_neg hk]
  constructor
  · intro h
    by_cases c : (a0a vs k).f2 ∈ here
    · rw [if_pos c] at h
      have a := a9y (g.hi _ c)
      rw [h] at a
      exact ⟨a.2.2.symm, by rw [a.2.2]; exact c⟩
    · rw [if_neg c] at h
      omega
  · rintro ⟨h1, h2⟩
    rw [h1, if_pos h2]
    exact a8q g.sv ⟨x0, x1, rfl⟩
end
end Go.Proofs.Ytemnlgefngjliaa.Meet
