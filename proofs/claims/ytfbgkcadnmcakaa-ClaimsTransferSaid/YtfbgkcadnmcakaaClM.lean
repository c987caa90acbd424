/- The stable sort of assignments by their days, second part: two pieces in order are merged. Conditions: as each theorem states. -/
import Derived.Test.YtfbgkcadnmcakaaClS
import Derived.Test.YtfbgkcadnmcakaaPx8
namespace Go.Proofs.Ytfbgkcadnmcakaa.Cl
open Go.RowKit Go.Proofs.YtfbgkcadnmcakaaW.PrintWords Go.Proofs.Ytfbgkcadnmcakaa.Given Go.Proofs.Ytfbgkcadnmcakaa.Px
set_option linter.unusedVariables false
set_option linter.unusedSimpArgs false
theorem b4k {l : List S26} {i j : Int} (i0 : 0 ≤ i) (i1 : i < l.length) (j0 : 0 ≤ j) (j1 : j < l.length) {p : Int} (p0 : 0 ≤ p) : dy (sw l i j) p = if p = j then dy l i else if p = i then dy l j else dy l p := by
  unfold dy
  rw [a4t i0 i1 j0 j1 p0]
  split
  · rfl
  · split <;> rfl
theorem b4l {a b t : Int} (a0 : 0 ≤ a) : ∀ (n : Nat) (k : Int) (l : List S26), l.length ≤ 1000000000 → b ≤ l.length → a ≤ k → k + n = t - 1 → t ≤ b →
    (∀ p q : Int, a ≤ p → p < q → q < b → p ≠ k → q ≠ k → dy l p ≤ dy l q) → (∀ p : Int, a ≤ p → p < k → dy l p ≤ dy l k) → (∀ q : Int, k < q → q < t → dy l q < dy l k) → (∀ q : Int, k < q → t ≤ q → q < b → dy l k ≤ dy l q) →
    ∃ r, Ev (fun kk => a0a.l1 kk l t k) r ∧ Mg l r a b ∧ Srt r a b := by
  intro n
  induction n with
  | zero =>
    intro k l hl hb h0 hk ht h1 h2 h3 h4
    refine ⟨l, evUp 0 fun kk _ => ?_, Mg.refl l a b, fun p q p0 pq q1 => ?_⟩
    · rw [a0a.l1, w64 (x := t - 1) (by omega) (by omega), if_neg (by omega)]
    · by_cases c : p = k
      · subst c; exact h4 q pq (by omega) q1
      · by_cases d : q = k
        · subst d; exact h2 p p0 pq
        · exact h1 p q p0 pq q1 c d
  | succ n ih =>
    intro k l hl hb h0 hk ht h1 h2 h3 h4
    have hat : ∀ p : Int, 0 ≤ p → dy (sw l k (k + 1)) p = if p = k + 1 then dy l k else if p = k then dy l (k + 1) else dy l p := fun p p0 => b4k (by omega) (by omega) (by omega) (by omega) p0
    have hlt := h3 (k + 1) (by omega) (by omega)
    have hmg : Mg l (sw l k (k + 1)) a b := Mg.sw a0 h0 (by omega) hb hlt
    obtain ⟨r, ⟨K, hK⟩, hm, hr⟩ := ih (k + 1) (sw l k (k + 1)) (by rw [a4l]; exact hl) (by rw [a4l]; exact hb) (by omega) (by omega) ht
      (fun p q p0 pq q1 pk qk => by
        rw [hat p (by omega), hat q (by omega), if_neg pk, if_neg qk]
        by_cases d : p = k
        · subst d
          rw [if_pos rfl, if_neg (by omega)]
          exact h1 (p + 1) q (by omega) (by omega) q1 (by omega) (by omega)
        · rw [if_neg d]
          by_cases f : q = k
          · rw [if_pos f]
            subst f
            exact h1 p (q + 1) p0 (by omega) (by omega) d (by omega)
          · rw [if_neg f]
            exact h1 p q p0 pq q1 d f)
      (fun p p0 pk => by
        rw [hat p (by omega), hat (k + 1) (by omega), if_neg (by omega), if_pos rfl]
        by_cases d : p = k
        · rw [if_pos d]; omega
        · rw [if_neg d]; exact h2 p p0 (by omega))
      (fun q q0 q1 => by
        rw [hat q (by omega), hat (k + 1) (by omega), if_neg (by omega), if_neg (by omega), if_pos rfl]
        exact h3 q (by omega) q1)
      (fun q q0 q1 q2 => by
        rw [hat q (by omega), hat (k + 1) (by omega), if_pos rfl, if_neg (by omega), if_neg (by omega)]
        exact h4 q (by omega) q1 q2)
    refine ⟨r, evUp K fun kk hk2 => ?_, hmg.trans hm, hr⟩
    rw [a0a.l1, w64 (x := t - 1) (by omega) (by omega), if_pos (by omega), w64 (x := k + 1) (by omega) (by omega), if_pos (by omega), if_pos (by omega), if_pos (by omega), if_pos (by omega)]
    exact hK kk hk2
theorem b6t {a m b : Int} {l : List S26} (hl : l.length ≤ 1000000000) (a0 : 0 ≤ a) (am : a + 1 = m) (hb : b ≤ l.length) (hs : Srt l m b) : ∀ (n : Nat) (i j : Int), m ≤ i → i ≤ j → j ≤ b → j - i ≤ n →
    (∀ p : Int, m ≤ p → p < i → dy l p < dy l a) → (∀ p : Int, j ≤ p → p < b → dy l a ≤ dy l p) →
    ∃ r, Ev (fun kk => a0a.l0 kk l a i j) r ∧ Mg l r a b ∧ Srt r a b := by
  intro n
  induction n with
  | zero =>
    intro i j h0 h1 h2 h3 hlo hhi
    obtain ⟨r, ⟨K, hK⟩, hm, hr⟩ := b4l (a := a) (b := b) (t := i) a0 (i - 1 - a).toNat a l hl hb (by omega) (by omega) (by omega)
      (fun p q p0 pq q1 pa qa => hs p q (by omega) pq q1) (fun p p0 p1 => by omega) (fun q q0 q1 => hlo q (by omega) q1) (fun q q0 q1 q2 => hhi q (by omega) q2)
    refine ⟨r, evUp K fun kk hk => ?_, hm, hr⟩
    rw [a0a.l0, if_neg (by omega)]
    exact hK kk hk
  | succ n ih =>
    intro i j h0 h1 h2 h3 hlo hhi
    by_cases c : i < j
    · have hm := half (x := i) (y := j) (by omega) (by omega) (by omega) (by omega)
      by_cases d : dy l ((i + j) / 2) < dy l a
      · obtain ⟨r, ⟨K, hK⟩, hmg, hr⟩ := ih ((i + j) / 2 + 1) j (by omega) (by omega) h2 (by omega) (fun p p0 p1 => by
          by_cases f : p = (i + j) / 2
          · subst f; exact d
          · have := hs p ((i + j) / 2) p0 (by omega) (by omega)
            omega) hhi
        refine ⟨r, evUp K fun kk hk => ?_, hmg, hr⟩
        rw [a0a.l0, if_pos c, hm, if_pos (by omega), if_pos (by omega), if_pos (by omega), if_pos (by omega), cmp_eq, Option.bind_some, if_pos ((a5h (a0c l ((i + j) / 2)).f3 (a0c l a).f3).mpr d), w64 (x := (i + j) / 2 + 1) (by omega) (by omega)]
        exact hK kk hk
      · obtain ⟨r, ⟨K, hK⟩, hmg, hr⟩ := ih i ((i + j) / 2) h0 (by omega) (by omega) (by omega) hlo (fun p p0 p1 => by
          by_cases f : p = (i + j) / 2
          · subst f; omega
          · have := hs ((i + j) / 2) p (by omega) (by omega) p1
            omega)
        refine ⟨r, evUp K fun kk hk => ?_, hmg, hr⟩
        rw [a0a.l0, if_pos c, hm, if_pos (by omega), if_pos (by omega), if_pos (by omega), if_pos (by omega), cmp_eq, Option.bind_some, if_neg (fun q => d ((a5h (a0c l ((i + j) / 2)).f3 (a0c l a).f3).mp q))]
        exact hK kk hk
    · obtain ⟨r, ⟨K, hK⟩, hm, hr⟩ := b4l (a := a) (b := b) (t := i) a0 (i - 1 - a).toNat a l hl hb (by omega) (by omega) (by omega)
        (fun p q p0 pq q1 pa qa => hs p q (by omega) pq q1) (fun p p0 p1 => by omega) (fun q q0 q1 => hlo q (by omega) q1) (fun q q0 q1 q2 => hhi q (by omega) q2)
      refine ⟨r, evUp K fun kk hk => ?_, hm, hr⟩
      rw [a0a.l0, if_neg (by omega)]
      exact hK kk hk
theorem b4m {a b t : Int} (a0 : 0 ≤ a) : ∀ (n : Nat) (k : Int) (l : List S26), l.length ≤ 1000000000 → b ≤ l.length → a ≤ t → t + n = k → k < b →
    (∀ p q : Int, a ≤ p → p < q → q < b → p ≠ k → q ≠ k → dy l p ≤ dy l q) → (∀ p : Int, a ≤ p → p < t → dy l p ≤ dy l k) → (∀ p : Int, t ≤ p → p < k → dy l k < dy l p) → (∀ q : Int, k < q → q < b → dy l k ≤ dy l q) →
    ∃ r, Ev (fun kk => a0a.l3 kk l t k) r ∧ Mg l r a b ∧ Srt r a b := by
  intro n
  induction n with
  | zero =>
    intro k l hl hb h0 hk ht h1 h2 h3 h4
    refine ⟨l, evUp 0 fun kk _ => ?_, Mg.refl l a b, fun p q p0 pq q1 => ?_⟩
    · rw [a0a.l3, if_neg (by omega)]
    · by_cases c : p = k
      · subst c; exact h4 q pq q1
      · by_cases d : q = k
        · subst d; exact h2 p p0 (by omega)
        · exact h1 p q p0 pq q1 c d
  | succ n ih =>
    intro k l hl hb h0 hk ht h1 h2 h3 h4
    have e : sw l k (k - 1) = sw l (k - 1) (k - 1 + 1) := by
      rw [b1e (by omega) (by omega) (by omega) (by omega), show k - 1 + 1 = k by omega]
    have hat : ∀ p : Int, 0 ≤ p → dy (sw l k (k - 1)) p = if p = k - 1 then dy l k else if p = k then dy l (k - 1) else dy l p := fun p p0 => b4k (by omega) (by omega) (by omega) (by omega) p0
    have hlt := h3 (k - 1) (by omega) (by omega)
    have hmg : Mg l (sw l k (k - 1)) a b := by
      rw [e]
      exact Mg.sw a0 (by omega) (by omega) hb (by rw [show k - 1 + 1 = k by omega]; exact hlt)
    obtain ⟨r, ⟨K, hK⟩, hm, hr⟩ := ih (k - 1) (sw l k (k - 1)) (by rw [a4l]; exact hl) (by rw [a4l]; exact hb) h0 (by omega) (by omega)
      (fun p q p0 pq q1 pk qk => by
        rw [hat p (by omega), hat q (by omega), if_neg pk, if_neg qk]
        by_cases d : p = k
        · subst d
          rw [if_pos rfl, if_neg (by omega)]
          exact h1 (p - 1) q (by omega) (by omega) q1 (by omega) (by omega)
        · rw [if_neg d]
          by_cases f : q = k
          · rw [if_pos f]
            subst f
            exact h1 p (q - 1) p0 (by omega) (by omega) d (by omega)
          · rw [if_neg f]
            exact h1 p q p0 pq q1 d f)
      (fun p p0 pk => by
        rw [hat p (by omega), hat (k - 1) (by omega), if_neg (by omega), if_neg (by omega), if_pos rfl]
        exact h2 p p0 pk)
      (fun p p0 p1 => by
        rw [hat p (by omega), hat (k - 1) (by omega), if_pos rfl, if_neg (by omega), if_neg (by omega)]
        exact h3 p p0 (by omega))
      (fun q q0 q1 => by
        rw [hat q (by omega), hat (k - 1) (by omega), if_pos rfl, if_neg (by omega)]
        by_cases d : q = k
        · rw [if_pos d]; omega
        · rw [if_neg d]; exact h4 q (by omega) q1)
    refine ⟨r, evUp K fun kk hk2 => ?_, hmg.trans hm, hr⟩
    rw [a0a.l3, if_pos (by omega), w64 (x := k - 1) (by omega) (by omega), if_pos (by omega), if_pos (by omega), if_pos (by omega), if_pos (by omega)]
    exact hK kk hk2
theorem b6u {a m b : Int} {l : List S26} (hl : l.length ≤ 1000000000) (a0 : 0 ≤ a) (am : a ≤ m) (mb : m + 1 = b) (hb : b ≤ l.length) (hs : Srt l a m) : ∀ (n : Nat) (i j : Int), a ≤ i → i ≤ j → j ≤ m → j - i ≤ n →
    (∀ p : Int, a ≤ p → p < i → dy l p ≤ dy l m) → (∀ p : Int, j ≤ p → p < m → dy l m < dy l p) →
    ∃ r, Ev (fun kk => a0a.l2 kk l m i j) r ∧ Mg l r a b ∧ Srt r a b := by
  intro n
  induction n with
  | zero =>
    intro i j h0 h1 h2 h3 hlo hhi
    obtain ⟨r, ⟨K, hK⟩, hm, hr⟩ := b4m (a := a) (b := b) (t := i) a0 (m - i).toNat m l hl hb h0 (by omega) (by omega)
      (fun p q p0 pq q1 pa qa => hs p q p0 pq (by omega)) hlo (fun p p0 p1 => hhi p (by omega) p1) (fun q q0 q1 => by omega)
    refine ⟨r, evUp K fun kk hk => ?_, hm, hr⟩
    rw [a0a.l2, if_neg (by omega)]
    exact hK kk hk
  | succ n ih =>
    intro i j h0 h1 h2 h3 hlo hhi
    by_cases c : i < j
    · have hm := half (x := i) (y := j) (by omega) (by omega) (by omega) (by omega)
      by_cases d : dy l m < dy l ((i + j) / 2)
      · obtain ⟨r, ⟨K, hK⟩, hmg, hr⟩ := ih i ((i + j) / 2) h0 (by omega) (by omega) (by omega) hlo (fun p p0 p1 => by
          by_cases f : p = (i + j) / 2
          · subst f; exact d
          · have := hs ((i + j) / 2) p (by omega) (by omega) p1
            omega)
        refine ⟨r, evUp K fun kk hk => ?_, hmg, hr⟩
        rw [a0a.l2, if_pos c, hm, if_pos (by omega), if_pos (by omega), if_pos (by omega), if_pos (by omega), cmp_eq, Option.bind_some, if_pos ((a5h (a0c l m).f3 (a0c l ((i + j) / 2)).f3).mpr d)]
        exact hK kk hk
      · obtain ⟨r, ⟨K, hK⟩, hmg, hr⟩ := ih ((i + j) / 2 + 1) j (by omega) (by omega) h2 (by omega) (fun p p0 p1 => by
          by_cases f : p = (i + j) / 2
          · subst f; omega
          · have := hs p ((i + j) / 2) p0 (by omega) (by omega)
            omega) hhi
        refine ⟨r, evUp K fun kk hk => ?_, hmg, hr⟩
        rw [a0a.l2, if_pos c, hm, if_pos (by omega), if_pos (by omega), if_pos (by omega), if_pos (by omega), cmp_eq, Option.bind_some, if_neg (fun q => d ((a5h (a0c l m).f3 (a0c l ((i + j) / 2)).f3).mp q)), w64 (x := (i + j) / 2 + 1) (by omega) (by omega)]
        exact hK kk hk
    · obtain ⟨r, ⟨K, hK⟩, hm, hr⟩ := b4m (a := a) (b := b) (t := i) a0 (m - i).toNat m l hl hb h0 (by omega) (by omega)
        (fun p q p0 pq q1 pa qa => hs p q p0 pq (by omega)) hlo (fun p p0 p1 => hhi p (by omega) p1) (fun q q0 q1 => by omega)
      refine ⟨r, evUp K fun kk hk => ?_, hm, hr⟩
      rw [a0a.l2, if_neg (by omega)]
      exact hK kk hk
theorem Rot.refl {l : List S26} {lo mid hi : Int} (h : lo = mid ∧ mid ≤ hi ∨ lo ≤ mid ∧ mid = hi) : Rot l l lo mid hi := by
  refine ⟨rfl, fun p p0 p1 => ?_⟩
  by_cases c : lo ≤ p ∧ p < lo + (hi - mid)
  · rw [if_pos c]
    congr 1
    omega
  · rw [if_neg c]
    by_cases d : lo + (hi - mid) ≤ p ∧ p < hi
    · rw [if_pos d]
      congr 1
      omega
    · rw [if_neg d]
theorem Rot.mg {l r : List S26} {lo mid hi : Int} (h : Rot l r lo mid hi) (h0 : 0 ≤ lo) (h1 : lo ≤ mid) (h2 : mid ≤ hi) (h3 : hi ≤ l.length)
    (hs : ∀ p q : Int, lo ≤ p → p < mid → mid ≤ q → q < hi → dy l q < dy l p) : Mg l r lo hi :=
  ⟨h.1, fun p p0 p1 p2 => by rw [h.2 p p0 p1, if_neg (by omega), if_neg (by omega)],
    fun p p0 p1 => by
      rw [h.2 p (by omega) (by omega)]
      by_cases c : lo ≤ p ∧ p < lo + (hi - mid)
      · exact ⟨p + (mid - lo), by omega, by omega, by rw [if_pos c]⟩
      · exact ⟨p - (hi - mid), by omega, by omega, by rw [if_neg c, if_pos (by omega)]⟩,
    h.same h0 h1 h2 h3 hs⟩
structure Cut (l : List S26) (a m b mid s : Int) : Prop where
  lo : a ≤ s
  sm : s ≤ m
  sd : s ≤ mid
  hi : mid + m - s ≤ b
  em : m ≤ mid + m - s
  ed : mid ≤ mid + m - s
  bA : ∀ p q : Int, s ≤ p → p < m → m ≤ q → q < mid + m - s → dy l q < dy l p
  aB : ∀ p q : Int, a ≤ p → p < s → mid + m - s ≤ q → q < b → dy l p ≤ dy l q
theorem b3v {a m b mid s : Int} {l : List S26} (hl : l.length ≤ 1000000000) (a0 : 0 ≤ a) (am : a < m) (mb : m < b) (hb : b ≤ l.length) (hs1 : Srt l a m) (hs2 : Srt l m b) (hmid : a < mid) (hmid2 : mid < b) (hc : Cut l a m b mid s)
    (ih1 : ∀ t : List S26, t.length = l.length → a < s → s < mid → Srt t a s → Srt t s mid → ∃ r, Ev (fun k => a0a.f k t a s mid) r ∧ Mg t r a mid ∧ Srt r a mid)
    (ih2 : ∀ t : List S26, t.length = l.length → mid < mid + m - s → mid + m - s < b → Srt t mid (mid + m - s) → Srt t (mid + m - s) b → ∃ r, Ev (fun k => a0a.f k t mid (mid + m - s) b) r ∧ Mg t r mid b ∧ Srt r mid b) :
    ∃ r, Ev (fun k => a0a.j6 k l a m b mid s (mid + m - s) (decide (s < m ∧ m < mid + m - s))) r ∧ Mg l r a b ∧ Srt r a b := by
  obtain ⟨c1, c2, c3, c4, c5, c6, cbA, caB⟩ := hc
  generalize he : mid + m - s = e at *
  obtain ⟨t, ht, hrot⟩ : ∃ t, (∀ r, Ev (fun k => a0a.j7 k t a b mid s e) r → Ev (fun k => a0a.j6 k l a m b mid s e (decide (s < m ∧ m < e))) r) ∧ Rot l t s m e := by
    by_cases c : s < m ∧ m < e
    · obtain ⟨t, ⟨K, hK⟩, hr⟩ := b5w l hl (by omega) c.1 c.2 (by omega)
      refine ⟨t, fun r ⟨K2, hK2⟩ => evUp (K + K2) fun k hk => ?_, hr⟩
      dsimp only at hK hK2
      rw [a0a.j6, if_pos (decide_eq_true c), hK k (by omega), Option.bind_some]
      exact hK2 k (by omega)
    · refine ⟨l, fun r ⟨K2, hK2⟩ => evUp K2 fun k hk => ?_, Rot.refl (by omega)⟩
      rw [a0a.j6, if_neg (by rw [decide_eq_true_eq]; exact c)]
      exact hK2 k hk
  have mgt : Mg l t a b := (hrot.mg (by omega) c2 c5 (by omega) cbA).wide a0 c1 c4 hb
  have tl := hrot.1
  have at1 : ∀ p : Int, a ≤ p → p < s → dy t p = dy l p := fun p p0 p1 => by unfold dy; rw [hrot.2 p (by omega) (by omega), if_neg (by omega), if_neg (by omega)]
  have at2 : ∀ p : Int, s ≤ p → p < mid → dy t p = dy l (p + (m - s)) := fun p p0 p1 => by unfold dy; rw [hrot.2 p (by omega) (by omega), if_pos (by omega)]
  have at3 : ∀ p : Int, mid ≤ p → p < e → dy t p = dy l (p - (e - m)) := fun p p0 p1 => by unfold dy; rw [hrot.2 p (by omega) (by omega), if_neg (by omega), if_pos (by omega)]
  have at4 : ∀ p : Int, e ≤ p → p < b → dy t p = dy l p := fun p p0 p1 => by unfold dy; rw [hrot.2 p (by omega) (by omega), if_neg (by omega), if_neg (by omega)]
  have s1 : Srt t a s := fun p q p0 pq q1 => by rw [at1 p p0 (by omega), at1 q (by omega) q1]; exact hs1 p q p0 pq (by omega)
  have s2 : Srt t s mid := fun p q p0 pq q1 => by rw [at2 p p0 (by omega), at2 q (by omega) q1]; exact hs2 _ _ (by omega) (by omega) (by omega)
  have s3 : Srt t mid e := fun p q p0 pq q1 => by rw [at3 p p0 (by omega), at3 q (by omega) q1]; exact hs1 _ _ (by omega) (by omega) (by omega)
  have s4 : Srt t e b := fun p q p0 pq q1 => by rw [at4 p p0 (by omega), at4 q (by omega) q1]; exact hs2 p q (by omega) pq q1
  have cross : ∀ p q : Int, a ≤ p → p < mid → mid ≤ q → q < b → dy t p ≤ dy t q := fun p q p0 p1 q0 q1 => by
    by_cases d1 : p < s
    · rw [at1 p p0 d1]
      by_cases d2 : q < e
      · rw [at3 q q0 d2]
        exact hs1 p _ p0 (by omega) (by omega)
      · rw [at4 q (by omega) q1]
        exact caB p q p0 d1 (by omega) q1
    · rw [at2 p (by omega) p1]
      by_cases d2 : q < e
      · rw [at3 q q0 d2]
        have := cbA (q - (e - m)) (p + (m - s)) (by omega) (by omega) (by omega) (by omega)
        omega
      · rw [at4 q (by omega) q1]
        exact hs2 _ q (by omega) (by omega) q1
  obtain ⟨r1, h8, m1, o1⟩ : ∃ r1, (∀ r, Ev (fun k => a0a.j9 k r1 b mid e) r → Ev (fun k => a0a.j7 k t a b mid s e) r) ∧ Mg t r1 a mid ∧ Srt r1 a mid := by
    by_cases c : a < s ∧ s < mid
    · obtain ⟨r1, ⟨K, hK⟩, hm, hr⟩ := ih1 t tl c.1 c.2 s1 s2
      refine ⟨r1, fun r ⟨K2, hK2⟩ => evUp (K + K2 + 1) fun k hk => ?_, hm, hr⟩
      dsimp only at hK hK2
      obtain ⟨j, rfl⟩ : ∃ j, k = j + 1 := ⟨k - 1, by omega⟩
      rw [a0a.j7, if_pos c.1, decide_eq_true c.2, a0a.j8, if_pos rfl, hK j (by omega), Option.bind_some]
      exact hK2 j (by omega)
    · refine ⟨t, fun r ⟨K2, hK2⟩ => evUp (K2 + 1) fun k hk => ?_, Mg.refl t a mid, fun p q p0 pq q1 => ?_⟩
      · dsimp only at hK2
        obtain ⟨j, rfl⟩ : ∃ j, k = j + 1 := ⟨k - 1, by omega⟩
        rw [a0a.j7]
        by_cases d : a < s
        · rw [if_pos d, decide_eq_false (by omega), a0a.j8, if_neg (by simp)]
          exact hK2 j (by omega)
        · rw [if_neg d, a0a.j8, if_neg (by simp)]
          exact hK2 j (by omega)
      · by_cases d : a < s
        · exact s1 p q p0 pq (by omega)
        · exact s2 p q (by omega) pq q1
  have l1 := m1.len
  have s3' : Srt r1 mid e := m1.srt (by omega) (by omega) (by omega) s3
  have s4' : Srt r1 e b := m1.srt (by omega) (by omega) (by omega) s4
  obtain ⟨r2, h9, m2, o2⟩ : ∃ r2, Ev (fun k => a0a.j9 k r1 b mid e) r2 ∧ Mg r1 r2 mid b ∧ Srt r2 mid b := by
    by_cases c : mid < e ∧ e < b
    · obtain ⟨r2, ⟨K, hK⟩, hm, hr⟩ := ih2 r1 (by omega) c.1 c.2 s3' s4'
      refine ⟨r2, evUp K fun k hk => ?_, hm, hr⟩
      dsimp only at hK
      rw [a0a.j9, if_pos c.1, if_pos c.2, hK k hk, Option.bind_some]
    · refine ⟨r1, evUp 0 fun k hk => ?_, Mg.refl r1 mid b, fun p q p0 pq q1 => ?_⟩
      · rw [a0a.j9]
        by_cases d : mid < e
        · rw [if_pos d, if_neg (by omega)]
        · rw [if_neg d]
      · by_cases d : mid < e
        · exact s3' p q p0 pq (by omega)
        · exact s4' p q (by omega) pq q1
  refine ⟨r2, ht r2 (h8 r2 h9), mgt.trans ((m1.wide a0 (by omega) (by omega) (by omega)).trans (m2.wide a0 (by omega) (by omega) (by omega))), fun p q p0 pq q1 => ?_⟩
  by_cases d1 : q < mid
  · have := o1 p q p0 pq d1
    unfold dy at *
    rw [m2.out p (by omega) (by omega) (.inl (by omega)), m2.out q (by omega) (by omega) (.inl (by omega))]
    exact this
  · by_cases d2 : p < mid
    · obtain ⟨q', q0', q1', eq⟩ := m2.fr q (by omega) q1
      obtain ⟨p', p0', p1', ep⟩ := m1.fr p p0 d2
      have := cross p' q' p0' p1' q0' q1'
      unfold dy at *
      rw [m2.out p (by omega) (by omega) (.inl (by omega)), ep, eq, m1.out q' (by omega) (by omega) (.inr (by omega))]
      exact this
    · exact o2 p q (by omega) pq q1
theorem b5y {a m b mid lo hi : Int} {l : List S26} (hl : l.length ≤ 1000000000) (a0 : 0 ≤ a) (am : a < m) (mb : m < b) (hb : b ≤ l.length) (hs1 : Srt l a m) (hs2 : Srt l m b) (hmid : mid = (a + b) / 2) (hlo : m > mid ∧ lo = mid + m - b ∧ hi = mid ∨ m ≤ mid ∧ lo = a ∧ hi = m) :
    ∀ (n : Nat) (i j : Int), lo ≤ i → i ≤ j → j ≤ hi → j - i ≤ n → (∀ c : Int, lo ≤ c → c < i → dy l c ≤ dy l (mid + m - 1 - c)) → (∀ c : Int, j ≤ c → c < hi → dy l (mid + m - 1 - c) < dy l c) →
    ∃ s, Cut l a m b mid s ∧ ∀ r, Ev (fun k => a0a.j6 k l a m b mid s (mid + m - s) (decide (s < m ∧ m < mid + m - s))) r → Ev (fun k => a0a.l4 k l a m b mid (mid + m) i j (mid + m - 1)) r := by
  have fin : ∀ i : Int, lo ≤ i → i ≤ hi → (∀ c : Int, lo ≤ c → c < i → dy l c ≤ dy l (mid + m - 1 - c)) → (∀ c : Int, i ≤ c → c < hi → dy l (mid + m - 1 - c) < dy l c) →
      ∃ s, Cut l a m b mid s ∧ ∀ r, Ev (fun k => a0a.j6 k l a m b mid s (mid + m - s) (decide (s < m ∧ m < mid + m - s))) r → Ev (fun k => a0a.l4 k l a m b mid (mid + m) i i (mid + m - 1)) r := by
    intro i h0 h1 hL hH
    refine ⟨i, ⟨by omega, by omega, by omega, by omega, by omega, by omega, fun p q p0 p1 q0 q1 => ?_, fun p q p0 p1 q0 q1 => ?_⟩, fun r ⟨K, hK⟩ => evUp K fun k hk => ?_⟩
    · have h := hH i (by omega) (by omega)
      have e1 : dy l q ≤ dy l (mid + m - 1 - i) := by
        by_cases c : q = mid + m - 1 - i
        · rw [c]; exact Int.le_refl _
        · exact hs2 q _ q0 (by omega) (by omega)
      have e2 : dy l i ≤ dy l p := by
        by_cases c : p = i
        · rw [c]; exact Int.le_refl _
        · exact hs1 i p (by omega) (by omega) p1
      omega
    · have h := hL (i - 1) (by omega) (by omega)
      rw [show mid + m - 1 - (i - 1) = mid + m - i by omega] at h
      have e1 : dy l p ≤ dy l (i - 1) := by
        by_cases c : p = i - 1
        · rw [c]; exact Int.le_refl _
        · exact hs1 p _ p0 (by omega) (by omega)
      have e2 : dy l (mid + m - i) ≤ dy l q := by
        by_cases c : q = mid + m - i
        · rw [c]; exact Int.le_refl _
        · exact hs2 _ q (by omega) (by omega) q1
      omega
    · dsimp only at hK
      rw [a0a.l4, if_neg (by omega), w64 (x := mid + m - i) (by omega) (by omega)]
      have h := hK k hk
      by_cases c : i < m
      · rw [if_pos c]
        by_cases d : m < mid + m - i
        · rw [decide_eq_true ⟨c, d⟩] at h
          rw [decide_eq_true d]
          exact h
        · rw [decide_eq_false (fun q => d q.2)] at h
          rw [decide_eq_false d]
          exact h
      · rw [decide_eq_false (fun q => c q.1)] at h
        rw [if_neg c]
        exact h
  intro n
  induction n with
  | zero =>
    intro i j h0 h1 h2 h3 hL hH
    obtain rfl : i = j := by omega
    exact fin i h0 h2 hL hH
  | succ n ih =>
    intro i j h0 h1 h2 h3 hL hH
    by_cases c : i < j
    · have hm := half (x := i) (y := j) (by omega) (by omega) (by omega) (by omega)
      have hx : wrap64 (mid + m - 1 - (i + j) / 2) = mid + m - 1 - (i + j) / 2 := w64 (by omega) (by omega)
      by_cases d : dy l (mid + m - 1 - (i + j) / 2) < dy l ((i + j) / 2)
      · obtain ⟨s, hs, hr⟩ := ih i ((i + j) / 2) h0 (by omega) (by omega) (by omega) hL (fun x x0 x1 => by
          have e1 : dy l (mid + m - 1 - x) ≤ dy l (mid + m - 1 - (i + j) / 2) := by
            by_cases f : x = (i + j) / 2
            · rw [f]; exact Int.le_refl _
            · exact hs2 _ _ (by omega) (by omega) (by omega)
          have e2 : dy l ((i + j) / 2) ≤ dy l x := by
            by_cases f : x = (i + j) / 2
            · rw [f]; exact Int.le_refl _
            · exact hs1 _ _ (by omega) (by omega) (by omega)
          omega)
        refine ⟨s, hs, fun r h => ?_⟩
        obtain ⟨K, hK⟩ := hr r h
        refine evUp K fun k hk => ?_
        rw [a0a.l4, if_pos c, hm, hx, if_pos (by omega), if_pos (by omega), if_pos (by omega), if_pos (by omega), cmp_eq, Option.bind_some, if_pos ((a5h (a0c l (mid + m - 1 - (i + j) / 2)).f3 (a0c l ((i + j) / 2)).f3).mpr d)]
        exact hK k hk
      · obtain ⟨s, hs, hr⟩ := ih ((i + j) / 2 + 1) j (by omega) (by omega) h2 (by omega) (fun x x0 x1 => by
          have e1 : dy l (mid + m - 1 - (i + j) / 2) ≤ dy l (mid + m - 1 - x) := by
            by_cases f : x = (i + j) / 2
            · rw [f]; exact Int.le_refl _
            · exact hs2 _ _ (by omega) (by omega) (by omega)
          have e2 : dy l x ≤ dy l ((i + j) / 2) := by
            by_cases f : x = (i + j) / 2
            · rw [f]; exact Int.le_refl _
            · exact hs1 _ _ (by omega) (by omega) (by omega)
          omega) hH
        refine ⟨s, hs, fun r h => ?_⟩
        obtain ⟨K, hK⟩ := hr r h
        refine evUp K fun k hk => ?_
        rw [a0a.l4, if_pos c, hm, hx, if_pos (by omega), if_pos (by omega), if_pos (by omega), if_pos (by omega), cmp_eq, Option.bind_some, if_neg (fun q => d ((a5h (a0c l (mid + m - 1 - (i + j) / 2)).f3 (a0c l ((i + j) / 2)).f3).mp q)), w64 (x := (i + j) / 2 + 1) (by omega) (by omega)]
        exact hK k hk
    · obtain rfl : i = j := by omega
      exact fin i h0 h2 hL hH
theorem b0i : ∀ (n : Nat) (a m b : Int) (l : List S26), b - a ≤ n → l.length ≤ 1000000000 → 0 ≤ a → a < m → m < b → b ≤ l.length → Srt l a m → Srt l m b →
    ∃ r, Ev (fun k => a0a.f k l a m b) r ∧ Mg l r a b ∧ Srt r a b := by
  intro n
  induction n with
  | zero => intro a m b l h0 hl a0 am mb; omega
  | succ n ih =>
    intro a m b l h0 hl a0 am mb hb hs1 hs2
    by_cases c1 : m - a = 1
    · obtain ⟨r, ⟨K, hK⟩, hm, hr⟩ := b6t hl a0 (show a + 1 = m by omega) hb hs2 (b - m).toNat m b (by omega) (by omega) (by omega) (by omega) (fun p p0 p1 => by omega) (fun p p0 p1 => by omega)
      refine ⟨r, evUp K fun k hk => ?_, hm, hr⟩
      rw [a0a.f, w64 (x := m - a) (by omega) (by omega), if_pos c1]
      exact hK k hk
    · by_cases c2 : b - m = 1
      · obtain ⟨r, ⟨K, hK⟩, hm, hr⟩ := b6u hl a0 (show a ≤ m by omega) (show m + 1 = b by omega) hb hs1 (m - a).toNat a m (by omega) (by omega) (by omega) (by omega) (fun p p0 p1 => by omega) (fun p p0 p1 => by omega)
        refine ⟨r, evUp K fun k hk => ?_, hm, hr⟩
        rw [a0a.f, w64 (x := m - a) (by omega) (by omega), if_neg c1, w64 (x := b - m) (by omega) (by omega), if_pos c2]
        exact hK k hk
      · have hh := half (x := a) (y := b) (by omega) (by omega) (by omega) (by omega)
        generalize hmid : (a + b) / 2 = mid at hh
        have e1 : wrap64 (mid + m) = mid + m := w64 (by omega) (by omega)
        have e2 : wrap64 (mid + m - 1) = mid + m - 1 := w64 (by omega) (by omega)
        have e3 : wrap64 (mid + m - b) = mid + m - b := w64 (by omega) (by omega)
        have key : ∀ lo hi : Int, (m > mid ∧ lo = mid + m - b ∧ hi = mid ∨ m ≤ mid ∧ lo = a ∧ hi = m) → ∃ r, Ev (fun k => a0a.j4 k l a m b mid (mid + m) lo hi) r ∧ Mg l r a b ∧ Srt r a b := by
          intro lo hi hlo
          obtain ⟨s, hs, hgo⟩ := b5y hl a0 am mb hb hs1 hs2 hmid.symm hlo (hi - lo).toNat lo hi (by omega) (by omega) (by omega) (by omega) (fun x x0 x1 => by omega) (fun x x0 x1 => by omega)
          obtain ⟨r, hr, hm, ho⟩ := b3v hl a0 am mb hb hs1 hs2 (by omega) (by omega) hs
            (fun t tl q1 q2 q3 q4 => ih a s mid t (by omega) (by omega) a0 q1 q2 (by omega) q3 q4)
            (fun t tl q1 q2 q3 q4 => ih mid (mid + m - s) b t (by omega) (by omega) (by omega) q1 q2 (by omega) q3 q4)
          obtain ⟨K, hK⟩ := hgo r hr
          refine ⟨r, evUp K fun k hk => ?_, hm, ho⟩
          rw [a0a.j4, e2]
          exact hK k hk
        by_cases c3 : m > mid
        · obtain ⟨r, ⟨K, hK⟩, hm, ho⟩ := key (mid + m - b) mid (.inl ⟨c3, rfl, rfl⟩)
          refine ⟨r, evUp K fun k hk => ?_, hm, ho⟩
          rw [a0a.f, w64 (x := m - a) (by omega) (by omega), if_neg c1, w64 (x := b - m) (by omega) (by omega), if_neg c2, hh, if_pos c3, e1, e3]
          exact hK k hk
        · obtain ⟨r, ⟨K, hK⟩, hm, ho⟩ := key a m (.inr ⟨by omega, rfl, rfl⟩)
          refine ⟨r, evUp K fun k hk => ?_, hm, ho⟩
          rw [a0a.f, w64 (x := m - a) (by omega) (by omega), if_neg c1, w64 (x := b - m) (by omega) (by omega), if_neg c2, hh, if_neg c3, e1]
          exact hK k hk
end Go.Proofs.Ytfbgkcadnmcakaa.Cl
