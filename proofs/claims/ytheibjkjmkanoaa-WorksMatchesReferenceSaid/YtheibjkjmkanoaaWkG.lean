/- Words that the kit's print.sh printed, in a copy without what is not used. Conditions: as_ each theorem states. -/
import Derived.Test.YtheibjkjmkanoaaWkA
import Derived.Test.YtheibjkjmkanoaaPx19
import Derived.Test.YtheibjkjmkanoaaPx33
import Derived.Test.YtheibjkjmkanoaaPx32
import Derived.Test.YtheibjkjmkanoaaPx38
import Derived.Test.YtheibjkjmkanoaaGBy
namespace Go.Proofs.Ytheibjkjmkanoaa.Wk
open Go.RowKit Go.Sort Go.Proofs.YtheibjkjmkanoaaW.PrintWords Go.Proofs.YtheibjkjmkanoaaW.PrintMore Go.Proofs.Ytheibjkjmkanoaa.Given Go.Proofs.Ytheibjkjmkanoaa.Px
set_option linter.unusedVariables false
set_option linter.unusedSimpArgs false
def hasD (l : List S56) (d : Int) : Prop := ∃ x ∈ l, x.f0 ≤ d ∧ d < x.f1
def spA (l : List S56) : Prop := ∀ i : Int, 0 ≤ i → i < l.length → spG l i
theorem a8t {l : List S56} {x : S56} : x ∈ l ↔ ∃ i : Int, 0 ≤ i ∧ i < l.length ∧ a0f l i = x := by
 rw [List.mem_iff_getElem]
 constructor
 ·rintro ⟨i, h, e⟩
  exact ⟨i, by omega, by omega, by rw [b2b l h]; exact e⟩
 ·rintro ⟨i, i0, i1, e⟩
  refine ⟨i.toNat, by omega, ?_⟩
  rw [← b2b l (by omega), Int.toNat_of_nonneg i0]
  exact e
theorem a6r {l : List S56} {d : Int} : hasD l d ↔ ∃ i : Int, 0 ≤ i ∧ i < l.length ∧ (a0f l i).f0 ≤ d ∧ d < (a0f l i).f1 := by
 constructor
 ·rintro ⟨x, hx, h⟩
  obtain ⟨i, i0, i1, e⟩ := a8t.1 hx
  exact ⟨i, i0, i1, by rw [e]; exact h⟩
 ·rintro ⟨i, i0, i1, h⟩
  exact ⟨_, a8t.2 ⟨i, i0, i1, rfl⟩, h⟩
theorem b6i (o : List S56) (v : S56) {k : Int} (k0 : 0 ≤ k) (k1 : k < o.length) : a0f (o ++ [v]) k = a0f o k := by
 unfold a0f
 rw [List.getD_eq_getElem?_getD, List.getD_eq_getElem?_getD, List.getElem?_append_left (by omega)]
theorem b4f (o : List S56) (v : S56) : a0f (o ++ [v]) o.length = v := by
 unfold a0f
 rw [Int.toNat_natCast, List.getD_eq_getElem?_getD, List.getElem?_append_right (Nat.le_refl _)]
 simp
theorem a9x (f : List S56) {i : Int} (i0 : 0 ≤ i) (i1 : i < f.length) (v : S56) {k : Int} (k0 : 0 ≤ k) : a0f (f.set i.toNat v) k = if k = i then v else a0f f k := by
 unfold a0f
 rw [List.getD_eq_getElem?_getD, List.getD_eq_getElem?_getD, List.getElem?_set]
 by_cases c : k = i
 ·rw [if_pos c, if_pos (by rw [c]), if_pos (by omega)]
  rfl
 ·rw [if_neg c, if_neg (by omega)]
theorem b6j (o : List S56) (v : S56) (d : Int) : hasD (o ++ [v]) d ↔ hasD o d ∨ (v.f0 ≤ d ∧ d < v.f1) := by
 unfold hasD
 constructor
 ·rintro ⟨x, hx, h⟩
  rcases List.mem_append.1 hx with q | q
  ·exact .inl ⟨x, q, h⟩
  ·rw [List.mem_singleton] at q
   rw [q] at h
   exact .inr h
 ·rintro (⟨x, hx, h⟩ | h)
  ·exact ⟨x, List.mem_append_left _ hx, h⟩
  ·exact ⟨v, by simp, h⟩
theorem b7o {o : List S56} (h : spA o) {v : S56} (hv : stP v.f0 v.f1) (hl : 0 < o.length → (a0f o ((o.length : Int) - 1)).f1 < v.f0) : spA (o ++ [v]) := fun i i0 i1 => by
 rw [List.length_append, List.length_singleton] at i1
 by_cases c : i = o.length
 ·subst c
  unfold spG
  rw [b4f]
  refine ⟨hv, fun p => ?_⟩
  rw [b6i o v (by omega) (by omega)]
  exact hl (by omega)
 ·have h2 := h i i0 (by omega)
  unfold spG at h2 ⊢
  rw [b6i o v i0 (by omega)]
  refine ⟨h2.1, fun p => ?_⟩
  rw [b6i o v (by omega) (by omega)]
  exact h2.2 p
theorem b4v {o : List S56} (ho : 0 < o.length) {v : S56} (h0 : v.f0 = (a0f o ((o.length : Int) - 1)).f0) (h1 : (a0f o ((o.length : Int) - 1)).f1 ≤ v.f1) (d : Int) :
  hasD (o.set ((o.length : Int) - 1).toNat v) d ↔ hasD o d ∨ (v.f0 ≤ d ∧ d < v.f1) := by
 rw [a6r, a6r]
 constructor
 ·rintro ⟨i, i0, i1, h⟩
  rw [List.length_set] at i1
  rw [a9x o (by omega) (by omega) v i0] at h
  by_cases c : i = (o.length : Int) - 1
  ·rw [if_pos c] at h; exact .inr h
  ·rw [if_neg c] at h; exact .inl ⟨i, i0, i1, h⟩
 ·rintro (⟨i, i0, i1, h⟩ | h)
  ·refine ⟨i, i0, by rw [List.length_set]; exact i1, ?_⟩
   rw [a9x o (by omega) (by omega) v i0]
   by_cases c : i = (o.length : Int) - 1
   ·rw [if_pos c]; rw [c] at h; omega
   ·rw [if_neg c]; exact h
  ·refine ⟨(o.length : Int) - 1, by omega, by rw [List.length_set]; omega, ?_⟩
   rw [a9x o (by omega) (by omega) v (by omega), if_pos rfl]
   exact h
theorem b6k {o : List S56} (h : spA o) (ho : 0 < o.length) {v : S56} (hv : stP v.f0 v.f1) (h0 : v.f0 = (a0f o ((o.length : Int) - 1)).f0) : spA (o.set ((o.length : Int) - 1).toNat v) := fun i i0 i1 => by
 rw [List.length_set] at i1
 have h2 := h i i0 i1
 unfold spG at h2 ⊢
 rw [a9x o (by omega) (by omega) v i0]
 by_cases c : i = (o.length : Int) - 1
 ·rw [if_pos c]
  refine ⟨hv, fun p => ?_⟩
  rw [a9x o (by omega) (by omega) v (by omega), if_neg (by omega), h0]
  rw [c] at h2 p ⊢
  exact h2.2 p
 ·rw [if_neg c]
  refine ⟨h2.1, fun p => ?_⟩
  rw [a9x o (by omega) (by omega) v (by omega), if_neg (by omega)]
  exact h2.2 p
theorem b3n {l : List S56} (h : spA l) {a b : Int} (a0 : 0 ≤ a) (ab : a < b) (b1 : b < l.length) : (a0f l a).f1 < (a0f l b).f0 := by
 have rise : ∀ (n : Nat) (a : Int), 0 ≤ a → a + n + 1 < l.length → (a0f l a).f1 < (a0f l (a + n + 1)).f0 := by
  intro n
  induction n with
  | zero =>
   intro a a0 h1
   have h2 := (h (a + 1) (by omega) (by omega)).2 (by omega)
   rw [show a + 1 - 1 = a by omega] at h2
   rw [show a + (0 : Nat) + 1 = a + 1 by omega]
   exact h2
  | succ n ih =>
   intro a a0 h1
   have h2 := ih a a0 (by omega)
   have h3 := (h (a + n + 1) (by omega) (by omega)).1
   have h4 := (h (a + (n + 1 : Nat) + 1) (by omega) (by omega)).2 (by omega)
   rw [show a + (n + 1 : Nat) + 1 - 1 = a + n + 1 by omega] at h4
   unfold stP at h3
   omega
 have := rise (b - a - 1).toNat a a0 (by omega)
 rwa [show a + ((b - a - 1).toNat : Int) + 1 = b by omega] at this
theorem b0w {a b : List S56} (ha : spA a) (hb : spA b) (hd : ∀ d, hasD a d → hasD b d) {n : Int} (n0 : 0 ≤ n) (he : ∀ i : Int, 0 ≤ i → i < n → a0f a i = a0f b i) (n1 : n < a.length) : n < b.length ∧ (a0f b n).f0 ≤ (a0f a n).f0 := by
 have hs := (ha n n0 n1).1
 unfold stP at hs
 obtain ⟨m, m0, m1, m2, m3⟩ := a6r.1 (hd (a0f a n).f0 (a6r.2 ⟨n, n0, n1, by omega, by omega⟩))
 have hm : n ≤ m := by
  by_cases c : m < n
  ·have h1 := he m m0 c
   have h2 := b3n ha m0 c n1
   rw [h1] at h2
   omega
  ·omega
 refine ⟨by omega, ?_⟩
 by_cases c : n = m
 ·rw [c]; rw [c] at m2; exact m2
 ·have h1 := b3n hb n0 (show n < m by omega) m1
  have h2 := (hb n n0 (by omega)).1
  unfold stP at h2
  omega
theorem c0j {a b : List S56} (ha : spA a) (hb : spA b) (hd : ∀ d, hasD b d → hasD a d) {n : Int} (n0 : 0 ≤ n) (n1 : n < a.length) (n2 : n < b.length) (h0 : (a0f a n).f0 = (a0f b n).f0) : ¬ (a0f a n).f1 < (a0f b n).f1 := fun hlt => by
 have hs := (ha n n0 n1).1
 unfold stP at hs
 obtain ⟨p, p0, p1, p2, p3⟩ := a6r.1 (hd (a0f a n).f1 (a6r.2 ⟨n, n0, n2, by omega, hlt⟩))
 by_cases c : p < n
 ·have := b3n ha p0 c n1; omega
 ·by_cases e : p = n
  ·rw [e] at p3; omega
  ·have := b3n ha n0 (show n < p by omega) p1; omega
theorem b7p {a b : List S56} (ha : spA a) (hb : spA b) (hd : ∀ d, hasD a d ↔ hasD b d) : a = b := by
 have first : ∀ n : Nat, (n ≤ a.length → n ≤ b.length) ∧ (n ≤ b.length → n ≤ a.length) ∧ ∀ i : Int, 0 ≤ i → i < n → i < a.length → a0f a i = a0f b i := by
  intro n
  induction n with
  | zero => exact ⟨fun _ => Nat.zero_le _, fun _ => Nat.zero_le _, fun i a b => by omega⟩
  | succ n ih =>
   obtain ⟨h1, h2, h3⟩ := ih
   have l1 : n + 1 ≤ a.length → n + 1 ≤ b.length := fun h => by
    have := (b0w ha hb (fun d => (hd d).1) (n := (n : Int)) (by omega) (fun i i0 i1 => h3 i i0 i1 (by omega)) (by omega)).1
    omega
   have l2 : n + 1 ≤ b.length → n + 1 ≤ a.length := fun h => by
    have := (b0w hb ha (fun d => (hd d).2) (n := (n : Int)) (by omega) (fun i i0 i1 => (h3 i i0 i1 (by have := h2 (by omega); omega)).symm) (by omega)).1
    omega
   refine ⟨l1, l2, fun i i0 i1 i2 => ?_⟩
   by_cases c : i = (n : Int)
   ·have q := l1 (by omega)
    have e1 := (b0w ha hb (fun d => (hd d).1) i0 (fun k k0 k1 => h3 k k0 (by omega) (by omega)) i2).2
    have e2 := (b0w hb ha (fun d => (hd d).2) i0 (fun k k0 k1 => (h3 k k0 (by omega) (by omega)).symm) (by omega)).2
    have e3 := c0j ha hb (fun d => (hd d).2) i0 i2 (by omega) (by omega)
    have e4 := c0j hb ha (fun d => (hd d).1) i0 (by omega) i2 (by omega)
    revert e1 e2 e3 e4
    generalize a0f a i = x
    generalize a0f b i = y
    intro e1 e2 e3 e4
    cases x; cases y
    simp only at e1 e2 e3 e4
    congr 1 <;> omega
   ·exact h3 i i0 (by omega) i2
 have hl : a.length = b.length := by
  have h1 := (first a.length).1 (Nat.le_refl _)
  have h2 := (first b.length).2.1 (Nat.le_refl _)
  omega
 exact c1v hl fun i i0 i1 => (first a.length).2.2 i i0 (by omega) i1
theorem c4x (a b : Int) : mx a b = if a < b then b else a := rfl
theorem c4c {o : List S56} (ho : spA o) (hlen : o.length < 1000000) {a b : Int} (hs : stP a b) (hlast : 0 < o.length → (a0f o ((o.length : Int) - 1)).f0 ≤ a) :
  ∃ r, a2x.f o a b = some r ∧ spA r ∧ (∀ d, hasD r d ↔ hasD o d ∨ (a ≤ d ∧ d < b)) ∧ r.length ≤ o.length + 1 ∧ 0 < r.length ∧ (a0f r ((r.length : Int) - 1)).f0 ≤ a := by
 unfold a2x.f
 have app : (0 < o.length → (a0f o ((o.length : Int) - 1)).f1 < a) → ∃ r, some (o ++ [(⟨a, b⟩ : S56)]) = some r ∧ spA r ∧ (∀ d, hasD r d ↔ hasD o d ∨ (a ≤ d ∧ d < b)) ∧ r.length ≤ o.length + 1 ∧ 0 < r.length ∧ (a0f r ((r.length : Int) - 1)).f0 ≤ a := fun h => by
  refine ⟨_, rfl, b7o ho (v := ⟨a, b⟩) hs h, fun d => b6j o ⟨a, b⟩ d, by simp, by simp, ?_⟩
  rw [show (((o ++ [(⟨a, b⟩ : S56)]).length : Nat) : Int) - 1 = o.length by simp, b4f]
  exact Int.le_refl _
 by_cases c : (o.length : Int) > 0
 ·rw [if_pos c, w64 (by omega) (by omega), if_pos (by omega), if_pos (by omega)]
  have hl := (ho ((o.length : Int) - 1) (by omega) (by omega)).1
  have h0 := hlast (by omega)
  unfold stP at hl hs
  by_cases d : (a0f o ((o.length : Int) - 1)).f1 ≥ a
  ·rw [if_pos d]
   have hm := c4x (a0f o ((o.length : Int) - 1)).f1 b
   have hm1 : (a0f o ((o.length : Int) - 1)).f1 ≤ mx (a0f o ((o.length : Int) - 1)).f1 b ∧ b ≤ mx (a0f o ((o.length : Int) - 1)).f1 b ∧ (mx (a0f o ((o.length : Int) - 1)).f1 b = b ∨ mx (a0f o ((o.length : Int) - 1)).f1 b = (a0f o ((o.length : Int) - 1)).f1) := by
    rw [hm]; split <;> omega
   refine ⟨_, rfl, b6k ho (by omega) (v := ⟨(a0f o ((o.length : Int) - 1)).f0, mx (a0f o ((o.length : Int) - 1)).f1 b⟩) (by unfold stP; simp only; omega) rfl, fun x => ?_, by rw [List.length_set]; omega, by rw [List.length_set]; omega, ?_⟩
   ·rw [b4v (o := o) (v := ⟨(a0f o ((o.length : Int) - 1)).f0, mx (a0f o ((o.length : Int) - 1)).f1 b⟩) (by omega) rfl (by simp only; omega) x]
    simp only
    constructor
    ·rintro (h | h)
     ·exact .inl h
     ·by_cases e : x < (a0f o ((o.length : Int) - 1)).f1
      ·exact .inl (a6r.2 ⟨(o.length : Int) - 1, by omega, by omega, h.1, e⟩)
      ·exact .inr (by omega)
    ·rintro (h | h)
     ·exact .inl h
     ·exact .inr (by omega)
   ·rw [List.length_set, a9x o (by omega) (by omega) _ (by omega), if_pos rfl]
    exact h0
  ·rw [if_neg d, if_pos (by omega)]
   exact app fun _ => by omega
 ·rw [if_neg c, if_pos (by omega)]
  exact app fun h => by omega
theorem b7q (l : List S56) (hl : l.length ≤ 1000) (hs : ∀ i : Int, 0 ≤ i → i < l.length → stP (a0f l i).f0 (a0f l i).f1) :
  ∃ r, Ev (fun k => a2t.f k l) (r, 0) ∧ spA r ∧ (∀ d, hasD r d ↔ hasD l d) ∧ r.length ≤ l.length := by
 have hor := b0z l
 have hperm : (a7e cfF l).Perm l := hor.1
 have hlen : (a7e cfF l).length = l.length := hperm.length_eq
 have hpw := hor.2
 rw [List.pairwise_iff_getElem] at hpw
 obtain ⟨s, hsd⟩ : ∃ s, s = a7e cfF l := ⟨_, rfl⟩
 rw [← hsd] at hperm hlen hpw
 have hst : ∀ i : Int, 0 ≤ i → i < s.length → stP (a0f s i).f0 (a0f s i).f1 := fun i i0 i1 => by
  have : a0f s i ∈ l := hperm.mem_iff.1 (a8t.2 ⟨i, i0, i1, rfl⟩)
  obtain ⟨q, q0, q1, e⟩ := a8t.1 this
  rw [← e]
  exact hs q q0 q1
 have hup : ∀ i : Int, 0 < i → i < s.length → (a0f s (i - 1)).f0 ≤ (a0f s i).f0 := fun i i0 i1 => by
  have := hpw (i - 1).toNat i.toNat (by omega) (by omega) (by omega)
  rw [← b2b s (by omega), ← b2b s (by omega), Int.toNat_of_nonneg (by omega), Int.toNat_of_nonneg (by omega)] at this
  exact this
 have loop : ∀ (n : Nat) (i : Int) (o : List S56), 0 ≤ i → i + n = s.length → spA o → (o.length : Int) ≤ i → (0 < o.length → 0 < i ∧ (a0f o ((o.length : Int) - 1)).f0 ≤ (a0f s (i - 1)).f0) →
   (∀ d, hasD o d ↔ ∃ q : Int, 0 ≤ q ∧ q < i ∧ (a0f s q).f0 ≤ d ∧ d < (a0f s q).f1) →
   ∃ r, Ev (fun k => a2t.l1 k o s (l.length : Int) i) (r, 0) ∧ spA r ∧ (∀ d, hasD r d ↔ hasD l d) ∧ r.length ≤ l.length := by
  intro n
  induction n with
  | zero =>
   intro i o i0 hi ho hol _ hd
   refine ⟨o, evUp 0 fun k _ => ?_, ho, fun d => ?_, by omega⟩
   ·rw [a2t.l1, if_neg (by omega)]
    unfold a6q.f
    rw [if_neg (by omega), Option.bind_some]
   ·rw [hd d]
    unfold hasD
    constructor
    ·rintro ⟨q, q0, q1, h⟩
     exact ⟨a0f s q, hperm.mem_iff.1 (a8t.2 ⟨q, q0, by omega, rfl⟩), h⟩
    ·rintro ⟨x, hx, h⟩
     obtain ⟨q, q0, q1, e⟩ := a8t.1 (hperm.mem_iff.2 hx)
     exact ⟨q, q0, by omega, by rw [e]; exact h⟩
  | succ n ih =>
   intro i o i0 hi ho hol hla hd
   have hsi := hst i i0 (by omega)
   obtain ⟨o2, e2, g1, g2, g3, g4, g5⟩ := c4c ho (by omega) hsi (fun h => by
    obtain ⟨a, b⟩ := hla h
    have := hup i a (by omega)
    omega)
   obtain ⟨r, ⟨K, hK⟩, hr⟩ := ih (i + 1) o2 (by omega) (by omega) g1 (by omega) (fun _ => ⟨by omega, by rw [show i + 1 - 1 = i by omega]; exact g5⟩) (fun d => by
    rw [g2 d, hd d]
    constructor
    ·rintro (⟨q, q0, q1, h⟩ | h)
     ·exact ⟨q, q0, by omega, h⟩
     ·exact ⟨i, i0, by omega, h⟩
    ·rintro ⟨q, q0, q1, h⟩
     by_cases c : q = i
     ·rw [c] at h; exact .inr h
     ·exact .inl ⟨q, q0, by omega, h⟩)
   refine ⟨r, evUp K fun k hk => ?_, hr⟩
   rw [a2t.l1, if_pos (by omega), if_pos i0, if_pos (by omega), e2, Option.bind_some, w64 (by omega) (by omega)]
   exact hK k hk
 obtain ⟨r, ⟨K, hK⟩, hr⟩ := loop s.length 0 [] (by omega) (by omega) (fun i a b => by simp at b; omega) (by simp) (fun h => by simp at h) (fun d => by
  unfold hasD
  constructor
  ·rintro ⟨x, hx, _⟩; simp at hx
  ·rintro ⟨q, q0, q1, _⟩; omega)
 refine ⟨r, ?_, hr⟩
 dsimp only at hK
 have hall : (decide (l.length < 4611686018427387904) && l.all (fun s => decide (s.f0 < s.f1))) = true := by
  rw [Bool.and_eq_true, decide_eq_true_eq, List.all_eq_true]
  refine ⟨by omega, fun x hx => ?_⟩
  obtain ⟨q, q0, q1, e⟩ := a8t.1 hx
  have := hs q q0 q1
  rw [e] at this
  unfold stP at this
  rw [decide_eq_true_eq]
  omega
 have chk : ∀ (n : Nat) (i : Int), 0 ≤ i → i + n = l.length → Ev (fun k => a2t.l0 k l l (l.length : Int) i) (r, 0) := by
  intro n
  induction n with
  | zero =>
   intro i i0 hi
   refine evUp K fun k hk => ?_
   rw [a2t.l0, if_neg (by omega)]
   unfold a6y.f a3o.f
   rw [if_pos (by omega), Option.bind_some, if_pos hall, Option.bind_some, ← hsd]
   exact hK k hk
  | succ n ih =>
   intro i i0 hi
   obtain ⟨K2, hK2⟩ := ih (i + 1) (by omega) (by omega)
   obtain ⟨t, e, ht⟩ := b0s (a0f l i).f0 (a0f l i).f1
   refine evUp K2 fun k hk => ?_
   rw [a2t.l0, if_pos (by omega), if_pos i0, if_pos (by omega), e, Option.bind_some, if_pos (ht.2 (hs i i0 (by omega))), w64 (by omega) (by omega)]
   exact hK2 k hk
 obtain ⟨K3, h3⟩ := chk l.length 0 (by omega) (by omega)
 exact ⟨K3, fun k hk => by dsimp only at h3 ⊢; unfold a2t.f; exact h3 k hk⟩
theorem setB (f : List Bool) {i : Int} (i0 : 0 ≤ i) (i1 : i < f.length) (v : Bool) {k : Int} (k0 : 0 ≤ k) : rdOf false (f.set i.toNat v) k = if k = i then v else rdOf false f k := by
 unfold rdOf
 rw [List.getD_eq_getElem?_getD, List.getD_eq_getElem?_getD, List.getElem?_set]
 by_cases c : k = i
 ·rw [if_pos c, if_pos (by rw [c]), if_pos (by omega)]
  rfl
 ·rw [if_neg c, if_neg (by omega)]
theorem c1g (l : List S56) (hl : l.length ≤ 1000) (hs : ∀ i : Int, 0 ≤ i → i < l.length → stP (a0f l i).f0 (a0f l i).f1) :
  ∃ m, Ev (fun k => a1h.f k l) m ∧ m.length = 36525 ∧ ∀ d : Int, 0 ≤ d → d < 36525 → (rdOf false m d = true ↔ hasD l d) := by
 have outer : ∀ (n : Nat) (i : Int) (m : List Bool), 0 ≤ i → i + n = l.length → m.length = 36525 → (∀ d : Int, 0 ≤ d → d < 36525 → (rdOf false m d = true ↔ ∃ q : Int, 0 ≤ q ∧ q < i ∧ (a0f l q).f0 ≤ d ∧ d < (a0f l q).f1)) →
   ∃ r, Ev (fun k => a1h.l0 k l m i) r ∧ r.length = 36525 ∧ ∀ d : Int, 0 ≤ d → d < 36525 → (rdOf false r d = true ↔ hasD l d) := by
  intro n
  induction n with
  | zero =>
   intro i m i0 hi hm hd
   refine ⟨m, evUp 0 fun k _ => by rw [a1h.l0, if_neg (by omega)], hm, fun d d0 d1 => ?_⟩
   rw [hd d d0 d1, a6r, show i = l.length by omega]
  | succ n ih =>
   intro i m i0 hi hm hd
   have hsi := hs i i0 (by omega)
   unfold stP at hsi
   have inner : ∀ (z : Nat) (c : Int) (m : List Bool), (a0f l i).f0 ≤ c → c + z = (a0f l i).f1 → m.length = 36525 → (∀ d : Int, 0 ≤ d → d < 36525 → (rdOf false m d = true ↔ (∃ q : Int, 0 ≤ q ∧ q < i ∧ (a0f l q).f0 ≤ d ∧ d < (a0f l q).f1) ∨ ((a0f l i).f0 ≤ d ∧ d < c))) →
     ∃ r, Ev (fun k => a1h.l1 k l m i c) r ∧ r.length = 36525 ∧ ∀ d : Int, 0 ≤ d → d < 36525 → (rdOf false r d = true ↔ hasD l d) := by
    intro z
    induction z with
    | zero =>
     intro c m c0 hc hm hd
     obtain ⟨r, ⟨K, hK⟩, hr⟩ := ih (i + 1) m (by omega) (by omega) hm (fun d d0 d1 => by
      rw [hd d d0 d1]
      constructor
      ·rintro (⟨q, q0, q1, h⟩ | h)
       ·exact ⟨q, q0, by omega, h⟩
       ·exact ⟨i, i0, by omega, by omega⟩
      ·rintro ⟨q, q0, q1, h⟩
       by_cases e : q = i
       ·rw [e] at h; exact .inr (by omega)
       ·exact .inl ⟨q, q0, by omega, h⟩)
     refine ⟨r, evUp K fun k hk => ?_, hr⟩
     rw [a1h.l1, if_pos i0, if_pos (by omega), if_neg (by omega), w64 (by omega) (by omega)]
     exact hK k hk
    | succ z ihz =>
     intro c m c0 hc hm hd
     obtain ⟨r, ⟨K, hK⟩, hr⟩ := ihz (c + 1) (m.set c.toNat true) (by omega) (by omega) (by rw [List.length_set]; exact hm) (fun d d0 d1 => by
      rw [setB m (by omega) (by omega) true d0]
      by_cases e : d = c
      ·rw [if_pos e]
       exact ⟨fun _ => .inr (by omega), fun _ => rfl⟩
      ·rw [if_neg e, hd d d0 d1]
       constructor
       ·rintro (h | h)
        ·exact .inl h
        ·exact .inr (by omega)
       ·rintro (h | h)
        ·exact .inl h
        ·exact .inr (by omega))
     refine ⟨r, evUp K fun k hk => ?_, hr⟩
     rw [a1h.l1, if_pos i0, if_pos (by omega), if_pos (by omega), if_pos (by omega), if_pos (by omega), w64 (by omega) (by omega)]
     exact hK k hk
   obtain ⟨r, ⟨K, hK⟩, hr⟩ := inner ((a0f l i).f1 - (a0f l i).f0).toNat (a0f l i).f0 m (Int.le_refl _) (by omega) hm (fun d d0 d1 => by
    rw [hd d d0 d1]
    exact ⟨.inl, fun h => h.elim id (fun h => by omega)⟩)
   refine ⟨r, evUp K fun k hk => ?_, hr⟩
   rw [a1h.l0, if_pos (by omega), if_pos i0]
   exact hK k hk
 obtain ⟨r, ⟨K, hK⟩, hr⟩ := outer l.length 0 (List.replicate 36525 false) (by omega) (by omega) List.length_replicate (fun d d0 d1 => by
  unfold rdOf
  rw [List.getD_eq_getElem?_getD, List.getElem?_replicate]
  constructor
  ·intro h; split at h <;> simp at h
  ·rintro ⟨q, q0, q1, _⟩; omega)
 exact ⟨r, ⟨K, fun k hk => by dsimp only at hK ⊢; unfold a1h.f; rw [if_pos (by decide)]; exact hK k hk⟩, hr⟩
theorem c4d (l r : List S56) (hr : spA r) (hrl : r.length ≤ 1000) (hrd : ∀ d, hasD r d ↔ hasD l d) (m : List Bool) (hm : m.length = 36525) (hmd : ∀ d : Int, 0 ≤ d → d < 36525 → (rdOf false m d = true ↔ hasD l d)) : Ev (fun k => a1m.f k m) (r, 0) := by
 have loop : ∀ (n : Nat) (d : Int) (o : List S56), 0 ≤ d → d + n = 36525 → spA o → (o.length : Int) ≤ d → (0 < o.length → (a0f o ((o.length : Int) - 1)).f1 ≤ d) → (∀ x, hasD o x ↔ hasD l x ∧ x < d) → Ev (fun k => a1m.l0 k m o d) (r, 0) := by
  intro n
  induction n with
  | zero =>
   intro d o d0 hd ho hol hla hh
   have e : o = r := b7p ho hr fun x => by
    rw [hh x, ← hrd x]
    refine ⟨fun h => h.1, fun h => ⟨h, ?_⟩⟩
    obtain ⟨i, i0, i1, h1, h2⟩ := a6r.1 h
    have := (hr i i0 i1).1
    unfold stP at this
    omega
   refine evUp 0 fun k _ => ?_
   rw [a1m.l0, if_neg (by omega), e, if_neg (by omega)]
  | succ n ih =>
   intro d o d0 hd ho hol hla hh
   by_cases c : rdOf false m d = true
   ·have hl : hasD l d := (hmd d d0 (by omega)).1 c
    have app : (0 < o.length → (a0f o ((o.length : Int) - 1)).f1 < d) → Ev (fun k => a1m.l0 k m (o ++ [(⟨d, d + 1⟩ : S56)]) (d + 1)) (r, 0) := fun hlt => by
     refine ih (d + 1) _ (by omega) (by omega) (b7o ho (v := ⟨d, d + 1⟩) (by unfold stP; simp only; omega) hlt) (by rw [List.length_append, List.length_singleton]; omega) (fun _ => ?_) (fun x => ?_)
     ·rw [show (((o ++ [(⟨d, d + 1⟩ : S56)]).length : Nat) : Int) - 1 = o.length by simp, b4f]
      exact Int.le_refl _
     ·rw [b6j, hh x]
      simp only
      constructor
      ·rintro (h | h)
       ·exact ⟨h.1, by omega⟩
       ·rw [show x = d by omega]; exact ⟨hl, by omega⟩
      ·rintro ⟨h1, h2⟩
       by_cases e : x < d
       ·exact .inl ⟨h1, e⟩
       ·exact .inr (by omega)
    by_cases c2 : (o.length : Int) > 0
    ·by_cases c3 : (a0f o ((o.length : Int) - 1)).f1 = d
     ·have hla2 := (ho ((o.length : Int) - 1) (by omega) (by omega)).1
      unfold stP at hla2
      obtain ⟨K, hK⟩ := ih (d + 1) (o.set ((o.length : Int) - 1).toNat ⟨(a0f o ((o.length : Int) - 1)).f0, d + 1⟩) (by omega) (by omega) (b6k ho (by omega) (by unfold stP; simp only; omega) rfl) (by rw [List.length_set]; omega) (fun _ => by
        rw [List.length_set, a9x o (by omega) (by omega) _ (by omega), if_pos rfl]
        exact Int.le_refl _) (fun x => by
        rw [b4v (o := o) (v := ⟨(a0f o ((o.length : Int) - 1)).f0, d + 1⟩) (by omega) rfl (by simp only; omega) x, hh x]
        simp only
        constructor
        ·rintro (h | h)
         ·exact ⟨h.1, by omega⟩
         ·by_cases e : x = d
          ·rw [e]; exact ⟨hl, by omega⟩
          ·have := (hh x).1 (a6r.2 ⟨(o.length : Int) - 1, by omega, by omega, h.1, by omega⟩)
           exact ⟨this.1, by omega⟩
        ·rintro ⟨h1, h2⟩
         by_cases e : x < d
         ·exact .inl ⟨h1, e⟩
         ·exact .inr (by omega))
      refine evUp K fun k hk => ?_
      rw [a1m.l0, if_pos (by omega), if_pos d0, if_pos c, if_pos c2, w64 (x := (o.length : Int) - 1) (by omega) (by omega), if_pos (by omega), if_pos (by omega), if_pos c3, w64 (by omega) (by omega)]
      exact hK k hk
     ·obtain ⟨K, hK⟩ := app fun h => by have := hla h; omega
      refine evUp K fun k hk => ?_
      rw [a1m.l0, if_pos (by omega), if_pos d0, if_pos c, if_pos c2, w64 (x := (o.length : Int) - 1) (by omega) (by omega), if_pos (by omega), if_pos (by omega), if_neg c3, if_pos (by omega), w64 (by omega) (by omega)]
      exact hK k hk
    ·obtain ⟨K, hK⟩ := app fun h => by omega
     refine evUp K fun k hk => ?_
     rw [a1m.l0, if_pos (by omega), if_pos d0, if_pos c, if_neg c2, if_pos (by omega), w64 (by omega) (by omega)]
     exact hK k hk
   ·obtain ⟨K, hK⟩ := ih (d + 1) o (by omega) (by omega) ho (by omega) (fun h => by have := hla h; omega) (fun x => by
     rw [hh x]
     refine ⟨fun h => ⟨h.1, by omega⟩, fun h => ⟨h.1, ?_⟩⟩
     by_cases e : x = d
     ·rw [e] at h; exact absurd ((hmd d d0 (by omega)).2 h.1) c
     ·omega)
    refine evUp K fun k hk => ?_
    rw [a1m.l0, if_pos (by omega), if_pos d0, if_neg c, w64 (by omega) (by omega)]
    exact hK k hk
 obtain ⟨K, hK⟩ := loop 36525 0 [] (by omega) (by omega) (fun i a b => by simp at b; omega) (by simp) (fun h => by simp at h) (fun x => by
  constructor
  ·rintro ⟨y, hy, _⟩; simp at hy
  ·rintro ⟨h1, h2⟩
   obtain ⟨i, i0, i1, h3, h4⟩ := a6r.1 ((hrd x).2 h1)
   have := (hr i i0 i1).1
   unfold stP at this
   omega)
 exact ⟨K, fun k hk => by dsimp only at hK ⊢; unfold a1m.f; exact hK k hk⟩
theorem b8t (l r : List S56) (hl : l.length ≤ 1000) (hs : ∀ i : Int, 0 ≤ i → i < l.length → stP (a0f l i).f0 (a0f l i).f1) (hr : spA r) (hrl : r.length ≤ 1000) (hrd : ∀ d, hasD r d ↔ hasD l d) : Ev (fun k => a2d.f k l) (r, 0) := by
 obtain ⟨m, ⟨K1, h1⟩, hm, hmd⟩ := c1g l hl hs
 obtain ⟨K2, h2⟩ := c4d l r hr hrl hrd m hm hmd
 dsimp only at h1 h2
 have chk : ∀ (n : Nat) (i : Int), 0 ≤ i → i + n = l.length → Ev (fun k => a2d.l0 k l i) (r, 0) := by
  intro n
  induction n with
  | zero =>
   intro i i0 hi
   refine evUp (K1 + K2) fun k hk => ?_
   rw [a2d.l0, if_neg (by omega), h1 k (by omega), Option.bind_some, h2 k (by omega), Option.bind_some]
  | succ n ih =>
   intro i i0 hi
   obtain ⟨K, hK⟩ := ih (i + 1) (by omega) (by omega)
   obtain ⟨t, e, ht⟩ := a7i (a0f l i).f0 (a0f l i).f1
   refine evUp K fun k hk => ?_
   rw [a2d.l0, if_pos (by omega), if_pos i0, e, Option.bind_some, if_pos (ht.2 (hs i i0 (by omega))), w64 (by omega) (by omega)]
   exact hK k hk
 obtain ⟨K, hK⟩ := chk l.length 0 (by omega) (by omega)
 exact ⟨K, fun k hk => by dsimp only at hK ⊢; unfold a2d.f; exact hK k hk⟩
open Classical in
noncomputable def tkN (j : List S51) (l : List S42) (room : Int) : Nat → List S56
 | 0 => []
 | n + 1 => if inP (a0a j (n : Int)).f4 room then tkN j l room n ++ [⟨(a0b l (n : Int)).f1, (a0b l (n : Int)).f2⟩] else tkN j l room n
theorem b0h (j : List S51) (l : List S42) (room : Int) : ∀ n, (tkN j l room n).length ≤ n
 | 0 => Nat.le_refl _
 | n + 1 => by
  have := b0h j l room n
  rw [tkN]
  split
  ·rw [List.length_append, List.length_singleton]; omega
  ·omega
theorem b7r (j : List S51) (l : List S42) (room : Int) : ∀ n x, x ∈ tkN j l room n ↔ ∃ i : Int, 0 ≤ i ∧ i < n ∧ inP (a0a j i).f4 room ∧ x = ⟨(a0b l i).f1, (a0b l i).f2⟩
 | 0, x => by
  rw [tkN]
  exact ⟨fun h => by simp at h, fun ⟨i, a, b, _⟩ => by omega⟩
 | n + 1, x => by
  have ih := b7r j l room n x
  rw [tkN]
  by_cases c : inP (a0a j (n : Int)).f4 room
  ·rw [if_pos c, List.mem_append, ih, List.mem_singleton]
   constructor
   ·rintro (⟨i, a, b, h⟩ | h)
    ·exact ⟨i, a, by omega, h⟩
    ·exact ⟨n, by omega, by omega, c, h⟩
   ·rintro ⟨i, a, b, h⟩
    by_cases e : i = (n : Int)
    ·rw [e] at h; exact .inr h.2
    ·exact .inl ⟨i, a, by omega, h⟩
  ·rw [if_neg c, ih]
   constructor
   ·rintro ⟨i, a, b, h⟩; exact ⟨i, a, by omega, h⟩
   ·rintro ⟨i, a, b, h⟩
    by_cases e : i = (n : Int)
    ·rw [e] at h; exact absurd h.1 c
    ·exact ⟨i, a, by omega, h⟩
def tkP (j : List S51) (l : List S42) (room : Int) : Prop := maP j l ∧ 1 ≤ room ∧ room ≤ 64 ∧ ∀ i : Int, 0 ≤ i → i < j.length → stP (a0b l i).f1 (a0b l i).f2
def tkS (j : List S51) (l : List S42) (room : Int) (r : List S56 × Int) : Prop :=
 (tkP j l room ∧ r.2 = 0 ∧ spA r.1 ∧ (∀ d, hasD r.1 d ↔ hasD (tkN j l room j.length) d) ∧ r.1.length ≤ j.length) ∨ (¬ tkP j l room ∧ r = ([], 1))
theorem c3h {j l room} {a b : List S56 × Int} (ha : tkS j l room a) (hb : tkS j l room b) : a = b := by
 rcases ha with ⟨h1, h2, h3, h4, _⟩ | ⟨h1, h2⟩
 ·rcases hb with ⟨_, g2, g3, g4, _⟩ | ⟨g1, _⟩
  ·have : a.1 = b.1 := b7p h3 g3 fun d => (h4 d).trans (g4 d).symm
   cases a; cases b
   simp only at this h2 g2
   rw [this, h2, g2]
  ·exact absurd h1 g1
 ·rcases hb with ⟨g1, _⟩ | ⟨_, g2⟩
  ·exact absurd g1 h1
  ·rw [h2, g2]
theorem c1x (a b : Int) : ∃ s, Ev (fun k => a2c.f k ([(⟨a, b⟩ : S56)] : List S56)) s ∧ (s = true ↔ stP a b) := by
 obtain ⟨s, h, e⟩ := a9j ([(⟨a, b⟩ : S56)] : List S56) (by simp)
 refine ⟨s, h, e.trans ⟨fun h => (h.1 0 (by omega) (by simp)).1, fun h => ⟨fun i i0 i1 => ?_, by simp⟩⟩⟩
 simp at i1
 obtain rfl : i = 0 := by omega
 exact ⟨h, fun p => by omega⟩
theorem b6l {j : List S51} {l : List S42} {room : Int} (h : tkP j l room) : ∀ i : Int, 0 ≤ i → i < (tkN j l room j.length).length → stP (a0f (tkN j l room j.length) i).f0 (a0f (tkN j l room j.length) i).f1 := fun i i0 i1 => by
 have := a8t.2 ⟨i, i0, i1, rfl⟩
 rw [b7r] at this
 obtain ⟨q, q0, q1, _, e⟩ := this
 rw [e]
 exact h.2.2.2 q q0 q1
theorem c1h (j : List S51) (l : List S42) (room : Int) (hj : j.length ≤ 60) (hr : ∀ i : Int, 0 ≤ i → i < j.length → ((a0a j i).f4.length : Int) ≤ 1000000) : ∃ r, Ev (fun k => a1p.f k j l room) r ∧ tkS j l room r := by
 obtain ⟨m, ⟨K1, h1⟩, em⟩ := b3j j l (by omega)
 dsimp only at h1
 have bad : ∀ k, a1p.j0 (k + 1) j l room true = some (([] : List S56), 1) := fun k => by rw [a1p.j0, if_pos rfl]
 by_cases cm : m = true
 ·have hm := em.1 cm
  have hlen := hm.1
  by_cases c1 : room < 1
  ·refine ⟨_, ⟨K1 + 1, fun k hk => ?_⟩, .inr ⟨fun h => by have := h.2.1; omega, rfl⟩⟩
   obtain ⟨k, rfl⟩ : ∃ z, k = z + 1 := ⟨k - 1, by omega⟩
   dsimp only
   unfold a1p.f
   rw [h1 _ (by omega), Option.bind_some, if_pos cm, if_pos c1, bad]
  by_cases c2 : room > 64
  ·refine ⟨_, ⟨K1 + 1, fun k hk => ?_⟩, .inr ⟨fun h => by have := h.2.2.1; omega, rfl⟩⟩
   obtain ⟨k, rfl⟩ : ∃ z, k = z + 1 := ⟨k - 1, by omega⟩
   dsimp only
   unfold a1p.f
   rw [h1 _ (by omega), Option.bind_some, if_pos cm, if_neg c1, decide_eq_true c2, bad]
  have top : ∀ r, Ev (fun k => a1p.l0 k j room (tkN j l room (0 : Int).toNat) l (j.length : Int) 0) r → Ev (fun k => a1p.f k j l room) r := fun r ⟨K, hK⟩ => ⟨K1 + K + 1, fun k hk => by
   obtain ⟨k, rfl⟩ : ∃ z, k = z + 1 := ⟨k - 1, by omega⟩
   dsimp only at hK ⊢
   unfold a1p.f
   rw [h1 _ (by omega), Option.bind_some, if_pos cm, if_neg c1, decide_eq_false c2, a1p.j0, if_neg (by decide), hlen]
   exact hK k (by omega)⟩
  have step : ∀ (i : Int) (r : List S56 × Int), 0 ≤ i → i < j.length → stP (a0b l i).f1 (a0b l i).f2 → Ev (fun k => a1p.l0 k j room (tkN j l room (i + 1).toNat) l (j.length : Int) (i + 1)) r → Ev (fun k => a1p.l0 k j room (tkN j l room i.toNat) l (j.length : Int) i) r := fun i r i0 i1 hs ⟨K, hK⟩ => by
   obtain ⟨s, ⟨K3, h3⟩, es⟩ := c1x (a0b l i).f1 (a0b l i).f2
   obtain ⟨w, ⟨K4, h4⟩, ew⟩ := a8k (a0a j i).f4 (by have := hr i i0 (by omega); omega) room
   have hle := b0h j l room i.toNat
   dsimp only at hK h3 h4
   refine evUp (K + K3 + K4) fun k hk => ?_
   have hk2 := hK k (by omega)
   rw [show (i + 1).toNat = i.toNat + 1 by omega, tkN, Int.toNat_of_nonneg i0] at hk2
   rw [a1p.l0, if_pos (by omega), if_pos i0, if_pos (by omega), h3 k (by omega), Option.bind_some, if_pos (es.2 hs), if_pos (by omega), h4 k (by omega), Option.bind_some, w64 (by omega) (by omega)]
   by_cases c : w = true
   ·rw [if_pos c, if_pos (by omega)]
    rw [@if_pos _ (Classical.propDecidable _) (ew.1 c)] at hk2
    exact hk2
   ·rw [if_neg c]
    rw [@if_neg _ (Classical.propDecidable _) (fun h => c (ew.2 h))] at hk2
    exact hk2
  by_cases call : ∀ i : Int, 0 ≤ i → i < j.length → stP (a0b l i).f1 (a0b l i).f2
  ·have hP : tkP j l room := ⟨hm, by omega, by omega, call⟩
   have htl := b0h j l room j.length
   obtain ⟨r, ⟨K2, h2⟩, g1, g2, g3⟩ := b7q (tkN j l room j.length) (by omega) (b6l hP)
   dsimp only at h2
   refine ⟨(r, 0), top _ ?_, .inl ⟨hP, rfl, g1, g2, Nat.le_trans g3 htl⟩⟩
   have loop : ∀ (n : Nat) (i : Int), 0 ≤ i → i + n = j.length → Ev (fun k => a1p.l0 k j room (tkN j l room i.toNat) l (j.length : Int) i) (r, 0) := by
    intro n
    induction n with
    | zero =>
     intro i i0 hi
     exact evUp K2 fun k hk => by rw [a1p.l0, if_neg (by omega), show i.toNat = j.length by omega, h2 k hk, Option.bind_some]
    | succ n ih =>
     intro i i0 hi
     exact step i _ i0 (by omega) (call i i0 (by omega)) (ih (i + 1) (by omega) (by omega))
   exact loop j.length 0 (by omega) (by omega)
  ·refine ⟨_, top _ ?_, .inr ⟨fun h => call h.2.2.2, rfl⟩⟩
   obtain ⟨a, a0, a1, ha⟩ : ∃ a : Int, 0 ≤ a ∧ a < j.length ∧ ¬ stP (a0b l a).f1 (a0b l a).f2 := Classical.byContradiction fun h => call fun i i0 i1 => Classical.byContradiction fun g => h ⟨i, i0, i1, g⟩
   have no : ∀ i : Int, 0 ≤ i → i < j.length → ¬ stP (a0b l i).f1 (a0b l i).f2 → Ev (fun k => a1p.l0 k j room (tkN j l room i.toNat) l (j.length : Int) i) (([] : List S56), 1) := fun i i0 i1 h => by
    obtain ⟨s, ⟨K3, h3⟩, es⟩ := c1x (a0b l i).f1 (a0b l i).f2
    dsimp only at h3
    exact evUp K3 fun k hk => by rw [a1p.l0, if_pos (by omega), if_pos i0, if_pos (by omega), h3 k hk, Option.bind_some, if_neg (fun g => h (es.1 g))]
   rcases a5h (fun i k => a1p.l0 k j room (tkN j l room i.toNat) l (j.length : Int) i) a a0 (fun i => stP (a0b l i).f1 (a0b l i).f2) (fun _ => (([] : List S56), 1)) (([] : List S56), 1) (no a a0 a1 ha)
    (fun i i0 i1 h => no i i0 (by omega) h) (fun i r i0 i1 h hK => step i r i0 (by omega) h hK) with ⟨_, h⟩ | ⟨_, _, _, _, _, h⟩
   ·exact h
   ·exact h
 ·refine ⟨_, ⟨K1 + 1, fun k hk => ?_⟩, .inr ⟨fun h => cm (em.2 h.1), rfl⟩⟩
  obtain ⟨k, rfl⟩ : ∃ z, k = z + 1 := ⟨k - 1, by omega⟩
  dsimp only
  unfold a1p.f
  rw [h1 _ (by omega), Option.bind_some, if_neg cm, bad]
theorem b6t (j : List S51) (l : List S42) (room : Int) (hj : j.length ≤ 60) (hr : ∀ i : Int, 0 ≤ i → i < j.length → ((a0a j i).f4.length : Int) ≤ 1000000) : ∃ r, Ev (fun k => a0j.f k j l room) r ∧ tkS j l room r := by
 obtain ⟨m, ⟨K1, h1⟩, em⟩ := b5z j l (by omega)
 dsimp only at h1
 have bad : ∀ k, a0j.j0 (k + 1) j l room true = some (([] : List S56), 1) := fun k => by rw [a0j.j0, if_pos rfl]
 by_cases cm : m = true
 ·have hm := em.1 cm
  have hlen := hm.1
  by_cases c1 : room < 1
  ·refine ⟨_, ⟨K1 + 1, fun k hk => ?_⟩, .inr ⟨fun h => by have := h.2.1; omega, rfl⟩⟩
   obtain ⟨k, rfl⟩ : ∃ z, k = z + 1 := ⟨k - 1, by omega⟩
   dsimp only
   unfold a0j.f
   rw [h1 _ (by omega), Option.bind_some, if_pos cm, if_pos c1, bad]
  by_cases c2 : room > 64
  ·refine ⟨_, ⟨K1 + 1, fun k hk => ?_⟩, .inr ⟨fun h => by have := h.2.2.1; omega, rfl⟩⟩
   obtain ⟨k, rfl⟩ : ∃ z, k = z + 1 := ⟨k - 1, by omega⟩
   dsimp only
   unfold a0j.f
   rw [h1 _ (by omega), Option.bind_some, if_pos cm, if_neg c1, decide_eq_true c2, bad]
  have top : ∀ r, Ev (fun k => a0j.l0 k j l room (tkN j l room (0 : Int).toNat) 0) r → Ev (fun k => a0j.f k j l room) r := fun r ⟨K, hK⟩ => ⟨K1 + K + 1, fun k hk => by
   obtain ⟨k, rfl⟩ : ∃ z, k = z + 1 := ⟨k - 1, by omega⟩
   dsimp only at hK ⊢
   unfold a0j.f
   rw [h1 _ (by omega), Option.bind_some, if_pos cm, if_neg c1, decide_eq_false c2, a0j.j0, if_neg (by decide)]
   exact hK k (by omega)⟩
  have step : ∀ (i : Int) (r : List S56 × Int), 0 ≤ i → i < j.length → stP (a0b l i).f1 (a0b l i).f2 → Ev (fun k => a0j.l0 k j l room (tkN j l room (i + 1).toNat) (i + 1)) r → Ev (fun k => a0j.l0 k j l room (tkN j l room i.toNat) i) r := fun i r i0 i1 hs ⟨K, hK⟩ => by
   obtain ⟨s, e3, es⟩ := a7i (a0b l i).f1 (a0b l i).f2
   obtain ⟨w, ⟨K4, h4⟩, ew⟩ := b5d (a0a j i).f4 (by have := hr i i0 (by omega); omega) room
   have hle := b0h j l room i.toNat
   dsimp only at hK h4
   refine evUp (K + K4) fun k hk => ?_
   have hk2 := hK k (by omega)
   rw [show (i + 1).toNat = i.toNat + 1 by omega, tkN, Int.toNat_of_nonneg i0] at hk2
   rw [a0j.l0, if_pos (by omega), if_pos i0, e3, Option.bind_some, if_pos (es.2 hs), if_pos (by omega), h4 k (by omega), Option.bind_some, w64 (by omega) (by omega)]
   by_cases c : w = true
   ·rw [if_pos c, if_pos (by omega)]
    rw [@if_pos _ (Classical.propDecidable _) (ew.1 c)] at hk2
    exact hk2
   ·rw [if_neg c]
    rw [@if_neg _ (Classical.propDecidable _) (fun h => c (ew.2 h))] at hk2
    exact hk2
  by_cases call : ∀ i : Int, 0 ≤ i → i < j.length → stP (a0b l i).f1 (a0b l i).f2
  ·have hP : tkP j l room := ⟨hm, by omega, by omega, call⟩
   have htl := b0h j l room j.length
   obtain ⟨r, _, g1, g2, g3⟩ := b7q (tkN j l room j.length) (by omega) (b6l hP)
   obtain ⟨K2, h2⟩ := b8t (tkN j l room j.length) r (by omega) (b6l hP) g1 (by omega) g2
   dsimp only at h2
   refine ⟨(r, 0), top _ ?_, .inl ⟨hP, rfl, g1, g2, Nat.le_trans g3 htl⟩⟩
   have loop : ∀ (n : Nat) (i : Int), 0 ≤ i → i + n = j.length → Ev (fun k => a0j.l0 k j l room (tkN j l room i.toNat) i) (r, 0) := by
    intro n
    induction n with
    | zero =>
     intro i i0 hi
     exact evUp K2 fun k hk => by rw [a0j.l0, if_neg (by omega), show i.toNat = j.length by omega, h2 k hk, Option.bind_some, if_pos rfl]
    | succ n ih =>
     intro i i0 hi
     exact step i _ i0 (by omega) (call i i0 (by omega)) (ih (i + 1) (by omega) (by omega))
   exact loop j.length 0 (by omega) (by omega)
  ·refine ⟨_, top _ ?_, .inr ⟨fun h => call h.2.2.2, rfl⟩⟩
   obtain ⟨a, a0, a1, ha⟩ : ∃ a : Int, 0 ≤ a ∧ a < j.length ∧ ¬ stP (a0b l a).f1 (a0b l a).f2 := Classical.byContradiction fun h => call fun i i0 i1 => Classical.byContradiction fun g => h ⟨i, i0, i1, g⟩
   have no : ∀ i : Int, 0 ≤ i → i < j.length → ¬ stP (a0b l i).f1 (a0b l i).f2 → Ev (fun k => a0j.l0 k j l room (tkN j l room i.toNat) i) (([] : List S56), 1) := fun i i0 i1 h => by
    obtain ⟨s, e3, es⟩ := a7i (a0b l i).f1 (a0b l i).f2
    exact evUp 0 fun k hk => by rw [a0j.l0, if_pos (by omega), if_pos i0, e3, Option.bind_some, if_neg (fun g => h (es.1 g))]
   rcases a5h (fun i k => a0j.l0 k j l room (tkN j l room i.toNat) i) a a0 (fun i => stP (a0b l i).f1 (a0b l i).f2) (fun _ => (([] : List S56), 1)) (([] : List S56), 1) (no a a0 a1 ha)
    (fun i i0 i1 h => no i i0 (by omega) h) (fun i r i0 i1 h hK => step i r i0 (by omega) h hK) with ⟨_, h⟩ | ⟨_, _, _, _, _, h⟩
   ·exact h
   ·exact h
 ·refine ⟨_, ⟨K1 + 1, fun k hk => ?_⟩, .inr ⟨fun h => cm (em.2 h.1), rfl⟩⟩
  obtain ⟨k, rfl⟩ : ∃ z, k = z + 1 := ⟨k - 1, by omega⟩
  dsimp only
  unfold a0j.f
  rw [h1 _ (by omega), Option.bind_some, if_neg cm, bad]
end Go.Proofs.Ytheibjkjmkanoaa.Wk
