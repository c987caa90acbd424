/- The stable sort of assignments by their days, first part: exchanges of pieces, and the sort by insertion. Conditions: as each theorem states. -/
import Derived.Test.YtfbgkcadnmcakaaPx6
import Derived.Test.YtfbgkcadnmcakaaPx7
namespace Go.Proofs.Ytfbgkcadnmcakaa.Cl
open Go.RowKit Go.Proofs.YtfbgkcadnmcakaaW.PrintWords Go.Proofs.Ytfbgkcadnmcakaa.Given Go.Proofs.Ytfbgkcadnmcakaa.Px
set_option linter.unusedVariables false
set_option linter.unusedSimpArgs false
theorem w64 {x : Int} (h : -9223372036854775808 ≤ x) (h2 : x ≤ 9223372036854775807) : wrap64 x = x := by unfold wrap64; omega
theorem u64w {x : Int} (h : 0 ≤ x) (h2 : x ≤ 9223372036854775807) : IntKind.u64.wrap x = x := by
  show x % 18446744073709551616 = x
  omega
theorem evUp {α : Type} {g : Nat → Option α} {r : α} (K : Nat) (h : ∀ k, K ≤ k → g (k + 1) = some r) : Ev g r :=
  ⟨K + 1, fun k hk => by
    obtain ⟨j, rfl⟩ : ∃ j, k = j + 1 := ⟨k - 1, by omega⟩
    exact h j (by omega)⟩
theorem half {x y : Int} (h0 : 0 ≤ x) (h1 : 0 ≤ y) (h2 : x ≤ 1000000000) (h3 : y ≤ 1000000000) : wrap64 (IntKind.u64.wrap (wrap64 (x + y)) / 2) = (x + y) / 2 := by
  rw [w64 (x := x + y) (by omega) (by omega), u64w (by omega) (by omega), w64 (by omega) (by omega)]
theorem b0f (l : List S26) (k j : Int) (v : S26) (h0 : 0 ≤ k) (h1 : k < l.length) (j0 : 0 ≤ j) : a0c (l.set k.toNat v) j = if j = k then v else a0c l j := by
  unfold a0c
  by_cases c : j = k
  · subst c
    rw [if_pos rfl, List.getD_eq_getElem?_getD, List.getElem?_set_self (by omega), Option.getD_some]
  · rw [if_neg c, List.getD_eq_getElem?_getD, List.getElem?_set_ne (by omega), List.getD_eq_getElem?_getD]
def sw (l : List S26) (i j : Int) : List S26 := (l.set i.toNat (a0c l j)).set j.toNat (a0c l i)
theorem a4l (l : List S26) (i j : Int) : (sw l i j).length = l.length := by
  unfold sw
  rw [List.length_set, List.length_set]
theorem a4t {l : List S26} {i j : Int} (i0 : 0 ≤ i) (i1 : i < l.length) (j0 : 0 ≤ j) (j1 : j < l.length) {p : Int} (p0 : 0 ≤ p) : a0c (sw l i j) p = if p = j then a0c l i else if p = i then a0c l j else a0c l p := by
  unfold sw
  rw [b0f _ _ _ _ j0 (by rw [List.length_set]; exact j1) p0, b0f _ _ _ _ i0 i1 p0]
def dy (l : List S26) (i : Int) : Int := (a0c l i).f3
def a4p (l r : List S26) : Prop := ∀ d : Int, l.filter (fun x => decide (x.f3 = d)) = r.filter (fun x => decide (x.f3 = d))
theorem a4p.refl (l : List S26) : a4p l l := fun _ => rfl
theorem a4p.trans {a b c : List S26} (h : a4p a b) (k : a4p b c) : a4p a c := fun d => (h d).trans (k d)
theorem b4j {l r : List S26} (hl : l.length = r.length) (h : ∀ p : Int, 0 ≤ p → p < l.length → a0c l p = a0c r p) : l = r := by
  refine List.ext_getElem hl fun i h1 h2 => ?_
  have k := h i (by omega) (by omega)
  unfold a0c at k
  rw [List.getD_eq_getElem?_getD, List.getD_eq_getElem?_getD, Int.toNat_natCast, List.getElem?_eq_getElem h1, List.getElem?_eq_getElem h2] at k
  exact k
theorem a7v (a b : List S26) (p : Int) (p0 : 0 ≤ p) : a0c (a ++ b) p = if p < a.length then a0c a p else a0c b (p - a.length) := by
  unfold a0c
  rw [List.getD_eq_getElem?_getD, List.getD_eq_getElem?_getD, List.getD_eq_getElem?_getD]
  by_cases c : p < a.length
  · rw [if_pos c, List.getElem?_append_left (by omega)]
  · rw [if_neg c, List.getElem?_append_right (by omega)]
    congr 2
    omega
theorem a7g (a : List S26) (n : Nat) (p : Int) (p0 : 0 ≤ p) (h : p < n) : a0c (a.take n) p = a0c a p := by
  unfold a0c
  rw [List.getD_eq_getElem?_getD, List.getD_eq_getElem?_getD, List.getElem?_take, if_pos (by omega)]
theorem a7h (a : List S26) (n : Nat) (p : Int) (p0 : 0 ≤ p) : a0c (a.drop n) p = a0c a (p + n) := by
  unfold a0c
  rw [List.getD_eq_getElem?_getD, List.getD_eq_getElem?_getD, List.getElem?_drop]
  congr 2
  omega
def Rot (l r : List S26) (lo mid hi : Int) : Prop := r.length = l.length ∧ ∀ p : Int, 0 ≤ p → p < l.length →
  a0c r p = if lo ≤ p ∧ p < lo + (hi - mid) then a0c l (p + (mid - lo)) else if lo + (hi - mid) ≤ p ∧ p < hi then a0c l (p - (hi - mid)) else a0c l p
theorem Rot.list {l r : List S26} {lo mid hi : Int} (h : Rot l r lo mid hi) (h0 : 0 ≤ lo) (h1 : lo ≤ mid) (h2 : mid ≤ hi) (h3 : hi ≤ l.length) :
    r = l.take lo.toNat ++ ((l.drop mid.toNat).take (hi - mid).toNat ++ ((l.drop lo.toNat).take (mid - lo).toNat ++ l.drop hi.toNat)) := by
  have e1 : (l.take lo.toNat).length = lo.toNat := by rw [List.length_take]; omega
  have e2 : ((l.drop mid.toNat).take (hi - mid).toNat).length = (hi - mid).toNat := by rw [List.length_take, List.length_drop]; omega
  have e3 : ((l.drop lo.toNat).take (mid - lo).toNat).length = (mid - lo).toNat := by rw [List.length_take, List.length_drop]; omega
  have e4 : (l.drop hi.toNat).length = l.length - hi.toNat := List.length_drop
  refine b4j (by simp only [List.length_append, e1, e2, e3, e4]; have := h.1; omega) fun p p0 p1 => ?_
  rw [h.1] at p1
  rw [h.2 p p0 p1, a7v _ _ _ p0, e1]
  by_cases c1 : p < lo
  · rw [if_neg (by omega), if_neg (by omega), if_pos (by omega), a7g _ _ _ p0 (by omega)]
  · rw [if_neg (show ¬ p < (lo.toNat : Int) by omega), a7v _ _ _ (by omega), e2]
    by_cases c2 : p < lo + (hi - mid)
    · rw [if_pos (by omega), if_pos (by omega), a7g _ _ _ (by omega) (by omega), a7h _ _ _ (by omega)]
      congr 1
      omega
    · rw [if_neg (by omega), if_neg (show ¬ p - (lo.toNat : Int) < ((hi - mid).toNat : Int) by omega), a7v _ _ _ (by omega), e3]
      by_cases c3 : p < hi
      · rw [if_pos (by omega), if_pos (by omega), a7g _ _ _ (by omega) (by omega), a7h _ _ _ (by omega)]
        congr 1
        omega
      · rw [if_neg (by omega), if_neg (by omega), a7h _ _ _ (by omega)]
        congr 1
        omega
theorem b5t (l : List S26) {lo mid hi : Int} (h0 : 0 ≤ lo) (h1 : lo ≤ mid) (h2 : mid ≤ hi) :
    l = l.take lo.toNat ++ ((l.drop lo.toNat).take (mid - lo).toNat ++ ((l.drop mid.toNat).take (hi - mid).toNat ++ l.drop hi.toNat)) := by
  have e1 : (l.drop mid.toNat).drop (hi - mid).toNat = l.drop hi.toNat := by rw [List.drop_drop]; congr 1; omega
  have e2 : (l.drop lo.toNat).drop (mid - lo).toNat = l.drop mid.toNat := by rw [List.drop_drop]; congr 1; omega
  rw [← e1, List.take_append_drop, ← e2, List.take_append_drop, List.take_append_drop]
theorem a9g {l : List S26} {a n : Nat} {x : S26} (h : x ∈ (l.drop a).take n) : ∃ p : Int, (a : Int) ≤ p ∧ p < a + n ∧ p < l.length ∧ a0c l p = x := by
  obtain ⟨i, hi, e⟩ := List.mem_iff_getElem.mp h
  rw [List.length_take, List.length_drop] at hi
  refine ⟨((a + i : Nat) : Int), by omega, by omega, by omega, ?_⟩
  rw [List.getElem_take, List.getElem_drop] at e
  unfold a0c
  rw [List.getD_eq_getElem?_getD, Int.toNat_natCast, List.getElem?_eq_getElem (by omega), Option.getD_some, e]
theorem Rot.same {l r : List S26} {lo mid hi : Int} (h : Rot l r lo mid hi) (h0 : 0 ≤ lo) (h1 : lo ≤ mid) (h2 : mid ≤ hi) (h3 : hi ≤ l.length)
    (hs : ∀ p q : Int, lo ≤ p → p < mid → mid ≤ q → q < hi → dy l q < dy l p) : a4p l r := by
  intro d
  conv => lhs; rw [b5t l h0 h1 h2]
  rw [h.list h0 h1 h2 h3]
  simp only [List.filter_append]
  congr 1
  rw [← List.append_assoc, ← List.append_assoc]
  congr 1
  by_cases c : (((l.drop lo.toNat).take (mid - lo).toNat).filter (fun x => decide (x.f3 = d))) = []
  · rw [c, List.nil_append, List.append_nil]
  · have c2 : (((l.drop mid.toNat).take (hi - mid).toNat).filter (fun x => decide (x.f3 = d))) = [] := by
      rw [List.filter_eq_nil_iff]
      intro x hx
      obtain ⟨y, hy⟩ := List.exists_mem_of_ne_nil _ c
      rw [List.mem_filter, decide_eq_true_eq] at hy
      obtain ⟨p, p0, p1, p2, rfl⟩ := a9g hy.1
      obtain ⟨q, q0, q1, q2, rfl⟩ := a9g hx
      have := hs p q (by omega) (by omega) (by omega) (by omega)
      unfold dy at this
      rw [decide_eq_true_eq]
      omega
    rw [c2, List.nil_append, List.append_nil]
theorem b5u {l : List S26} {i : Int} (i0 : 0 ≤ i) (i1 : i + 1 < l.length) : Rot l (sw l i (i + 1)) i (i + 1) (i + 2) := by
  refine ⟨a4l _ _ _, fun p p0 p1 => ?_⟩
  rw [a4t i0 (by omega) (by omega) i1 p0]
  by_cases c : p = i
  · subst c
    rw [if_neg (by omega), if_pos rfl, if_pos (by omega)]
    congr 1
    omega
  · by_cases d : p = i + 1
    · subst d
      rw [if_pos rfl, if_neg (by omega), if_pos (by omega)]
      congr 1
      omega
    · rw [if_neg d, if_neg c, if_neg (by omega), if_neg (by omega)]
theorem b1e {l : List S26} {i j : Int} (i0 : 0 ≤ i) (i1 : i < l.length) (j0 : 0 ≤ j) (j1 : j < l.length) : sw l i j = sw l j i := by
  refine b4j (by rw [a4l, a4l]) fun p p0 p1 => ?_
  rw [a4t i0 i1 j0 j1 p0, a4t j0 j1 i0 i1 p0]
  by_cases c : p = i
  · by_cases d : p = j
    · rw [if_pos d, if_pos c, ← c, ← d]
    · rw [if_neg d, if_pos c, if_pos c]
  · by_cases d : p = j
    · rw [if_pos d, if_neg c, if_pos d]
    · rw [if_neg d, if_neg c, if_neg c, if_neg d]
theorem b4z {l : List S26} {i : Int} (i0 : 0 ≤ i) (i1 : i + 1 < l.length) (h : dy l (i + 1) < dy l i) : a4p l (sw l i (i + 1)) :=
  (b5u i0 i1).same i0 (by omega) (by omega) (by omega) fun p q a b c d => by
    obtain rfl : p = i := by omega
    obtain rfl : q = p + 1 := by omega
    exact h
theorem b0g (x : Int) : cmp_isNaN_int.f x = some false := by
  unfold cmp_isNaN_int.f
  simp
theorem cmp_eq (a b c d e f g h : Int) : a1v.f a b c d e f g h = some (if d < h then -1 else if d > h then 1 else 0) := by
  unfold a1v.f cmp_Compare_int.f
  rw [b0g, b0g]
  simp only [Option.bind_some]
  rw [if_neg (by simp), if_neg (by simp)]
  by_cases c1 : d < h
  · rw [if_pos c1, if_pos c1]
    rfl
  · rw [if_neg c1, if_neg c1]
    by_cases c2 : d > h
    · rw [if_pos c2, if_pos c2]; rfl
    · rw [if_neg c2, if_neg c2]; rfl
theorem a5h (d h : Int) : (if d < h then (-1 : Int) else if d > h then 1 else 0) < 0 ↔ d < h := by
  by_cases c1 : d < h
  · rw [if_pos c1]; exact ⟨fun _ => c1, fun _ => by omega⟩
  · rw [if_neg c1]
    split <;> exact ⟨fun h => by omega, fun h => by omega⟩
theorem b3u {a b N : Int} (a0 : 0 ≤ a) (hab : a + N ≤ b) : ∀ (n : Nat) (i : Int) (l : List S26), l.length ≤ 1000000000 → 0 ≤ i → i + n = N → b + N ≤ l.length →
    ∃ r, Ev (fun k => a0k.l0 k l a b N i) r ∧ r.length = l.length ∧ ∀ p : Int, 0 ≤ p → p < l.length → a0c r p = if a + i ≤ p ∧ p < a + N then a0c l (p - a + b) else if b + i ≤ p ∧ p < b + N then a0c l (p - b + a) else a0c l p := by
  intro n
  induction n with
  | zero =>
    intro i l hl h0 hi hb
    refine ⟨l, evUp 0 fun k _ => ?_, rfl, fun p p0 p1 => ?_⟩
    · rw [a0k.l0, if_neg (by omega)]
    · rw [if_neg (by omega), if_neg (by omega)]
  | succ n ih =>
    intro i l hl h0 hi hb
    obtain ⟨r, ⟨K, hK⟩, hr, hp⟩ := ih (i + 1) (sw l (a + i) (b + i)) (by rw [a4l]; exact hl) (by omega) (by omega) (by rw [a4l]; exact hb)
    rw [a4l] at hr hp
    refine ⟨r, evUp K fun k hk => ?_, hr, fun p p0 p1 => ?_⟩
    · rw [a0k.l0, if_pos (by omega), w64 (x := b + i) (by omega) (by omega), w64 (x := a + i) (by omega) (by omega), if_pos (by omega), if_pos (by omega), if_pos (by omega), if_pos (by omega), w64 (x := i + 1) (by omega) (by omega)]
      exact hK k hk
    · rw [hp p p0 p1]
      by_cases c1 : a + i ≤ p ∧ p < a + N
      · by_cases c2 : p = a + i
        · rw [if_neg (by omega), if_neg (by omega), a4t (by omega) (by omega) (by omega) (by omega) p0, if_neg (by omega), if_pos c2, if_pos c1]
          congr 1
          omega
        · rw [if_pos (by omega), if_pos c1, a4t (by omega) (by omega) (by omega) (by omega) (by omega), if_neg (by omega), if_neg (by omega)]
      · rw [if_neg c1, if_neg (by omega)]
        by_cases c3 : b + i ≤ p ∧ p < b + N
        · by_cases c4 : p = b + i
          · rw [if_neg (by omega), a4t (by omega) (by omega) (by omega) (by omega) p0, if_pos c4, if_pos c3]
            congr 1
            omega
          · rw [if_pos (by omega), if_pos c3, a4t (by omega) (by omega) (by omega) (by omega) (by omega), if_neg (by omega), if_neg (by omega)]
        · rw [if_neg (by omega), if_neg c3, a4t (by omega) (by omega) (by omega) (by omega) p0, if_neg (by omega), if_neg (by omega)]
theorem a7w {a b N : Int} (a0 : 0 ≤ a) (n0 : 0 ≤ N) (hab : a + N ≤ b) (l : List S26) (hl : l.length ≤ 1000000000) (hb : b + N ≤ l.length) :
    ∃ r, Ev (fun k => a0k.f k l a b N) r ∧ r.length = l.length ∧ ∀ p : Int, 0 ≤ p → p < l.length → a0c r p = if a ≤ p ∧ p < a + N then a0c l (p - a + b) else if b ≤ p ∧ p < b + N then a0c l (p - b + a) else a0c l p := by
  obtain ⟨r, h1, h2, h3⟩ := b3u a0 hab N.toNat 0 l hl (by omega) (by omega) hb
  refine ⟨r, h1, h2, fun p p0 p1 => ?_⟩
  rw [h3 p p0 p1, Int.add_zero, Int.add_zero]
theorem b5v {m : Int} : ∀ (n : Nat) (i j : Int) (l : List S26), l.length ≤ 1000000000 → 1 ≤ i → 1 ≤ j → i + j ≤ n → i ≤ m → m + j ≤ l.length →
    ∃ r, Ev (fun k => a0l.l0 k l m i j) r ∧ Rot l r (m - i) m (m + j) := by
  intro n
  induction n with
  | zero => intro i j l hl h1 h2 h3; omega
  | succ n ih =>
    intro i j l hl h1 h2 h3 h4 h5
    rcases Int.lt_trichotomy i j with c | c | c
    · obtain ⟨t, ⟨K, hK⟩, ht, hp⟩ := a7w (a := m - i) (b := m + j - i) (N := i) (by omega) (by omega) (by omega) l hl (by omega)
      obtain ⟨r, ⟨K2, hK2⟩, hr, hq⟩ := ih i (j - i) t (by omega) h1 (by omega) (by omega) h4 (by omega)
      dsimp only at hK hK2
      refine ⟨r, evUp (K + K2) fun k hk => ?_, by omega, fun p p0 p1 => ?_⟩
      · rw [a0l.l0, if_neg (by omega), if_neg (by omega), w64 (x := m - i) (by omega) (by omega), w64 (x := m + j) (by omega) (by omega), w64 (x := m + j - i) (by omega) (by omega), hK k (by omega), Option.bind_some, w64 (x := j - i) (by omega) (by omega)]
        exact hK2 k (by omega)
      · rw [hq p p0 (by omega)]
        by_cases c1 : m - i ≤ p ∧ p < m - i + (m + (j - i) - m)
        · rw [if_pos c1, hp _ (by omega) (by omega)]
          by_cases c2 : p < m
          · by_cases c3 : p + (m - (m - i)) < m
            · omega
            · rw [if_pos (show m - i ≤ p ∧ p < m - i + (m + j - m) by omega)]
              by_cases c4 : m + j - i ≤ p + (m - (m - i)) ∧ p + (m - (m - i)) < m + j - i + i
              · omega
              · rw [if_neg (by omega), if_neg c4]
          · rw [if_pos (show m - i ≤ p ∧ p < m - i + (m + j - m) by omega), if_neg (by omega), if_neg (by omega)]
        · rw [if_neg c1]
          by_cases c2 : m - i + (m + (j - i) - m) ≤ p ∧ p < m + (j - i)
          · rw [if_pos c2, hp _ (by omega) (by omega), if_pos (by omega), if_pos (show m - i ≤ p ∧ p < m - i + (m + j - m) by omega)]
            congr 1
            omega
          · rw [if_neg c2, hp _ p0 p1]
            by_cases c3 : p < m - i
            · rw [if_neg (by omega), if_neg (by omega), if_neg (by omega), if_neg (by omega)]
            · by_cases c4 : p < m + j
              · rw [if_neg (by omega), if_pos (by omega), if_neg (by omega), if_pos (by omega)]
                congr 1
                omega
              · rw [if_neg (by omega), if_neg (by omega), if_neg (by omega), if_neg (by omega)]
    · subst c
      obtain ⟨t, ⟨K, hK⟩, ht, hp⟩ := a7w (a := m - i) (b := m) (N := i) (by omega) (by omega) (by omega) l hl (by omega)
      dsimp only at hK
      refine ⟨t, evUp K fun k hk => ?_, ht, fun p p0 p1 => ?_⟩
      · rw [a0l.l0, if_pos rfl, w64 (x := m - i) (by omega) (by omega), hK k (by omega), Option.bind_some]
      · rw [hp p p0 p1]
        by_cases c1 : m - i ≤ p ∧ p < m
        · rw [if_pos (by omega), if_pos (by omega)]
          congr 1
          omega
        · rw [if_neg (show ¬ (m - i ≤ p ∧ p < m - i + i) by omega)]
          by_cases c2 : m ≤ p ∧ p < m + i
          · rw [if_pos c2, if_neg (by omega), if_pos (by omega)]
            congr 1
            omega
          · rw [if_neg c2, if_neg (by omega), if_neg (by omega)]
    · obtain ⟨t, ⟨K, hK⟩, ht, hp⟩ := a7w (a := m - i) (b := m) (N := j) (by omega) (by omega) (by omega) l hl (by omega)
      obtain ⟨r, ⟨K2, hK2⟩, hr, hq⟩ := ih (i - j) j t (by omega) (by omega) h2 (by omega) (by omega) (by omega)
      dsimp only at hK hK2
      refine ⟨r, evUp (K + K2) fun k hk => ?_, by omega, fun p p0 p1 => ?_⟩
      · rw [a0l.l0, if_neg (by omega), if_pos (by omega), w64 (x := m - i) (by omega) (by omega), hK k (by omega), Option.bind_some, w64 (x := i - j) (by omega) (by omega)]
        exact hK2 k (by omega)
      · rw [hq p p0 (by omega)]
        by_cases c1 : m - (i - j) ≤ p ∧ p < m - (i - j) + (m + j - m)
        · rw [if_pos c1, hp _ (by omega) (by omega)]
          by_cases c2 : p + (m - (m - (i - j))) < m
          · rw [if_neg (by omega), if_neg (by omega)]
            by_cases c3 : p < m - i + (m + j - m)
            · omega
            · rw [if_neg (by omega), if_pos (by omega)]
              congr 1
              omega
          · rw [if_neg (by omega), if_pos (by omega), if_neg (by omega), if_pos (by omega)]
            congr 1
            omega
        · rw [if_neg c1]
          by_cases c2 : m - (i - j) + (m + j - m) ≤ p ∧ p < m + j
          · rw [if_pos c2, hp _ (by omega) (by omega)]
            rw [if_neg (by omega), if_neg (show ¬ (m - i ≤ p ∧ p < m - i + (m + j - m)) by omega), if_pos (show m - i + (m + j - m) ≤ p ∧ p < m + j by omega)]
            by_cases c3 : m ≤ p - (m + j - m) ∧ p - (m + j - m) < m + j
            · omega
            · rw [if_neg c3]
          · rw [if_neg c2, hp _ p0 p1]
            by_cases c3 : p < m - i
            · rw [if_neg (by omega), if_neg (by omega), if_neg (by omega), if_neg (by omega)]
            · by_cases c4 : p < m + j
              · rw [if_pos (by omega), if_pos (by omega)]
                congr 1
                omega
              · rw [if_neg (by omega), if_neg (by omega), if_neg (by omega), if_neg (by omega)]
theorem b5w {a m b : Int} (l : List S26) (hl : l.length ≤ 1000000000) (h0 : 0 ≤ a) (h1 : a < m) (h2 : m < b) (h3 : b ≤ l.length) :
    ∃ r, Ev (fun k => a0l.f k l a m b) r ∧ Rot l r a m b := by
  obtain ⟨r, ⟨K, hK⟩, hr⟩ := b5v (m := m) ((m - a) + (b - m)).toNat (m - a) (b - m) l hl (by omega) (by omega) (by omega) (by omega) (by omega)
  rw [show m - (m - a) = a by omega, show m + (b - m) = b by omega] at hr
  refine ⟨r, ⟨K, fun k hk => ?_⟩, hr⟩
  show a0l.f k l a m b = _
  unfold a0l.f
  rw [w64 (x := m - a) (by omega) (by omega), w64 (x := b - m) (by omega) (by omega)]
  exact hK k hk
def Srt (l : List S26) (a b : Int) : Prop := ∀ p q : Int, a ≤ p → p < q → q < b → dy l p ≤ dy l q
structure Mg (l r : List S26) (a b : Int) : Prop where
  len : r.length = l.length
  out : ∀ p : Int, 0 ≤ p → p < l.length → (p < a ∨ b ≤ p) → a0c r p = a0c l p
  fr : ∀ p : Int, a ≤ p → p < b → ∃ q : Int, a ≤ q ∧ q < b ∧ a0c r p = a0c l q
  same : a4p l r
theorem Mg.refl (l : List S26) (a b : Int) : Mg l l a b := ⟨rfl, fun _ _ _ _ => rfl, fun p h1 h2 => ⟨p, h1, h2, rfl⟩, a4p.refl l⟩
theorem Mg.trans {l t r : List S26} {a b : Int} (h : Mg l t a b) (k : Mg t r a b) : Mg l r a b :=
  ⟨k.len.trans h.len, fun p p0 p1 p2 => (k.out p p0 (by rw [h.len]; exact p1) p2).trans (h.out p p0 p1 p2), fun p h1 h2 => by
    obtain ⟨q, q0, q1, q2⟩ := k.fr p h1 h2
    obtain ⟨s, s0, s1, s2⟩ := h.fr q q0 q1
    exact ⟨s, s0, s1, q2.trans s2⟩, h.same.trans k.same⟩
theorem Mg.wide {l r : List S26} {a b a' b' : Int} (h : Mg l r a b) (h0 : 0 ≤ a') (h1 : a' ≤ a) (h2 : b ≤ b') (h3 : b' ≤ l.length) : Mg l r a' b' :=
  ⟨h.len, fun p p0 p1 p2 => h.out p p0 p1 (by omega), fun p p0 p1 => by
    by_cases c : a ≤ p ∧ p < b
    · obtain ⟨q, q0, q1, q2⟩ := h.fr p c.1 c.2
      exact ⟨q, by omega, by omega, q2⟩
    · exact ⟨p, p0, p1, h.out p (by omega) (by omega) (by omega)⟩, h.same⟩
theorem Mg.srt {l r : List S26} {a b c d : Int} (h : Mg l r a b) (h0 : 0 ≤ c) (h1 : d ≤ l.length) (h2 : d ≤ a ∨ b ≤ c) (hs : Srt l c d) : Srt r c d := fun p q p0 pq q1 => by
  have := hs p q p0 pq q1
  unfold dy at *
  rw [h.out p (by omega) (by omega) (by omega), h.out q (by omega) (by omega) (by omega)]
  exact this
theorem Mg.sw {l : List S26} {a b i : Int} (h0 : 0 ≤ a) (h1 : a ≤ i) (h2 : i + 1 < b) (h3 : b ≤ l.length) (h : dy l (i + 1) < dy l i) : Mg l (sw l i (i + 1)) a b :=
  ⟨a4l _ _ _, fun p p0 p1 p2 => by rw [a4t (by omega) (by omega) (by omega) (by omega) p0, if_neg (by omega), if_neg (by omega)],
    fun p p0 p1 => by
      rw [a4t (by omega) (by omega) (by omega) (by omega) (by omega)]
      by_cases c : p = i + 1
      · exact ⟨i, h1, by omega, by rw [if_pos c]⟩
      · by_cases d : p = i
        · exact ⟨i + 1, by omega, h2, by rw [if_neg c, if_pos d]⟩
        · exact ⟨p, p0, p1, by rw [if_neg c, if_neg d]⟩,
    b4z (by omega) (by omega) h⟩
theorem b5x {a b : Int} (a0 : 0 ≤ a) : ∀ (n : Nat) (i : Int) (l : List S26), l.length ≤ 1000000000 → a ≤ i → i + n = b → b ≤ l.length → Srt l a i →
    ∃ r, Ev (fun k => a0f.l0 k l a b i) r ∧ Mg l r a b ∧ Srt r a b := by
  intro n
  induction n with
  | zero =>
    intro i l hl h0 hi hb hs
    obtain rfl : i = b := by omega
    refine ⟨l, evUp 0 fun k _ => ?_, Mg.refl l a i, hs⟩
    rw [a0f.l0, if_neg (by omega)]
  | succ n ih =>
    intro i l hl h0 hi hb hs
    have inner : ∀ (m : Nat) (j : Int) (t : List S26), t.length = l.length → j = a + m → j ≤ i → (∀ p q : Int, a ≤ p → p < q → q < i + 1 → p ≠ j → q ≠ j → dy t p ≤ dy t q) → (∀ q : Int, j < q → q < i + 1 → dy t j < dy t q) →
        ∃ r, Ev (fun k => a0f.l1 k t a b i j) r ∧ Mg t r a b ∧ Srt r a b := by
      intro m
      induction m with
      | zero =>
        intro j t ht hj hji h1 h2
        obtain ⟨r, ⟨K, hK⟩, hm, hr⟩ := ih (i + 1) t (by omega) (by omega) (by omega) (by omega) (fun p q p0 pq q1 => by
          by_cases c : p = j
          · subst c
            have := h2 q pq q1
            omega
          · exact h1 p q p0 pq q1 c (by omega))
        refine ⟨r, evUp K fun k hk => ?_, hm, hr⟩
        rw [a0f.l1, if_neg (by omega), w64 (x := i + 1) (by omega) (by omega)]
        exact hK k hk
      | succ m ih2 =>
        intro j t ht hj hji h1 h2
        by_cases c : dy t j < dy t (j - 1)
        · have e : sw t j (j - 1) = sw t (j - 1) (j - 1 + 1) := by
            rw [b1e (by omega) (by omega) (by omega) (by omega), show j - 1 + 1 = j by omega]
          have hat : ∀ p : Int, 0 ≤ p → dy (sw t j (j - 1)) p = if p = j - 1 then dy t j else if p = j then dy t (j - 1) else dy t p := fun p p0 => by
            unfold dy
            rw [a4t (by omega) (by omega) (by omega) (by omega) p0]
            split
            · rfl
            · split <;> rfl
          have hmg : Mg t (sw t j (j - 1)) a b := by
            rw [e]
            exact Mg.sw a0 (by omega) (by omega) (by omega) (by rw [show j - 1 + 1 = j by omega]; exact c)
          obtain ⟨r, ⟨K, hK⟩, hm, hr⟩ := ih2 (j - 1) (sw t j (j - 1)) (by rw [a4l]; exact ht) (by omega) (by omega) (fun p q p0 pq q1 pj qj => by
              rw [hat p (by omega), hat q (by omega), if_neg pj, if_neg qj]
              by_cases d : p = j
              · subst d
                rw [if_pos rfl, if_neg (by omega)]
                exact h1 (p - 1) q (by omega) (by omega) q1 (by omega) (by omega)
              · rw [if_neg d]
                by_cases f : q = j
                · rw [if_pos f]
                  exact h1 p (j - 1) p0 (by omega) (by omega) d (by omega)
                · rw [if_neg f]
                  exact h1 p q p0 pq q1 d f)
            (fun q q0 q1 => by
              rw [hat _ (by omega), hat _ (by omega), if_pos rfl, if_neg (by omega)]
              by_cases f : q = j
              · rw [if_pos f]; exact c
              · rw [if_neg f]; exact h2 q (by omega) q1)
          refine ⟨r, evUp K fun k hk => ?_, hmg.trans hm, hr⟩
          rw [a0f.l1, if_pos (by omega), if_pos (by omega), if_pos (by omega), w64 (x := j - 1) (by omega) (by omega), if_pos (by omega), if_pos (by omega), cmp_eq, Option.bind_some, if_pos ((a5h (a0c t j).f3 (a0c t (j - 1)).f3).mpr c)]
          exact hK k hk
        · obtain ⟨r, ⟨K, hK⟩, hm, hr⟩ := ih (i + 1) t (by omega) (by omega) (by omega) (by omega) (fun p q p0 pq q1 => by
            by_cases d : p = j
            · subst d
              have := h2 q pq q1
              omega
            · by_cases f : q = j
              · subst f
                by_cases g : p = q - 1
                · subst g; omega
                · have := h1 p (q - 1) p0 (by omega) (by omega) d (by omega)
                  omega
              · exact h1 p q p0 pq q1 d f)
          refine ⟨r, evUp K fun k hk => ?_, hm, hr⟩
          rw [a0f.l1, if_pos (by omega), if_pos (by omega), if_pos (by omega), w64 (x := j - 1) (by omega) (by omega), if_pos (by omega), if_pos (by omega), cmp_eq, Option.bind_some, if_neg (fun q => c ((a5h (a0c t j).f3 (a0c t (j - 1)).f3).mp q)), w64 (x := i + 1) (by omega) (by omega)]
          exact hK k hk
    obtain ⟨r, ⟨K, hK⟩, hm, hr⟩ := inner (i - a).toNat i l rfl (by omega) (by omega) (fun p q p0 pq q1 _ qi => hs p q p0 pq (by omega)) (fun q q0 q1 => by omega)
    refine ⟨r, evUp K fun k hk => ?_, hm, hr⟩
    rw [a0f.l0, if_pos (by omega)]
    exact hK k hk
theorem b0h {a b : Int} (l : List S26) (hl : l.length ≤ 1000000000) (a0 : 0 ≤ a) (hab : a ≤ b) (hb : b ≤ l.length) :
    ∃ r, Ev (fun k => a0f.f k l a b) r ∧ Mg l r a b ∧ Srt r a b := by
  by_cases c : a = b
  · subst c
    refine ⟨l, evUp 0 fun k _ => ?_, Mg.refl l a a, fun p q _ _ _ => by omega⟩
    unfold a0f.f
    rw [w64 (x := a + 1) (by omega) (by omega), a0f.l0, if_neg (by omega)]
  · obtain ⟨r, ⟨K, hK⟩, hm, hr⟩ := b5x a0 (b - (a + 1)).toNat (a + 1) l hl (by omega) (by omega) hb (fun p q _ _ _ => by omega)
    refine ⟨r, ⟨K, fun k hk => ?_⟩, hm, hr⟩
    show a0f.f k l a b = _
    unfold a0f.f
    rw [w64 (x := a + 1) (by omega) (by omega)]
    exact hK k hk
end Go.Proofs.Ytfbgkcadnmcakaa.Cl
