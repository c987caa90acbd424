/- The stable sort of assignments by their days, first part: exchanges of pieces, and the sort by insertion. Conditions: as each theorem states. -/
import Derived.Test.YtfbgkcadnmcakaaPx6
import Derived.Test.YtfbgkcadnmcakaaPx7
namespace Go.Proofs.Ytfbgkcadnmcakaa.Cl
open Go.RowKit Go.Proofs.YtfbgkcadnmcakaaW.PrintWords Go.Proofs.Ytfbgkcadnmcakaa.Given Go.Proofs.Ytfbgkcadnmcakaa.Px
set_option linter.unusedVariables false
set_option linter.unusedSimpArgs false
theorem w64 {x : Int} (h : -9223372036854775808 ≤ x) (h2 : x ≤ 9223372036854775807) : wrap64 x = x := by unfold wrap64; omega
theorem evUp {α : Type} {g : Nat → Option α} {r : α} (K : Nat) (h : ∀ k, K ≤ k → g (k + 1) = some r) : Ev g r :=
  ⟨K + 1, fun k hk => by
    obtain ⟨j, rfl⟩ : ∃ j, k = j + 1 := ⟨k - 1, by omega⟩
    exact h j (by omega)⟩
def dy (l : List S26) (i : Int) : Int := (a0c l i).f3
def a5z (l r : List S26) : Prop := ∀ d : Int, l.filter (fun x => decide (x.f3 = d)) = r.filter (fun x => decide (x.f3 = d))
theorem a5z.refl (l : List S26) : a5z l l := fun _ => rfl
theorem a5z.trans {a b c : List S26} (h : a5z a b) (k : a5z b c) : a5z a c := fun d => (h d).trans (k d)
theorem b5t {l r : List S26} (hl : l.length = r.length) (h : ∀ p : Int, 0 ≤ p → p < l.length → a0c l p = a0c r p) : l = r := by
  refine List.ext_getElem hl fun i h1 h2 => ?_
  have k := h i (by omega) (by omega)
  unfold a0c at k
  rw [List.getD_eq_getElem?_getD, List.getD_eq_getElem?_getD, Int.toNat_natCast, List.getElem?_eq_getElem h1, List.getElem?_eq_getElem h2] at k
  exact k
theorem a8e (a b : List S26) (p : Int) (p0 : 0 ≤ p) : a0c (a ++ b) p = if p < a.length then a0c a p else a0c b (p - a.length) := by
  unfold a0c
  rw [List.getD_eq_getElem?_getD, List.getD_eq_getElem?_getD, List.getD_eq_getElem?_getD]
  by_cases c : p < a.length
  · rw [if_pos c, List.getElem?_append_left (by omega)]
  · rw [if_neg c, List.getElem?_append_right (by omega)]
    congr 2
    omega
theorem a7t (a : List S26) (n : Nat) (p : Int) (p0 : 0 ≤ p) (h : p < n) : a0c (a.take n) p = a0c a p := by
  unfold a0c
  rw [List.getD_eq_getElem?_getD, List.getD_eq_getElem?_getD, List.getElem?_take, if_pos (by omega)]
theorem a7u (a : List S26) (n : Nat) (p : Int) (p0 : 0 ≤ p) : a0c (a.drop n) p = a0c a (p + n) := by
  unfold a0c
  rw [List.getD_eq_getElem?_getD, List.getD_eq_getElem?_getD, List.getElem?_drop]
  congr 2
  omega
def Rot (l r : List S26) (lo mid hi : Int) : Prop := r.length = l.length ∧ ∀ p : Int, 0 ≤ p → p < l.length →
  a0c r p = if lo ≤ p ∧ p < lo + (hi - mid) then a0c l (p + (mid - lo)) else if lo + (hi - mid) ≤ p ∧ p < hi then a0c l (p - (hi - mid)) else a0c l p
theorem Rot.list {l r : List S26} {lo mid hi : Int} (h : Rot l r lo mid hi) (h0 : 0 ≤ lo) (h1 : lo ≤ mid) (h2 : mid ≤ hi) (h3 : hi ≤ l.length) :
    r = l.take lo.toNat ++ ((l.drop mid.toNat).take (hi - mid).toNat ++ ((l.drop lo.toNat).take (mid - lo).toNat ++ l.drop hi.toNat)) := by
  have e1 : (l.take lo.toNat).length = lo.toNat := by rw [List.length_take]; omega
  have e2 : ((l.drop mid.toNat).take (hi - mid).toNat).length = (hi - mid).toNat := by rw [List.length_take, List.length_drop]; omega
  have e3 : ((l.drop lo.toNat).take (mid - lo).toNat).length = (mid - lo).toNat := by rw [List.length_take, List.length_drop]; omega
  have e4 : (l.drop hi.toNat).length = l.length - hi.toNat := List.length_drop
  refine b5t (by simp only [List.length_append, e1, e2, e3, e4]; have := h.1; omega) fun p p0 p1 => ?_
  rw [h.1] at p1
  rw [h.2 p p0 p1, a8e _ _ _ p0, e1]
  by_cases c1 : p < lo
  · rw [if_neg (by omega), if_neg (by omega), if_pos (by omega), a7t _ _ _ p0 (by omega)]
  · rw [if_neg (show ¬ p < (lo.toNat : Int) by omega), a8e _ _ _ (by omega), e2]
    by_cases c2 : p < lo + (hi - mid)
    · rw [if_pos (by omega), if_pos (by omega), a7t _ _ _ (by omega) (by omega), a7u _ _ _ (by omega)]
      congr 1
      omega
    · rw [if_neg (by omega), if_neg (show ¬ p - (lo.toNat : Int) < ((hi - mid).toNat : Int) by omega), a8e _ _ _ (by omega), e3]
      by_cases c3 : p < hi
      · rw [if_pos (by omega), if_pos (by omega), a7t _ _ _ (by omega) (by omega), a7u _ _ _ (by omega)]
        congr 1
        omega
      · rw [if_neg (by omega), if_neg (by omega), a7u _ _ _ (by omega)]
        congr 1
        omega
theorem b5a (l : List S26) {lo mid hi : Int} (h0 : 0 ≤ lo) (h1 : lo ≤ mid) (h2 : mid ≤ hi) :
    l = l.take lo.toNat ++ ((l.drop lo.toNat).take (mid - lo).toNat ++ ((l.drop mid.toNat).take (hi - mid).toNat ++ l.drop hi.toNat)) := by
  have e1 : (l.drop mid.toNat).drop (hi - mid).toNat = l.drop hi.toNat := by rw [List.drop_drop]; congr 1; omega
  have e2 : (l.drop lo.toNat).drop (mid - lo).toNat = l.drop mid.toNat := by rw [List.drop_drop]; congr 1; omega
  rw [← e1, List.take_append_drop, ← e2, List.take_append_drop, List.take_append_drop]
theorem a9k {l : List S26} {a n : Nat} {x : S26} (h : x ∈ (l.drop a).take n) : ∃ p : Int, (a : Int) ≤ p ∧ p < a + n ∧ p < l.length ∧ a0c l p = x := by
  obtain ⟨i, hi, e⟩ := List.mem_iff_getElem.mp h
  rw [List.length_take, List.length_drop] at hi
  refine ⟨((a + i : Nat) : Int), by omega, by omega, by omega, ?_⟩
  rw [List.getElem_take, List.getElem_drop] at e
  unfold a0c
  rw [List.getD_eq_getElem?_getD, Int.toNat_natCast, List.getElem?_eq_getElem (by omega), Option.getD_some, e]
theorem Rot.same {l r : List S26} {lo mid hi : Int} (h : Rot l r lo mid hi) (h0 : 0 ≤ lo) (h1 : lo ≤ mid) (h2 : mid ≤ hi) (h3 : hi ≤ l.length)
    (hs : ∀ p q : Int, lo ≤ p → p < mid → mid ≤ q → q < hi → dy l q < dy l p) : a5z l r := by
  intro d
  conv => lhs; rw [b5a l h0 h1 h2]
  rw [h.list h0 h1 h2 h3]
  simp only [List.filter_append]
  congr 1
  rw [← List.append_assoc, ← List.append_assoc]
  congr 1
  by_cases c : (((l.drop lo.toNat).take (mid - lo).toNat).filter (fun x => decide (x.f3 = d))) = []
  · rw [c, List.nil_append, List.append_nil]
  · have c2 : (((l.drop mid.toNat).take (hi - mid).toNat).filter (fun x => decide (x.f3 = d))) = [] := by
      rw [List.filter_eq_nil_iff]
      intro x hx
      obtain ⟨y, hy⟩ := List.exists_mem_of_ne_nil _ c
      rw [List.mem_filter, decide_eq_true_eq] at hy
      obtain ⟨p, p0, p1, p2, rfl⟩ := a9k hy.1
      obtain ⟨q, q0, q1, q2, rfl⟩ := a9k hx
      have := hs p q (by omega) (by omega) (by omega) (by omega)
      unfold dy at this
      rw [decide_eq_true_eq]
      omega
    rw [c2, List.nil_append, List.append_nil]
structure Mg (l r : List S26) (a b : Int) : Prop where
  len : r.length = l.length
  out : ∀ p : Int, 0 ≤ p → p < l.length → (p < a ∨ b ≤ p) → a0c r p = a0c l p
  fr : ∀ p : Int, a ≤ p → p < b → ∃ q : Int, a ≤ q ∧ q < b ∧ a0c r p = a0c l q
  same : a5z l r
theorem Mg.refl (l : List S26) (a b : Int) : Mg l l a b := ⟨rfl, fun _ _ _ _ => rfl, fun p h1 h2 => ⟨p, h1, h2, rfl⟩, a5z.refl l⟩
theorem Mg.trans {l t r : List S26} {a b : Int} (h : Mg l t a b) (k : Mg t r a b) : Mg l r a b :=
  ⟨k.len.trans h.len, fun p p0 p1 p2 => (k.out p p0 (by rw [h.len]; exact p1) p2).trans (h.out p p0 p1 p2), fun p h1 h2 => by
    obtain ⟨q, q0, q1, q2⟩ := k.fr p h1 h2
    obtain ⟨s, s0, s1, s2⟩ := h.fr q q0 q1
    exact ⟨s, s0, s1, q2.trans s2⟩, h.same.trans k.same⟩
end Go.Proofs.Ytfbgkcadnmcakaa.Cl
