/- The stable sort of assignments by their days, third part: blocks of twenty in order, merged until there is one. Conditions: as each theorem states. -/
import Derived.Test.YtfbgkcadnmcakaaClM
import Derived.Test.YtfbgkcadnmcakaaPx9
namespace Go.Proofs.Ytfbgkcadnmcakaa.Cl
open Go.RowKit Go.Proofs.YtfbgkcadnmcakaaW.PrintWords Go.Proofs.Ytfbgkcadnmcakaa.Given Go.Proofs.Ytfbgkcadnmcakaa.Px
set_option linter.unusedVariables false
set_option linter.unusedSimpArgs false
def Seg (l : List S26) (s n : Int) (k : Nat) : Prop := ∀ p q : Int, (k : Int) * s ≤ p → p < q → q < ((k : Int) + 1) * s → q < n → dy l p ≤ dy l q
theorem Seg.keep {l t : List S26} {lo hi s n : Int} {k : Nat} (h : Seg l s n k) (hm : Mg l t lo hi) (hn : n ≤ l.length) (h0 : 0 ≤ (k : Int) * s) (hd : ((k : Int) + 1) * s ≤ lo ∨ hi ≤ (k : Int) * s) : Seg t s n k := fun p q p0 pq q1 qn => by
  have := h p q p0 pq q1 qn
  unfold dy at *
  rw [hm.out p (by omega) (by omega) (by omega), hm.out q (by omega) (by omega) (by omega)]
  exact this
theorem Seg.srt {l : List S26} {lo hi s n : Int} {k : Nat} (h : Seg l s n k) (e1 : (k : Int) * s ≤ lo) (e2 : hi ≤ ((k : Int) + 1) * s) (e3 : hi ≤ n) : Srt l lo hi := fun p q p0 pq q1 => h p q (by omega) pq (by omega) (by omega)
theorem mulK {j k : Nat} {s : Int} (s0 : 0 ≤ s) (h : j ≤ k) : (j : Int) * s ≤ (k : Int) * s := Int.mul_le_mul_of_nonneg_right (by omega) s0
theorem b6v {n s : Int} (n0 : 0 ≤ n) (n1 : n ≤ 1000000000) (s0 : 1 ≤ s) (s1 : s ≤ 2000000000) : ∀ (f K : Nat) (l : List S26) (A : Int), (K : Int) * (2 * s) = A → (l.length : Int) = n → n - A ≤ f → A ≤ n → (∀ k, k < K → Seg l (2 * s) n k) → (∀ k, 2 * K ≤ k → Seg l s n k) →
    ∃ t, Mg l t 0 n ∧ (∀ k, Seg t (2 * s) n k) ∧ ∀ r, Ev (fun k => a0h.l1 k t n (2 * s)) r → Ev (fun k => a0h.l2 k l n s A (A + 2 * s)) r := by
  have w2 : wrap64 (2 * s) = 2 * s := w64 (by omega) (by omega)
  have w3 : wrap64 (s * 2) = 2 * s := by rw [Int.mul_comm]; exact w2
  have ss : 0 ≤ s := by omega
  have ss2 : 0 ≤ 2 * s := by omega
  have one : ∀ k : Nat, ((k : Int) + 1) * (2 * s) = (k : Int) * (2 * s) + 2 * s := fun k => by rw [Int.add_mul, Int.one_mul]
  have one' : ∀ k : Nat, ((k : Int) + 1) * s = (k : Int) * s + s := fun k => by rw [Int.add_mul, Int.one_mul]
  have nn : ∀ k : Nat, 0 ≤ (k : Int) * s := fun k => Int.mul_nonneg (by omega) ss
  have nn2 : ∀ k : Nat, 0 ≤ (k : Int) * (2 * s) := fun k => Int.mul_nonneg (by omega) ss2
  intro f
  induction f with
  | zero =>
    intro K l A hA hl hf ha h1 h2
    obtain rfl : A = n := by omega
    refine ⟨l, Mg.refl l 0 A, fun k => ?_, fun r ⟨K2, hK2⟩ => evUp K2 fun k hk => ?_⟩
    · by_cases c : k < K
      · exact h1 k c
      · intro p q p0 pq q1 qn
        have := mulK ss2 (show K ≤ k by omega)
        omega
    · rw [a0h.l2, if_neg (by omega), w64 (x := A + s) (by omega) (by omega), if_neg (by omega), w3]
      exact hK2 k hk
  | succ f ih =>
    intro K l A hA hl hf ha h1 h2
    have A0 : 0 ≤ A := by rw [← hA]; exact nn2 K
    have e2 : ((2 * K : Nat) : Int) * s = A := by rw [← hA, Int.natCast_mul, Int.mul_comm ((2 : Nat) : Int), Int.mul_assoc]; rfl
    have e3 : (((2 * K : Nat) : Int) + 1) * s = A + s := by rw [one', e2]
    have e4 : ((2 * K + 1 : Nat) : Int) * s = A + s := by rw [Int.natCast_add]; exact e3
    have e5 : (((2 * K + 1 : Nat) : Int) + 1) * s = A + 2 * s := by rw [one', e4]; omega
    have kp : ∀ k, k < K → ((k : Int) + 1) * (2 * s) ≤ A := fun k hk => by
      have := mulK ss2 (show k + 1 ≤ K by omega)
      rw [Int.natCast_add] at this
      rw [← hA]
      exact this
    by_cases c1 : A + 2 * s ≤ n
    · obtain ⟨t, ⟨K1, hK1⟩, hm, ho⟩ := b0i (2 * s).toNat A (A + s) (A + 2 * s) l (by omega) (by omega) A0 (by omega) (by omega) (by omega)
        ((h2 (2 * K) (by omega)).srt (by omega) (by omega) (by omega)) ((h2 (2 * K + 1) (by omega)).srt (by omega) (by omega) (by omega))
      have tl := hm.len
      obtain ⟨t2, hm2, hs2, hr⟩ := ih (K + 1) t (A + 2 * s) (by rw [← hA, ← one K]; rfl) (by omega) (by omega) c1
        (fun k hk => by
          by_cases d : k = K
          · subst d
            intro p q p0 pq q1 qn
            have := one k
            exact ho p q (by omega) pq (by omega)
          · exact (h1 k (by omega)).keep hm (by omega) (nn2 k) (.inl (kp k (by omega))))
        (fun k hk => (h2 k (by omega)).keep hm (by omega) (nn k) (.inr (by
          have := mulK ss (show 2 * K + 2 ≤ k by omega)
          have e6 : ((2 * K + 2 : Nat) : Int) * s = A + 2 * s := by rw [← e5, Int.natCast_add (2 * K + 1) 1]; rfl
          omega)))
      refine ⟨t2, (hm.wide (by omega) (by omega) c1 (by omega)).trans hm2, hs2, fun r h => ?_⟩
      obtain ⟨K2, hK2⟩ := hr r h
      refine evUp (K1 + K2) fun k hk => ?_
      dsimp only at hK1 hK2
      rw [a0h.l2, if_pos c1, w64 (x := A + s) (by omega) (by omega), hK1 k (by omega), Option.bind_some, w2, w64 (x := A + 2 * s + 2 * s) (by omega) (by omega)]
      exact hK2 k (by omega)
    · have last : ∀ t : List S26, Mg l t A n → Srt t A n → ∀ k, Seg t (2 * s) n k := fun t hm ho k => by
        rcases Nat.lt_trichotomy k K with d | d | d
        · exact (h1 k d).keep hm (by omega) (nn2 k) (.inl (kp k d))
        · subst d
          intro p q p0 pq q1 qn
          exact ho p q (by omega) pq qn
        · intro p q p0 pq q1 qn
          have := mulK ss2 (show K + 1 ≤ k by omega)
          rw [Int.natCast_add] at this
          have e6 := one K
          have e7 : ((K : Int) + ((1 : Nat) : Int)) * (2 * s) = A + 2 * s := by rw [← hA]; exact e6
          omega
      by_cases c2 : A + s < n
      · obtain ⟨t, ⟨K1, hK1⟩, hm, ho⟩ := b0i (2 * s).toNat A (A + s) n l (by omega) (by omega) A0 (by omega) (by omega) (by omega)
          ((h2 (2 * K) (by omega)).srt (by omega) (by omega) (by omega)) ((h2 (2 * K + 1) (by omega)).srt (by omega) (by omega) (by omega))
        refine ⟨t, hm.wide (by omega) (by omega) (by omega) (by omega), last t hm ho, fun r ⟨K2, hK2⟩ => evUp (K1 + K2) fun k hk => ?_⟩
        dsimp only at hK1 hK2
        rw [a0h.l2, if_neg c1, w64 (x := A + s) (by omega) (by omega), if_pos c2, hK1 k (by omega), Option.bind_some, w3]
        exact hK2 k (by omega)
      · refine ⟨l, Mg.refl l 0 n, last l (Mg.refl l A n) ((h2 (2 * K) (by omega)).srt (by omega) (by omega) (by omega)), fun r ⟨K2, hK2⟩ => evUp K2 fun k hk => ?_⟩
        rw [a0h.l2, if_neg c1, w64 (x := A + s) (by omega) (by omega), if_neg c2, w3]
        exact hK2 k hk
theorem b4n {n : Int} (n0 : 0 ≤ n) (n1 : n ≤ 1000000000) : ∀ (f : Nat) (s : Int) (l : List S26), (l.length : Int) = n → n - s ≤ f → 1 ≤ s → s ≤ 2000000000 → (∀ k, Seg l s n k) →
    ∃ r, Ev (fun k => a0h.l1 k l n s) r ∧ Mg l r 0 n ∧ Srt r 0 n := by
  intro f
  induction f with
  | zero =>
    intro s l hl hf s0 s1 h
    refine ⟨l, evUp 0 fun k _ => ?_, Mg.refl l 0 n, (h 0).srt (by simp) (by simp; omega) (by omega)⟩
    rw [a0h.l1, if_neg (by omega)]
  | succ f ih =>
    intro s l hl hf s0 s1 h
    by_cases c : s < n
    · obtain ⟨t, hm, ht, hr⟩ := b6v n0 n1 s0 s1 n.toNat 0 l 0 (by simp) hl (by omega) n0 (fun k hk => by omega) (fun k _ => h k)
      obtain ⟨r, hE, hm2, ho⟩ := ih (2 * s) t (by have := hm.len; omega) (by omega) (by omega) (by omega) ht
      obtain ⟨K, hK⟩ := hr r hE
      refine ⟨r, evUp K fun k hk => ?_, hm.trans hm2, ho⟩
      have e := hK k hk
      rw [Int.zero_add] at e
      rw [a0h.l1, if_pos c, w64 (x := 2 * s) (by omega) (by omega)]
      exact e
    · refine ⟨l, evUp 0 fun k _ => ?_, Mg.refl l 0 n, (h 0).srt (by simp) (by simp; omega) (by omega)⟩
      rw [a0h.l1, if_neg (by omega)]
theorem b6w {n : Int} (n0 : 0 ≤ n) (n1 : n ≤ 1000000000) : ∀ (f K : Nat) (l : List S26), (l.length : Int) = n → n - (K : Int) * 20 ≤ f → (K : Int) * 20 ≤ n → (∀ k, k < K → Seg l 20 n k) →
    ∃ r, Ev (fun k => a0h.l0 k l n 20 ((K : Int) * 20) ((K : Int) * 20 + 20)) r ∧ Mg l r 0 n ∧ Srt r 0 n := by
  intro f
  induction f with
  | zero =>
    intro K l hl hf ha h1
    obtain ⟨t, ⟨K1, hK1⟩, hm, ho⟩ := b0h (a := (K : Int) * 20) (b := n) l (by omega) (by omega) ha (by omega)
    obtain ⟨r, ⟨K2, hK2⟩, hm2, ho2⟩ := b4n n0 n1 n.toNat 20 t (by have := hm.len; omega) (by omega) (by omega) (by omega) (fun k => by
      by_cases c : k < K
      · exact (h1 k c).keep hm (by omega) (by omega) (by omega)
      · intro p q p0 pq q1 qn
        exact ho p q (by omega) pq qn)
    refine ⟨r, evUp (K1 + K2) fun k hk => ?_, (hm.wide (by omega) (by omega) (by omega) (by omega)).trans hm2, ho2⟩
    dsimp only at hK1 hK2
    rw [a0h.l0, if_neg (by omega), hK1 k (by omega), Option.bind_some]
    exact hK2 k (by omega)
  | succ f ih =>
    intro K l hl hf ha h1
    by_cases c : (K : Int) * 20 + 20 ≤ n
    · obtain ⟨t, ⟨K1, hK1⟩, hm, ho⟩ := b0h (a := (K : Int) * 20) (b := (K : Int) * 20 + 20) l (by omega) (by omega) (by omega) (by omega)
      obtain ⟨r, ⟨K2, hK2⟩, hm2, ho2⟩ := ih (K + 1) t (by have := hm.len; omega) (by omega) (by omega) (fun k hk => by
        by_cases d : k < K
        · exact (h1 k d).keep hm (by omega) (by omega) (by omega)
        · intro p q p0 pq q1 qn
          exact ho p q (by omega) pq (by omega))
      refine ⟨r, evUp (K1 + K2) fun k hk => ?_, (hm.wide (by omega) (by omega) (by omega) (by omega)).trans hm2, ho2⟩
      have e := hK2 k (by omega)
      dsimp only at hK1 e
      rw [show ((K + 1 : Nat) : Int) * 20 = (K : Int) * 20 + 20 by omega] at e
      rw [a0h.l0, if_pos c, hK1 k (by omega), Option.bind_some, w64 (x := (K : Int) * 20 + 20 + 20) (by omega) (by omega)]
      exact e
    · obtain ⟨t, ⟨K1, hK1⟩, hm, ho⟩ := b0h (a := (K : Int) * 20) (b := n) l (by omega) (by omega) ha (by omega)
      obtain ⟨r, ⟨K2, hK2⟩, hm2, ho2⟩ := b4n n0 n1 n.toNat 20 t (by have := hm.len; omega) (by omega) (by omega) (by omega) (fun k => by
        by_cases c : k < K
        · exact (h1 k c).keep hm (by omega) (by omega) (by omega)
        · intro p q p0 pq q1 qn
          exact ho p q (by omega) pq qn)
      refine ⟨r, evUp (K1 + K2) fun k hk => ?_, (hm.wide (by omega) (by omega) (by omega) (by omega)).trans hm2, ho2⟩
      dsimp only at hK1 hK2
      rw [a0h.l0, if_neg c, hK1 k (by omega), Option.bind_some]
      exact hK2 k (by omega)
theorem b3c (l : List S26) (hl : l.length ≤ 1000000000) : ∃ r, Ev (fun k => a1g.f k l) r ∧ r.length = l.length ∧ a4p l r ∧ Srt r 0 l.length := by
  obtain ⟨r, ⟨K, hK⟩, hm, ho⟩ := b6w (n := l.length) (by omega) (by omega) l.length 0 l rfl (by omega) (by omega) (fun k hk => by omega)
  refine ⟨r, ⟨K, fun k hk => ?_⟩, hm.len, hm.same, ho⟩
  have e := hK k hk
  simp only [Int.natCast_zero, Int.zero_mul, Int.zero_add] at e
  show a1g.f k l = _
  unfold a1g.f a0h.f
  rw [e]
  rfl
def ins1 (x : S26) : List S26 → List S26
  | [] => [x]
  | y :: t => if x.f3 ≤ y.f3 then x :: y :: t else y :: ins1 x t
def a2x : List S26 → List S26
  | [] => []
  | x :: t => ins1 x (a2x t)
def Ord (l : List S26) : Prop := l.Pairwise (fun x y => x.f3 ≤ y.f3)
theorem b5a {l : List S26} (h : Srt l 0 l.length) : Ord l := by
  refine List.pairwise_iff_getElem.mpr fun i j hi hj hij => ?_
  have k := h i j (by omega) (by omega) (by omega)
  unfold dy a0c at k
  rw [List.getD_eq_getElem?_getD, List.getD_eq_getElem?_getD, Int.toNat_natCast, Int.toNat_natCast, List.getElem?_eq_getElem hi, List.getElem?_eq_getElem hj] at k
  exact k
theorem a7x {x y : S26} : ∀ {l : List S26}, y ∈ ins1 x l ↔ y = x ∨ y ∈ l
  | [] => by simp [ins1]
  | z :: t => by
    rw [ins1]
    split
    · rw [List.mem_cons]
    · rw [List.mem_cons, a7x, List.mem_cons]
      constructor
      · rintro (h | h | h)
        · exact .inr (.inl h)
        · exact .inl h
        · exact .inr (.inr h)
      · rintro (h | h | h)
        · exact .inr (.inl h)
        · exact .inl h
        · exact .inr (.inr h)
theorem b0j {x : S26} : ∀ {l : List S26}, Ord l → Ord (ins1 x l)
  | [], _ => List.pairwise_singleton _ _
  | z :: t, h => by
    have h' := List.pairwise_cons.mp h
    rw [ins1]
    split
    · rename_i c
      refine List.pairwise_cons.mpr ⟨fun y hy => ?_, h⟩
      rcases List.mem_cons.mp hy with q | q
      · rw [q]; exact c
      · exact Int.le_trans c (h'.1 y q)
    · rename_i c
      refine List.pairwise_cons.mpr ⟨fun y hy => ?_, b0j h'.2⟩
      rcases a7x.mp hy with q | q
      · rw [q]; omega
      · exact h'.1 y q
theorem a7i : ∀ l : List S26, Ord (a2x l)
  | [] => List.Pairwise.nil
  | x :: t => b0j (a7i t)
theorem a7s (d : Int) (x : S26) : ∀ {l : List S26}, Ord l → (ins1 x l).filter (fun y => decide (y.f3 = d)) = (x :: l).filter (fun y => decide (y.f3 = d))
  | [], _ => rfl
  | z :: t, h => by
    have h' := List.pairwise_cons.mp h
    rw [ins1]
    split
    · rfl
    · rename_i c
      rw [List.filter_cons, a7s d x h'.2, List.filter_cons, List.filter_cons, List.filter_cons]
      by_cases q : z.f3 = d
      · rw [decide_eq_true q, decide_eq_false (show ¬ x.f3 = d by omega)]
        rfl
      · rw [decide_eq_false q]
        rfl
theorem a8h : ∀ l : List S26, a4p l (a2x l)
  | [], _ => rfl
  | x :: t, d => by
    rw [a2x, a7s d x (a7i t), List.filter_cons, List.filter_cons, a8h t d]
theorem b3w : ∀ (n : Nat) (a b : List S26), a.length ≤ n → Ord a → Ord b → a4p a b → a = b := by
  intro n
  induction n with
  | zero =>
    intro a b h ha hb hs
    obtain rfl : a = [] := List.eq_nil_of_length_eq_zero (by omega)
    cases b with
    | nil => rfl
    | cons y t =>
      have := hs y.f3
      rw [List.filter_cons, decide_eq_true rfl] at this
      simp at this
  | succ n ih =>
    intro a b h ha hb hs
    cases a with
    | nil =>
      cases b with
      | nil => rfl
      | cons y t =>
        have := hs y.f3
        rw [List.filter_cons, decide_eq_true rfl] at this
        simp at this
    | cons x s =>
      cases b with
      | nil =>
        have := hs x.f3
        rw [List.filter_cons, decide_eq_true rfl] at this
        simp at this
      | cons y t =>
        have ha' := List.pairwise_cons.mp ha
        have hb' := List.pairwise_cons.mp hb
        have le1 : ∀ (u : S26) (v : List S26), Ord (u :: v) → ∀ z ∈ u :: v, u.f3 ≤ z.f3 := fun u v k z hz => by
          rcases List.mem_cons.mp hz with q | q
          · rw [q]; exact Int.le_refl _
          · exact (List.pairwise_cons.mp k).1 z q
        have mx : x ∈ y :: t := by
          have := hs x.f3
          have q : x ∈ (x :: s).filter (fun z => decide (z.f3 = x.f3)) := List.mem_filter.mpr ⟨List.mem_cons_self, decide_eq_true rfl⟩
          rw [this] at q
          exact (List.mem_filter.mp q).1
        have my : y ∈ x :: s := by
          have := hs y.f3
          have q : y ∈ (y :: t).filter (fun z => decide (z.f3 = y.f3)) := List.mem_filter.mpr ⟨List.mem_cons_self, decide_eq_true rfl⟩
          rw [← this] at q
          exact (List.mem_filter.mp q).1
        have e : x.f3 = y.f3 := by
          have := le1 x s ha y my
          have := le1 y t hb x mx
          omega
        have hx := hs x.f3
        rw [List.filter_cons, List.filter_cons, decide_eq_true rfl, decide_eq_true e.symm, if_pos rfl, if_pos rfl] at hx
        obtain ⟨rfl, hx2⟩ := List.cons.inj hx
        have hst : a4p s t := fun d => by
          have k := hs d
          rw [List.filter_cons, List.filter_cons] at k
          by_cases c : x.f3 = d
          · rw [decide_eq_true c, if_pos rfl, if_pos rfl] at k
            exact (List.cons.inj k).2
          · rw [decide_eq_false c, if_neg (by simp), if_neg (by simp)] at k
            exact k
        rw [ih s t (by simp at h; omega) ha'.2 hb'.2 hst]
theorem b0k (l : List S26) (hl : l.length ≤ 1000000000) : Ev (fun k => a1g.f k l) (a2x l) := by
  obtain ⟨r, hE, hlen, hs, ho⟩ := b3c l hl
  have e : r = a2x l := b3w r.length r (a2x l) (Nat.le_refl _) (b5a (by rw [hlen]; exact ho)) (a7i l) (fun d => (hs d).symm.trans (a8h l d))
  rw [← e]
  exact hE
theorem a9h (l : List S26) : (a2x l).length = l.length := by
  have ins_len : ∀ (x : S26) (t : List S26), (ins1 x t).length = t.length + 1 := fun x t => by
    induction t with
    | nil => rfl
    | cons y t ih =>
      rw [ins1]
      split
      · rfl
      · rw [List.length_cons, ih, List.length_cons]
  induction l with
  | nil => rfl
  | cons x t ih => rw [a2x, ins_len, ih, List.length_cons]
end Go.Proofs.Ytfbgkcadnmcakaa.Cl
