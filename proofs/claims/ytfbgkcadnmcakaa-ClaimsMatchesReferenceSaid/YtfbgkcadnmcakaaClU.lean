/- What the reference's Valid, Raise and Cover count: the same as the program's. Conditions: as each theorem states. -/
import Derived.Test.YtfbgkcadnmcakaaClD
import Derived.Test.YtfbgkcadnmcakaaClR
import Derived.Test.YtfbgkcadnmcakaaPx23
import Derived.Test.YtfbgkcadnmcakaaPx16
import Derived.Test.YtfbgkcadnmcakaaPx15
import Derived.Test.YtfbgkcadnmcakaaPx14
namespace Go.Proofs.Ytfbgkcadnmcakaa.Cl
open Go.RowKit Go.Proofs.YtfbgkcadnmcakaaW.PrintWords Go.Proofs.YtfbgkcadnmcakaaW.PrintMore Go.Proofs.Ytfbgkcadnmcakaa.Given Go.Proofs.Ytfbgkcadnmcakaa.Px
set_option linter.unusedVariables false
set_option linter.unusedSimpArgs false
theorem b9p (l : List S30) (hl : (l.length : Int) ≤ 9223372036854775807) (id : Int) : ∀ (n : Nat) (i : Int), 0 ≤ i → i + n = l.length →
    ∃ r, Ev (fun k => a1e.l0 k l id i) r ∧ ((r < 0 ∧ fnd (l.drop i.toNat) id = none) ∨ (i ≤ r ∧ r < l.length ∧ fnd (l.drop i.toNat) id = some (a0a l r))) := by
  intro n
  induction n with
  | zero =>
    intro i i0 hi
    rw [dropEnd l (by omega)]
    exact ⟨-1, evUp 0 fun k _ => by rw [a1e.l0, if_neg (by omega)], .inl ⟨by omega, rfl⟩⟩
  | succ n ih =>
    intro i i0 hi
    rw [a6i l i0 (by omega)]
    by_cases c : (a0a l i).f0 = id
    · refine ⟨i, evUp 0 fun k _ => by rw [a1e.l0, if_pos (by omega), if_pos i0, if_pos c], .inr ⟨Int.le_refl _, by omega, ?_⟩⟩
      unfold fnd
      rw [List.find?_cons, decide_eq_true c]
    · obtain ⟨r, ⟨K, hK⟩, hr⟩ := ih (i + 1) (by omega) (by omega)
      dsimp only at hK
      refine ⟨r, evUp K fun k hk => ?_, ?_⟩
      · rw [a1e.l0, if_pos (by omega), if_pos i0, if_neg c, w64 (by omega) (by omega)]
        exact hK k hk
      · have e : fnd (a0a l i :: l.drop (i + 1).toNat) id = fnd (l.drop (i + 1).toNat) id := by
          unfold fnd
          rw [List.find?_cons, decide_eq_false c]
        rw [e]
        rcases hr with h | ⟨h1, h2, h3⟩
        · exact .inl h
        · exact .inr ⟨by omega, h2, h3⟩
theorem b7f (l : List S30) (hl : (l.length : Int) ≤ 9223372036854775807) (id : Int) : ∃ r, Ev (fun k => a1e.f k l id) r ∧ ((r < 0 ∧ fnd l id = none) ∨ (0 ≤ r ∧ r < l.length ∧ fnd l id = some (a0a l r))) := by
  obtain ⟨r, h1, h2⟩ := b9p l hl id l.length 0 (by omega) (by omega)
  exact ⟨r, h1, h2⟩
theorem b8s (l : List Int) (hl : (l.length : Int) ≤ 9223372036854775807) (m : Int) : ∀ (n : Nat) (i : Int), 0 ≤ i → i + n = l.length →
    Ev (fun k => a1g.l0 k l m i) ((l.drop i.toNat).contains m) := by
  intro n
  induction n with
  | zero =>
    intro i i0 hi
    rw [dropEnd l (by omega)]
    exact evUp 0 fun k _ => by rw [a1g.l0, if_neg (by omega)]; rfl
  | succ n ih =>
    intro i i0 hi
    rw [a9v l i0 (by omega), List.contains_cons]
    by_cases c : rd l i = m
    · exact evUp 0 fun k _ => by rw [a1g.l0, if_pos (by omega), if_pos i0, if_pos c, c, beq_self_eq_true]; rfl
    · obtain ⟨K, hK⟩ := ih (i + 1) (by omega) (by omega)
      dsimp only at hK
      refine evUp K fun k hk => ?_
      rw [a1g.l0, if_pos (by omega), if_pos i0, if_neg c, w64 (by omega) (by omega), beq_false_of_ne (fun h => c h.symm), Bool.false_or]
      exact hK k hk
theorem b5s (l : List Int) (hl : (l.length : Int) ≤ 9223372036854775807) (m : Int) : Ev (fun k => a1g.f k l m) (l.contains m) :=
  b8s l hl m l.length 0 (by omega) (by omega)
def okV : List S30 → List S30 → Bool
  | _, [] => true
  | pre, x :: t => a4l x && ((fnd pre x.f0).isNone && okV (pre ++ [x]) t)
theorem b6p {l : List S30} {id : Int} : fnd l id = none ↔ id ∉ l.map (·.f0) := by
  unfold fnd
  rw [List.find?_eq_none]
  constructor
  · intro h hm
    obtain ⟨x, hx, e⟩ := List.mem_map.1 hm
    exact h x hx (decide_eq_true e)
  · intro h x hx e
    rw [decide_eq_true_eq] at e
    exact h (List.mem_map.2 ⟨x, hx, e⟩)
theorem b3x : ∀ (l pre : List S30), (pre.map (·.f0)).Nodup → (okV pre l = true ↔ l.all a4l = true ∧ ((pre ++ l).map (·.f0)).Nodup)
  | [], pre, h => by
    rw [List.append_nil]
    exact ⟨fun _ => ⟨rfl, h⟩, fun _ => rfl⟩
  | x :: t, pre, h => by
    rw [okV, List.all_cons, Bool.and_eq_true, Bool.and_eq_true, Bool.and_eq_true, Option.isNone_iff_eq_none, b6p]
    have e : pre ++ x :: t = (pre ++ [x]) ++ t := by rw [List.append_assoc]; rfl
    rw [e]
    by_cases c : x.f0 ∈ pre.map (·.f0)
    · constructor
      · exact fun q => absurd c q.2.1
      · rintro ⟨_, q⟩
        rw [List.map_append, List.nodup_append, List.map_append, List.nodup_append] at q
        exact absurd rfl (q.1.2.2 _ c x.f0 (by simp))
    · have hn : ((pre ++ [x]).map (·.f0)).Nodup := by
        rw [List.map_append, List.nodup_append]
        refine ⟨h, by simp, fun u hu v hv => ?_⟩
        rw [List.map_cons, List.map_nil, List.mem_singleton] at hv
        rw [hv]
        exact fun d => c (by rw [← d]; exact hu)
      rw [b3x t (pre ++ [x]) hn]
      constructor
      · rintro ⟨a, _, b, d⟩; exact ⟨⟨a, b⟩, d⟩
      · rintro ⟨⟨a, b⟩, d⟩; exact ⟨a, c, b, d⟩
theorem b8t (l : List S30) {i : Int} (h0 : 0 ≤ i) (h1 : i < l.length) : l.take (i + 1).toNat = l.take i.toNat ++ [a0a l i] := by
  have h : i.toNat < l.length := by omega
  rw [show (i + 1).toNat = i.toNat + 1 by omega, List.take_add_one]
  congr 1
  unfold a0a
  rw [List.getD_eq_getElem?_getD, List.getElem?_eq_getElem h]
  rfl
theorem b9q (l : List Int) {i : Int} (h0 : 0 ≤ i) (h1 : i < l.length) : l.take (i + 1).toNat = l.take i.toNat ++ [rd l i] := by
  have h : i.toNat < l.length := by omega
  rw [show (i + 1).toNat = i.toNat + 1 by omega, List.take_add_one]
  congr 1
  unfold rd
  rw [List.getD_eq_getElem?_getD, List.getElem?_eq_getElem h]
  rfl
theorem b3d (l : List S30) (hl : (l.length : Int) ≤ 9223372036854775807) : ∀ (n : Nat) (i : Int), 0 ≤ i → i + n = l.length →
    Ev (fun k => a0t.l0 k l i) (okV (l.take i.toNat) (l.drop i.toNat)) := by
  intro n
  induction n with
  | zero =>
    intro i i0 hi
    rw [dropEnd l (by omega)]
    exact evUp 0 fun k _ => by rw [a0t.l0, if_neg (by omega)]; rfl
  | succ n ih =>
    intro i i0 hi
    obtain ⟨K1, h1⟩ := ih (i + 1) (by omega) (by omega)
    obtain ⟨r, ⟨K2, h2⟩, hr⟩ := b7f (l.take i.toNat) (by rw [List.length_take]; omega) (a0a l i).f0
    dsimp only at h1 h2
    rw [b8t l i0 (by omega)] at h1
    refine evUp (K1 + K2 + 1) fun k hk => ?_
    obtain ⟨k, rfl⟩ : ∃ j, k = j + 1 := ⟨k - 1, by omega⟩
    rw [a0t.l0, if_pos (by omega), if_pos i0, a5q, Option.bind_some, a6i l i0 (by omega), okV]
    by_cases c : a4l (a0a l i) = true
    · rw [if_pos c, if_pos (by omega), h2 _ (by omega), Option.bind_some, c, Bool.true_and]
      rcases hr with ⟨r1, r2⟩ | ⟨r1, _, r2⟩
      · rw [if_neg (by omega), r2, w64 (by omega) (by omega)]
        exact h1 _ (by omega)
      · rw [if_pos r1, r2]
        rfl
    · rw [if_neg c]
      rw [Bool.not_eq_true] at c
      rw [c, Bool.false_and]
theorem a7k (l : List S30) : Ev (fun k => a0t.f k l) (okC l) := by
  by_cases c : (l.length : Int) > 100
  · refine ⟨0, fun k _ => ?_⟩
    dsimp only
    unfold a0t.f okC
    rw [if_pos c, decide_eq_false (by omega), Bool.false_and]
  · have h := b3d l (by omega) l.length 0 (by omega) (by omega)
    have e : okV (l.take (0 : Int).toNat) (l.drop (0 : Int).toNat) = okC l := by
      show okV [] l = _
      have := b3x l [] (by simp)
      unfold okC b1p
      rw [decide_eq_true (show l.length ≤ 100 by omega), Bool.true_and, Bool.eq_iff_iff, this, Bool.and_eq_true, decide_eq_true_eq]
      rw [List.nil_append]
      exact And.comm
    rw [e] at h
    obtain ⟨K, hK⟩ := h
    dsimp only at hK
    refine ⟨K, fun k hk => ?_⟩
    dsimp only
    unfold a0t.f
    rw [if_neg c]
    exact hK k hk
theorem b3e (l : List S30) (hl : l.length ≤ 100) (a : List S26) (ha : okA a = true) (who day : Int) (b : List Int) (hb : (b.length : Int) ≤ 9223372036854775807) :
    ∀ (n : Nat) (i : Int) (out : List Int), 0 ≤ i → i + n = l.length → out.length ≤ i →
    Ev (fun k => a0h.l0 k l a who b day out i) (out ++ ((l.drop i.toNat).filter (canB a who b day)).map (·.f0), 0) := by
  intro n
  induction n with
  | zero =>
    intro i out i0 hi ho
    rw [dropEnd l (by omega)]
    refine evUp 0 fun k _ => ?_
    rw [a0h.l0, if_neg (by omega)]
    simp
  | succ n ih =>
    intro i out i0 hi ho
    obtain ⟨x, hx⟩ : ∃ x, x = a0a l i := ⟨_, rfl⟩
    obtain ⟨K1, h1⟩ := ih (i + 1) (out ++ [x.f0]) (by omega) (by omega) (by rw [List.length_append, List.length_singleton]; omega)
    obtain ⟨K2, h2⟩ := ih (i + 1) out (by omega) (by omega) (by omega)
    have hal := b0m ha
    obtain ⟨K3, h3⟩ := a9z x a (by omega) (b2w ha) day
    obtain ⟨K4, h4⟩ := b5s b hb x.f1
    dsimp only at h1 h2 h3 h4
    have hno : ∀ k, K2 ≤ k → ∀ q0 q1 q2 q3 q4 q5, a0h.j2 (k + 1) l a who b day out i false q0 q1 q2 q3 q4 q5 = some (out ++ ((l.drop (i + 1).toNat).filter (canB a who b day)).map (·.f0), 0) := fun k hk q0 q1 q2 q3 q4 q5 => by
      rw [a0h.j2, if_neg (by decide), w64 (by omega) (by omega)]
      exact h2 k hk
    refine evUp (K1 + K2 + K3 + K4 + 1) fun k hk => ?_
    obtain ⟨k, rfl⟩ : ∃ j, k = j + 1 := ⟨k - 1, by omega⟩
    rw [a0h.l0, if_pos (by omega), if_pos i0, a6i l i0 (by omega), List.filter_cons, ← hx]
    by_cases c1 : x.f4.f0 ≤ day
    · rw [if_pos c1]
      by_cases c2 : day < x.f4.f1
      · rw [if_pos c2, h4 _ (by omega), Option.bind_some]
        by_cases c3 : b.contains x.f1 = true
        · rw [if_pos c3, h3 _ (by omega), Option.bind_some]
          by_cases c4 : a4p x.f0 day x.f2 (a4c a) = who
          · have e : canB a who b day x = true := by
              unfold canB
              rw [decide_eq_true ⟨c1, c2⟩, c3, beq_iff_eq.2 c4]
              rfl
            rw [if_pos e, beq_iff_eq.2 c4, a0h.j2, if_pos rfl, if_pos (by omega), w64 (by omega) (by omega), h1 k (by omega)]
            simp
          · have e : ¬ canB a who b day x = true := by
              unfold canB
              rw [Bool.and_eq_true, Bool.and_eq_true]
              exact fun h => c4 (beq_iff_eq.1 h.2.2)
            rw [if_neg e, beq_false_of_ne c4]
            exact hno k (by omega) _ _ _ _ _ _
        · have e : ¬ canB a who b day x = true := by
            unfold canB
            rw [Bool.and_eq_true, Bool.and_eq_true]
            exact fun h => c3 h.2.1
          rw [if_neg c3, if_neg e]
          exact hno k (by omega) _ _ _ _ _ _
      · have e : ¬ canB a who b day x = true := by
          unfold canB
          rw [Bool.and_eq_true, decide_eq_true_eq]
          exact fun h => c2 h.1.2
        rw [if_neg c2, if_neg e]
        exact hno k (by omega) _ _ _ _ _ _
    · have e : ¬ canB a who b day x = true := by
        unfold canB
        rw [Bool.and_eq_true, decide_eq_true_eq]
        exact fun h => c1 h.1.1
      rw [if_neg c1, if_neg e]
      exact hno k (by omega) _ _ _ _ _ _
theorem b3f (l : List S30) (a : List S26) (ha : (a.length : Int) ≤ 9223372036854775807) (who : Int) (b : List Int) (hb : (b.length : Int) ≤ 9223372036854775807) (day : Int) :
    Ev (fun k => a0h.f k l a who b day) (a7b l a who b day) := by
  obtain ⟨K1, h1⟩ := a7k l
  obtain ⟨K2, h2⟩ := b1d a ha
  dsimp only at h1 h2
  have enum : decide (1 ≤ who ∧ who ≤ 1000000) = numB who := rfl
  have eday : decide (0 ≤ day ∧ day ≤ 36524) = dayB day := rfl
  unfold a7b
  have hno : ∀ k, a0h.j0 (k + 1) l a who b day true = some ([], 1) := fun k => by rw [a0h.j0, if_pos rfl]
  by_cases c1 : okC l = true
  · by_cases c2 : okA a = true
    · by_cases c3 : numB who = true
      · by_cases c4 : dayB day = true
        · obtain ⟨K4, h4⟩ := b3e l (b0n c1) a c2 who day b hb l.length 0 [] (by omega) (by omega) (by simp)
          dsimp only at h4
          refine ⟨K1 + K2 + K4 + 1, fun k hk => ?_⟩
          obtain ⟨k, rfl⟩ : ∃ j, k = j + 1 := ⟨k - 1, by omega⟩
          dsimp only
          unfold a0h.f
          rw [h1 _ (by omega), Option.bind_some, h2 _ (by omega), Option.bind_some, if_pos c1, if_pos c2, a4x, enum, Option.bind_some, if_pos c3, a4x, eday, Option.bind_some, c4, a0h.j0, if_neg (by decide), h4 k (by omega), c1, c2, c3]
          rfl
        · refine ⟨K1 + K2 + 1, fun k hk => ?_⟩
          obtain ⟨k, rfl⟩ : ∃ j, k = j + 1 := ⟨k - 1, by omega⟩
          rw [Bool.not_eq_true] at c4
          dsimp only
          unfold a0h.f
          rw [h1 _ (by omega), Option.bind_some, h2 _ (by omega), Option.bind_some, if_pos c1, if_pos c2, a4x, enum, Option.bind_some, if_pos c3, a4x, eday, Option.bind_some, c4, c1, c2, c3]
          exact hno k
      · refine ⟨K1 + K2 + 1, fun k hk => ?_⟩
        obtain ⟨k, rfl⟩ : ∃ j, k = j + 1 := ⟨k - 1, by omega⟩
        dsimp only
        unfold a0h.f
        rw [h1 _ (by omega), Option.bind_some, h2 _ (by omega), Option.bind_some, if_pos c1, if_pos c2, a4x, enum, Option.bind_some, if_neg c3, hno]
        rw [Bool.not_eq_true] at c3
        rw [c1, c2, c3]
        rfl
    · refine ⟨K1 + K2 + 1, fun k hk => ?_⟩
      obtain ⟨k, rfl⟩ : ∃ j, k = j + 1 := ⟨k - 1, by omega⟩
      dsimp only
      unfold a0h.f
      rw [h1 _ (by omega), Option.bind_some, h2 _ (by omega), Option.bind_some, if_pos c1, if_neg c2, hno]
      rw [Bool.not_eq_true] at c2
      rw [c1, c2]
      rfl
  · refine ⟨K1 + K2 + 1, fun k hk => ?_⟩
    obtain ⟨k, rfl⟩ : ∃ j, k = j + 1 := ⟨k - 1, by omega⟩
    dsimp only
    unfold a0h.f
    rw [h1 _ (by omega), Option.bind_some, h2 _ (by omega), Option.bind_some, if_neg c1, hno]
    rw [Bool.not_eq_true] at c1
    rw [c1]
    rfl
theorem b1h (x y : S30) : a3j.f x.f0 x.f1 x.f2 x.f3 x.f4.f0 x.f4.f1 y.f0 y.f1 y.f2 y.f3 y.f4.f0 y.f4.f1 = some (decide (cfS x y < 0)) := by
  unfold a3j.f
  have h := b2e x y
  by_cases c : x.f4.f1 < y.f4.f1
  · rw [if_pos c, decide_eq_true (h.2 (.inl c))]
  · rw [if_neg c]
    by_cases d : x.f4.f1 = y.f4.f1
    · rw [if_pos d]
      congr 1
      exact decide_eq_decide.2 (by rw [h]; omega)
    · rw [if_neg d, decide_eq_false (by rw [h]; omega)]
theorem b7z (c : Int) (rest out : List S30) (hl : rest.length ≤ 1000) (r : List S30 × Int × Int) (hr : ∀ best : Int, 0 ≤ best → best < rest.length → (∀ j : Int, 0 ≤ j → j < rest.length → cfS (a0a rest best) (a0a rest j) ≤ 0) →
      Ev (fun k => a0e.l2 k c rest out best (rest.length : Int)) r) : ∀ (n : Nat) (j best : Int), 0 ≤ best → best < j → j + n = rest.length → (∀ m : Int, 0 ≤ m → m < j → cfS (a0a rest best) (a0a rest m) ≤ 0) →
    Ev (fun k => a0e.l2 k c rest out best j) r := by
  intro n
  induction n with
  | zero =>
    intro j best b0 bj hj hb
    obtain rfl : j = (rest.length : Int) := by omega
    exact hr best b0 (by omega) hb
  | succ n ih =>
    intro j best b0 bj hj hb
    by_cases q : cfS (a0a rest j) (a0a rest best) < 0
    · obtain ⟨K, hK⟩ := ih (j + 1) j (by omega) (by omega) (by omega) (fun m m0 m1 => by
        by_cases e : m = j
        · rw [e]
          have := (a9e (a0a rest j) (a0a rest j)).2 ⟨rfl, rfl⟩
          omega
        · exact a7u.trans _ _ _ (by omega) (hb m m0 (by omega)))
      dsimp only at hK
      refine evUp K fun k hk => ?_
      rw [a0e.l2, if_pos (by omega), if_pos (by omega), if_pos b0, if_pos (by omega), b1h, Option.bind_some, if_pos (decide_eq_true q), w64 (by omega) (by omega)]
      exact hK k hk
    · obtain ⟨K, hK⟩ := ih (j + 1) best (by omega) (by omega) (by omega) (fun m m0 m1 => by
        by_cases e : m = j
        · rw [e]
          have := a7u.flip (a0a rest j) (a0a rest best)
          have := a7u.flip (a0a rest best) (a0a rest j)
          omega
        · exact hb m m0 (by omega))
      dsimp only at hK
      refine evUp K fun k hk => ?_
      rw [a0e.l2, if_pos (by omega), if_pos (by omega), if_pos b0, if_pos (by omega), b1h, Option.bind_some, if_neg (by simpa using q), w64 (by omega) (by omega)]
      exact hK k hk
theorem b3g : ∀ (n : Nat) (rest : List S30) (c : Int) (out : List S30), rest.length = n → out.length + n ≤ 1000 → (rest.map (·.f0)).Nodup → (∀ x ∈ rest, 0 ≤ x.f3) → 0 ≤ c → c ≤ 1000000000 →
    Ev (fun k => a0e.l1 k c rest out) (out ++ (a4q (a3p cfS rest) c).1, (a4q (a3p cfS rest) c).2, 0) := by
  intro n
  induction n with
  | zero =>
    intro rest c out hn ho hnd hR c0 c1
    obtain rfl := List.eq_nil_of_length_eq_zero hn
    refine evUp 1 fun k hk => ?_
    obtain ⟨k, rfl⟩ : ∃ j, k = j + 1 := ⟨k - 1, by omega⟩
    rw [a0e.l1, if_neg (by decide), a0e.j3, if_neg (by decide)]
    simp [a3p, a4q]
  | succ n ih =>
    intro rest c out hn ho hnd hR c0 c1
    have hsl := a5r cfS rest
    by_cases q : c > 0
    · have key := b7z c rest out (by omega) (out ++ (a4q (a3p cfS rest) c).1, (a4q (a3p cfS rest) c).2, 0) (fun best b0 b1 hb => by
        obtain ⟨x, hx⟩ : ∃ x, x = a0a rest best := ⟨_, rfl⟩
        obtain ⟨rest', hr'⟩ : ∃ r', r' = rest.take best.toNat ++ rest.drop (best + 1).toNat := ⟨_, rfl⟩
        have hsplit : rest = rest.take best.toNat ++ x :: rest.drop (best + 1).toNat := by
          rw [hx, ← a6i rest b0 b1, List.take_append_drop]
        have hperm : rest.Perm (x :: rest') := by
          rw [hr']
          conv => lhs; rw [hsplit]
          exact List.perm_middle
        have hlen : rest'.length = n := by have := hperm.length_eq; simp at this; omega
        have hnd' : ((x :: rest').map (·.f0)).Nodup := (hperm.map _).nodup hnd
        have hnd2 : (rest'.map (·.f0)).Nodup := by rw [List.map_cons, List.nodup_cons] at hnd'; exact hnd'.2
        have hR' : ∀ y ∈ x :: rest', 0 ≤ y.f3 := fun y hy => hR y (hperm.mem_iff.2 hy)
        have hxm := hR' x List.mem_cons_self
        have hmn := b7e x.f3 c
        have hmem : ∀ y ∈ rest', cfS x y ≤ 0 := fun y hy => by
          have : y ∈ rest := hperm.mem_iff.2 (List.mem_cons_of_mem _ hy)
          obtain ⟨i, hi, e⟩ := List.getElem_of_mem this
          have hy2 : a0a rest (i : Int) = y := by
            unfold a0a
            rw [List.getD_eq_getElem?_getD, show ((i : Int)).toNat = i by omega, List.getElem?_eq_getElem hi]
            exact e
          have := hb i (by omega) (by omega)
          rw [hy2, ← hx] at this
          exact this
        have hS : x :: a3p cfS rest' = a3p cfS rest := a8a a7u (a9f hnd) (((a4z cfS rest').cons x).trans hperm.symm) (List.pairwise_cons.2 ⟨fun y hy => hmem y ((a4z cfS rest').subset hy), a6m a7u rest'⟩)
        obtain ⟨K, hK⟩ := ih rest' (c - mn x.f3 c) (out ++ [pay x c]) hlen (by rw [List.length_append, List.length_singleton]; omega) hnd2 (fun y hy => hR' y (List.mem_cons_of_mem _ hy)) (by omega) (by omega)
        dsimp only at hK
        rw [← hS, a4q, if_neg (by omega)]
        refine evUp K fun k hk => ?_
        rw [a0e.l2, if_neg (by omega), if_pos b0, if_pos (by omega), if_pos (by omega), Option.bind_some, if_pos (by omega), Option.bind_some, if_pos (by simp; omega), Option.bind_some, w64 (x := best + 1) (by omega) (by omega), if_pos (by omega), if_pos (by omega), Option.bind_some, List.nil_append, ← hx]
        rw [if_pos (by simp; omega), ← hr', w64 (x := c - _) (by omega) (by omega)]
        have := hK k hk
        rw [List.append_assoc] at this
        exact this) (rest.length - 1) 1 0 (by omega) (by omega) (by omega) (fun m m0 m1 => by
        obtain rfl : m = 0 := by omega
        have := (a9e (a0a rest 0) (a0a rest 0)).2 ⟨rfl, rfl⟩
        omega)
      obtain ⟨K, hK⟩ := key
      dsimp only at hK
      refine evUp (K + 1) fun k hk => ?_
      obtain ⟨k, rfl⟩ : ∃ j, k = j + 1 := ⟨k - 1, by omega⟩
      rw [a0e.l1, if_pos (by omega), decide_eq_true q, a0e.j3, if_pos rfl]
      exact hK k (by omega)
    · obtain rfl : c = 0 := by omega
      have hz : a4q (a3p cfS rest) 0 = ([], 0) := by
        cases e : a3p cfS rest with
        | nil => rfl
        | cons x t => rw [a4q, if_pos rfl]
      rw [hz]
      refine evUp 1 fun k hk => ?_
      obtain ⟨k, rfl⟩ : ∃ j, k = j + 1 := ⟨k - 1, by omega⟩
      rw [a0e.l1, if_pos (by omega), a0e.j3, if_neg (by decide)]
      simp
theorem b3h (l : List S30) (hl : okC l = true) (ids : List Int) (hids : ids.length ≤ 1000) (c : Int) (c0 : 0 ≤ c) (c1 : c ≤ 1000000000) :
    ∀ (n : Nat) (i : Int) (out : List S30), 0 ≤ i → i + n = ids.length → out.map (·.f0) = ids.take i.toNat → (∀ x ∈ out, x ∈ l) → (out.map (·.f0)).Nodup →
    Ev (fun k => a0e.l0 k l ids c out i) (covF (pick l (ids.drop i.toNat) out) c) := by
  have hll := b0n hl
  intro n
  induction n with
  | zero =>
    intro i out i0 hi hm hout hnd
    rw [dropEnd ids (by omega), pick]
    have hlen : out.length = ids.length := by
      have := congrArg List.length hm
      rw [List.length_map, List.length_take] at this
      omega
    obtain ⟨K, hK⟩ := b3g out.length out c [] rfl (by simp; omega) hnd (fun x hx => by
      have := b1a hl x (hout x hx)
      unfold a4l at this
      simp only [Bool.and_eq_true, decide_eq_true_eq] at this
      omega) c0 c1
    dsimp only at hK
    refine evUp K fun k hk => ?_
    rw [a0e.l0, if_neg (by omega)]
    unfold covF
    rw [if_pos rfl]
    exact hK k hk
  | succ n ih =>
    intro i out i0 hi hm hout hnd
    have hlen : (out.length : Int) = i := by
      have := congrArg List.length hm
      rw [List.length_map, List.length_take] at this
      omega
    rw [a9v ids i0 (by omega), pick]
    obtain ⟨r, ⟨K1, h1⟩, hr⟩ := b7f l (by omega) (rd ids i)
    obtain ⟨K2, h2⟩ := b5s (ids.take i.toNat) (by rw [List.length_take]; omega) (rd ids i)
    dsimp only at h1 h2
    rcases hr with ⟨r1, r2⟩ | ⟨r1, r3, r2⟩
    · rw [r2]
      refine evUp K1 fun k hk => ?_
      rw [a0e.l0, if_pos (by omega), if_pos i0, h1 k (by omega), Option.bind_some, if_pos r1]
      rfl
    · rw [r2]
      dsimp only
      have hx := b2t r2
      rw [hm]
      by_cases q : (ids.take i.toNat).contains (rd ids i) = true
      · rw [if_pos q]
        refine evUp (K1 + K2) fun k hk => ?_
        rw [a0e.l0, if_pos (by omega), if_pos i0, h1 k (by omega), Option.bind_some, if_neg (by omega), if_pos (by omega), h2 k (by omega), Option.bind_some, if_pos q]
        rfl
      · rw [if_neg q]
        have q' := q
        rw [List.contains_iff_mem, ← hm] at q'
        obtain ⟨K, hK⟩ := ih (i + 1) (out ++ [a0a l r]) (by omega) (by omega) (by rw [List.map_append, hm, b9q ids i0 (by omega)]; show _ ++ [(a0a l r).f0] = _; rw [hx.1]) (fun y hy => by
            rcases List.mem_append.1 hy with d | d
            · exact hout y d
            · rw [List.mem_singleton.1 d]; exact hx.2) (by
          rw [List.map_append, List.nodup_append]
          refine ⟨hnd, by simp, fun u hu v hv => ?_⟩
          rw [List.map_cons, List.map_nil, List.mem_singleton, hx.1] at hv
          rw [hv]
          exact fun d => q' (by rw [← d]; exact hu))
        dsimp only at hK
        refine evUp (K + K1 + K2) fun k hk => ?_
        rw [a0e.l0, if_pos (by omega), if_pos i0, h1 k (by omega), Option.bind_some, if_neg (by omega), if_pos (by omega), h2 k (by omega), Option.bind_some, if_neg q, if_pos r1, if_pos r3, if_pos (by omega), w64 (by omega) (by omega)]
        exact hK k (by omega)
theorem b3i (l : List S30) (ids : List Int) (hids : ids.length ≤ 1000) (c : Int) : Ev (fun k => a0e.f k l ids c) (a7c l ids c) := by
  obtain ⟨K1, h1⟩ := a7k l
  dsimp only at h1
  unfold a7c
  have hno : ∀ k, a0e.j0 (k + 1) l ids c true = some ([], 0, 1) := fun k => by rw [a0e.j0, if_pos rfl]
  by_cases q1 : okC l = true
  · by_cases q2 : 0 ≤ c ∧ c ≤ 1000000000
    · obtain ⟨K2, h2⟩ := b3h l q1 ids hids c q2.1 q2.2 ids.length 0 [] (by omega) (by omega) (by simp) (by simp) (by simp)
      dsimp only at h2
      rw [show (0 : Int).toNat = 0 from rfl, List.drop_zero] at h2
      refine ⟨K1 + K2 + 1, fun k hk => ?_⟩
      obtain ⟨k, rfl⟩ : ∃ j, k = j + 1 := ⟨k - 1, by omega⟩
      dsimp only
      unfold a0e.f
      rw [h1 _ (by omega), Option.bind_some, if_pos q1, a4x, Option.bind_some, decide_eq_true q2, a0e.j0, if_neg (by decide), q1]
      exact h2 k (by omega)
    · refine ⟨K1 + 1, fun k hk => ?_⟩
      obtain ⟨k, rfl⟩ : ∃ j, k = j + 1 := ⟨k - 1, by omega⟩
      dsimp only
      unfold a0e.f
      rw [h1 _ (by omega), Option.bind_some, if_pos q1, a4x, Option.bind_some, decide_eq_false q2, q1]
      exact hno k
  · refine ⟨K1 + 1, fun k hk => ?_⟩
    obtain ⟨k, rfl⟩ : ∃ j, k = j + 1 := ⟨k - 1, by omega⟩
    dsimp only
    unfold a0e.f
    rw [h1 _ (by omega), Option.bind_some, if_neg q1, hno, if_neg (by rw [Bool.and_eq_true]; exact fun h => q1 h.1)]
theorem b6q (l : List Int) (hl : (l.length : Int) ≤ 9223372036854775807) : Ev (fun k => a0x.f k l l) true := by
  have h : ∀ (n : Nat) (i : Int), 0 ≤ i → i + n = l.length → Ev (fun k => a0x.l0 k l l i) true := by
    intro n
    induction n with
    | zero => exact fun i i0 hi => evUp 0 fun k _ => by rw [a0x.l0, if_neg (by omega)]
    | succ n ih =>
      intro i i0 hi
      obtain ⟨K, hK⟩ := ih (i + 1) (by omega) (by omega)
      dsimp only at hK
      refine evUp K fun k hk => ?_
      rw [a0x.l0, if_pos (by omega), if_pos i0, if_pos (by omega), if_pos rfl, w64 (by omega) (by omega)]
      exact hK k hk
  obtain ⟨K, hK⟩ := h l.length 0 (by omega) (by omega)
  dsimp only at hK
  exact ⟨K, fun k hk => by dsimp only; unfold a0x.f; rw [if_pos rfl]; exact hK k hk⟩
theorem b5t (l : List S30) (hl : (l.length : Int) ≤ 9223372036854775807) : Ev (fun k => a1d.f k l l) true := by
  have h : ∀ (n : Nat) (i : Int), 0 ≤ i → i + n = l.length → Ev (fun k => a1d.l0 k l l i) true := by
    intro n
    induction n with
    | zero => exact fun i i0 hi => evUp 0 fun k _ => by rw [a1d.l0, if_neg (by omega)]
    | succ n ih =>
      intro i i0 hi
      obtain ⟨K, hK⟩ := ih (i + 1) (by omega) (by omega)
      dsimp only at hK
      refine evUp K fun k hk => ?_
      rw [a1d.l0, if_pos (by omega), if_pos i0, if_pos (by omega), w64 (by omega) (by omega), if_neg (by simp)]
      exact hK k hk
  obtain ⟨K, hK⟩ := h l.length 0 (by omega) (by omega)
  dsimp only at hK
  exact ⟨K, fun k hk => by dsimp only; unfold a1d.f; rw [if_pos rfl]; exact hK k hk⟩
end Go.Proofs.Ytfbgkcadnmcakaa.Cl
