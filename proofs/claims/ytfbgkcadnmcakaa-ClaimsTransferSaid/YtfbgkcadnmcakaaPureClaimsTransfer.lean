/- For any claims and assignments, all of which are before a day: if the holder of a claim assigns it to another party on this day, the other one can raise it on a later day exactly if the first one could have without this, and the first one no longer can (up to 100 claims and 100 assignments). Conditions: the list of claims has fewer than 2^63 elements, as every slice has. -/
import Derived.Test.YtfbgkcadnmcakaaClC
import Derived.Test.YtfbgkcadnmcakaaClB
import Derived.Test.YtfbgkcadnmcakaaClH
import Derived.Test.YtfbgkcadnmcakaaPx28
import Derived.Test.YtfbgkcadnmcakaaPx27
namespace Go.Proofs.Ytfbgkcadnmcakaa.Pure
open Go.RowKit Go.Proofs.YtfbgkcadnmcakaaW.PrintWords Go.Proofs.Ytfbgkcadnmcakaa.Given Go.Proofs.Ytfbgkcadnmcakaa.Px Go.Proofs.Ytfbgkcadnmcakaa.Cl
set_option linter.unusedVariables false
set_option linter.unusedSimpArgs false
theorem a7y {l : List S30} (h : (l.map (·.f0)).Nodup) (p : S30 → Bool) {c : S30} (hc : c ∈ l) : ((l.filter p).map (·.f0)).contains c.f0 = p c := by
  have uniq : ∀ {l : List S30}, (l.map (·.f0)).Nodup → ∀ {y}, y ∈ l → ∀ {c}, c ∈ l → y.f0 = c.f0 → y = c := by
    intro l
    induction l with
    | nil => intro _ y hy; simp at hy
    | cons x t ih =>
      intro h y hy c hc e
      rw [List.map_cons, List.nodup_cons] at h
      rcases List.mem_cons.1 hy with q | q
      · rcases List.mem_cons.1 hc with r | r
        · rw [q, r]
        · exact absurd (List.mem_map_of_mem (f := (·.f0)) r) (by rw [← e, q]; exact h.1)
      · rcases List.mem_cons.1 hc with r | r
        · exact absurd (List.mem_map_of_mem (f := (·.f0)) q) (by rw [e, r]; exact h.1)
        · exact ih h.2 q r e
  cases hp : p c with
  | true =>
    rw [List.contains_iff_mem]
    exact List.mem_map_of_mem (List.mem_filter.2 ⟨hc, hp⟩)
  | false =>
    rw [← Bool.not_eq_true, List.contains_iff_mem]
    intro hm
    obtain ⟨y, hy, e⟩ := List.mem_map.1 hm
    obtain ⟨hy1, hy2⟩ := List.mem_filter.1 hy
    rw [uniq h hy1 hc e, hp] at hy2
    cases hy2
theorem b6y (f a b r : Bool) (h : (f || (a || b)) = r) : ((if f = true then true else a) || b) = r := by
  cases f <;> simp_all
theorem a9k {y : S26} : ∀ {l : List S26}, y ∈ a2x l ↔ y ∈ l
  | [] => Iff.rfl
  | x :: t => by rw [a2x, a7x, a9k, List.mem_cons]
theorem a8m (id d1 d2 : Int) : ∀ (who : Int) (l : List S26), (∀ x ∈ l, x.f3 ≤ d1 ∧ x.f3 ≤ d2) → a4g id d1 who l = a4g id d2 who l
  | who, [], _ => rfl
  | who, x :: t, h => by
    have hx := h x List.mem_cons_self
    have e : hstep id d1 who x = hstep id d2 who x := by
      unfold hstep
      by_cases c : x.f0 = id ∧ x.f1 = who
      · rw [if_pos ⟨c.1, hx.1, c.2⟩, if_pos ⟨c.1, hx.2, c.2⟩]
      · rw [if_neg (fun h => c ⟨h.1, h.2.2⟩), if_neg (fun h => c ⟨h.1, h.2.2⟩)]
    show a4g id d1 (hstep id d1 who x) t = a4g id d2 (hstep id d2 who x) t
    rw [e]
    exact a8m id d1 d2 _ t (fun y hy => h y (List.mem_cons_of_mem _ hy))
theorem b3i (l : List S30) (a : List S26) (who : Int) (b : List Int) (day : Int) : (a3t l a who b day).1.length ≤ 100 := by
  unfold a3t
  split
  · rename_i h
    rw [Bool.and_eq_true] at h
    have := b1i h.1
    rw [List.length_map]
    exact Nat.le_trans (List.length_filter_le _ _) this
  · exact Nat.zero_le _
theorem b6a (x : S30) (e : Int) (ids : List Int) (hi : ids.length ≤ 100) : ∀ (n : Nat) (i : Int) (g : Bool) (r : Bool), 0 ≤ i → i + n = ids.length → (g || (ids.drop i.toNat).contains x.f0) = r →
    Ev (fun k => a0g.l0 k e g ids (ids.length : Int) i x.f0 x.f1 x.f2 x.f3 x.f4.f0 x.f4.f1) (r, e == 0) := by
  intro n
  induction n with
  | zero =>
    intro i g r i0 hn hg
    rw [dropEnd ids (by omega), List.contains_nil, Bool.or_false] at hg
    exact evUp 0 fun k _ => by rw [a0g.l0, if_neg (by omega), hg]
  | succ n ih =>
    intro i g r i0 hn hg
    rw [b1w ids i0 (by omega), List.contains_cons] at hg
    obtain ⟨K, hK⟩ := ih (i + 1) (if g = true then true else rd ids i == x.f0) r (by omega) (by omega) (b6y _ _ _ _ (by rw [show (rd ids i == x.f0) = (x.f0 == rd ids i) from Bool.beq_comm]; exact hg))
    dsimp only at hK
    refine evUp K fun k hk => ?_
    rw [a0g.l0, if_pos (by omega), if_pos i0, if_pos (by omega), w64 (x := i + 1) (by omega) (by omega)]
    have := hK k hk
    by_cases q : g = true
    · rw [if_pos q]
      rw [if_pos q] at this
      exact this
    · rw [if_neg q]
      rw [if_neg q] at this
      exact this
theorem b0p (l : List S30) (hl : (l.length : Int) ≤ 9223372036854775807) (a : List S26) (who : Int) (x : S30) (later : Int) :
    Ev (fun k => a0g.f k a who l x.f0 x.f1 x.f2 x.f3 x.f4.f0 x.f4.f1 later) ((a3t l a who [x.f1] later).1.contains x.f0, (a3t l a who [x.f1] later).2 == 0) := by
  obtain ⟨K1, h1⟩ := b4b l hl a who [x.f1] (by simp) later
  obtain ⟨K2, h2⟩ := b6a x (a3t l a who [x.f1] later).2 (a3t l a who [x.f1] later).1 (b3i _ _ _ _ _) (a3t l a who [x.f1] later).1.length 0 false ((a3t l a who [x.f1] later).1.contains x.f0) (by omega) (by omega) (by rw [Bool.false_or]; rfl)
  dsimp only at h1 h2
  refine ⟨K1 + K2, fun k hk => ?_⟩
  dsimp only
  unfold a0g.f
  rw [h1 _ (by omega), Option.bind_some]
  exact h2 k (by omega)
theorem a7z {l : List S30} {a : List S26} {who : Int} {b : List Int} {day : Int} (h : ((a3t l a who b day).2 == 0) = true) : okC l = true ∧ okA a = true ∧ a3t l a who b day = ((l.filter (canB a who b day)).map (·.f0), 0) := by
  unfold a3t at *
  by_cases c : (okC l && (okA a && (numB who && dayB day))) = true
  · rw [if_pos c]
    rw [Bool.and_eq_true, Bool.and_eq_true] at c
    exact ⟨c.1, c.2.1, rfl⟩
  · rw [if_neg c] at h
    exact absurd h (by decide)
theorem b0q (l : List S30) (hl : (l.length : Int) ≤ 9223372036854775807) (a : List S26) (ha : a.length ≤ 100) (x : S30) (hx : x ∈ l) (to_ day later : Int) (hlater : day ≤ later) (hd : ∀ y ∈ a, y.f3 < day) :
    Ev (fun k => a0d.j2 k a to_ day true (a4g x.f0 day x.f2 (a2x a)) (to_ == a4g x.f0 day x.f2 (a2x a)) l later x.f0 x.f1 x.f2 x.f3 x.f4.f0 x.f4.f1) true := by
  obtain ⟨who, hwho⟩ : ∃ w, w = a4g x.f0 day x.f2 (a2x a) := ⟨_, rfl⟩
  rw [← hwho]
  by_cases c : to_ = who
  · exact evUp 0 fun k _ => by rw [a0d.j2, if_pos (beq_iff_eq.2 c)]
  obtain ⟨z, hz⟩ : ∃ z : S26, z = ⟨x.f0, who, to_, day⟩ := ⟨_, rfl⟩
  obtain ⟨K1, h1⟩ := b0p l hl a who x later
  obtain ⟨K2, h2⟩ := b0p l hl (a ++ [z]) to_ x later
  obtain ⟨K3, h3⟩ := b0p l hl (a ++ [z]) who x later
  dsimp only at h1 h2 h3
  refine ⟨K1 + K2 + K3 + 2, fun k hk => ?_⟩
  obtain ⟨k, rfl⟩ : ∃ j, k = j + 2 := ⟨k - 2, by omega⟩
  dsimp only
  have hno : ∀ p q s, a0d.j3 (k + 1) true p q s true = some true := fun p q s => by rw [a0d.j3, if_pos rfl]
  rw [a0d.j2, if_neg (fun h => c (beq_iff_eq.1 h)), Option.bind_some, if_pos (by simp; omega), Option.bind_some, Option.bind_some, if_pos (by simp; omega), Option.bind_some, List.nil_append, ← hz, h1 _ (by omega), Option.bind_some, h2 _ (by omega), Option.bind_some, h3 _ (by omega), Option.bind_some]
  dsimp only
  by_cases o1 : ((a3t l a who [x.f1] later).2 == 0) = true
  · rw [if_pos o1]
    by_cases o2 : ((a3t l (a ++ [z]) to_ [x.f1] later).2 == 0) = true
    · rw [if_pos o2]
      by_cases o3 : ((a3t l (a ++ [z]) who [x.f1] later).2 == 0) = true
      · rw [o3]
        obtain ⟨ok1, _, e1⟩ := a7z o1
        obtain ⟨_, _, e2⟩ := a7z o2
        obtain ⟨_, _, e3⟩ := a7z o3
        rw [e1, e2, e3]
        dsimp only
        rw [a7y (a7j ok1) _ hx, a7y (a7j ok1) _ hx, a7y (a7j ok1) _ hx]
        have hA : a4g x.f0 later x.f2 (a2x a) = who := by
          rw [hwho]
          exact a8m x.f0 later day x.f2 (a2x a) (fun y hy => by have := hd y (a9k.1 hy); omega)
        have hB : a4g x.f0 later x.f2 (a2x (a ++ [z])) = to_ := by
          rw [a8l (fun y hy => by have := hd y hy; rw [hz]; show y.f3 ≤ day; omega)]
          unfold a4g at hA ⊢
          rw [List.foldl_append, hA]
          show hstep x.f0 later who z = to_
          unfold hstep
          rw [hz, if_pos ⟨rfl, hlater, rfl⟩]
        have cA : canB a who [x.f1] later x = decide (x.f4.f0 ≤ later ∧ later < x.f4.f1) := by
          unfold canB
          rw [hA]
          simp
        have cB : canB (a ++ [z]) to_ [x.f1] later x = decide (x.f4.f0 ≤ later ∧ later < x.f4.f1) := by
          unfold canB
          rw [hB]
          simp
        have cC : canB (a ++ [z]) who [x.f1] later x = false := by
          unfold canB
          rw [hB, beq_false_of_ne c]
          simp
        rw [cA, cB, cC, a0d.j3, if_neg (by decide), if_pos rfl, beq_self_eq_true, if_pos rfl]
        rfl
      · rw [Bool.not_eq_true] at o3
        rw [o3]
        exact hno _ _ _
    · rw [if_neg o2]
      exact hno _ _ _
  · rw [if_neg o1]
    exact hno _ _ _
theorem b0v (l : List S30) (hl : (l.length : Int) ≤ 9223372036854775807) (a : List S26) (ha : a.length ≤ 100) (which to_ day later : Int) (w0 : 0 ≤ which) (w1 : which < l.length) (hlater : day ≤ later) :
    ∀ (n : Nat) (i : Int), 0 ≤ i → i + n = a.length → (∀ y ∈ a.take i.toNat, y.f3 < day) → Ev (fun k => a0d.l0 k a which to_ day true a (a.length : Int) i l later) true := by
  intro n
  induction n with
  | zero =>
    intro i i0 hi hd
    rw [List.take_of_length_le (by omega)] at hd
    obtain ⟨x, hx⟩ : ∃ x, x = a0b l which := ⟨_, rfl⟩
    have hm : x ∈ l := by
      have := a8i l w0 w1
      exact List.mem_of_mem_drop (i := which.toNat) (by rw [this, hx]; exact List.mem_cons_self)
    obtain ⟨K1, h1⟩ := b3g x a day
    dsimp only at h1
    by_cases ok : (a4z x && (okA a && dayB day)) = true
    · have e1 : a7m x a day = (a4g x.f0 day x.f2 (a2x a), 0) := by unfold a7m; rw [if_pos ok]
      rw [e1] at h1
      obtain ⟨K2, h2⟩ := b0q l hl a ha x hm to_ day later hlater hd
      dsimp only at h2
      refine evUp (K1 + K2) fun k hk => ?_
      rw [a0d.l0, if_neg (by omega), if_pos w0, if_pos w1, ← hx, h1 k (by omega), Option.bind_some, if_pos rfl]
      exact h2 k (by omega)
    · rw [b3f ok] at h1
      refine evUp (K1 + 1) fun k hk => ?_
      obtain ⟨k, rfl⟩ : ∃ j, k = j + 1 := ⟨k - 1, by omega⟩
      rw [a0d.l0, if_neg (by omega), if_pos w0, if_pos w1, ← hx, h1 _ (by omega), Option.bind_some, if_neg (show ¬ (1 : Int) = 0 by decide), a0d.j2, if_pos rfl]
  | succ n ih =>
    intro i i0 hi hd
    by_cases c : (a0c a i).f3 ≥ day
    · exact evUp 0 fun k _ => by rw [a0d.l0, if_pos (by omega), if_pos i0, if_pos (by omega), if_pos c]
    · obtain ⟨K, hK⟩ := ih (i + 1) (by omega) (by omega) (fun y hy => by
        have h : i.toNat < a.length := by omega
        rw [show (i + 1).toNat = i.toNat + 1 by omega, List.take_add_one, List.getElem?_eq_getElem h] at hy
        rcases List.mem_append.1 hy with q | q
        · exact hd y q
        · have e : a0c a i = a[i.toNat] := by
            unfold a0c
            rw [List.getD_eq_getElem?_getD, List.getElem?_eq_getElem h]
            rfl
          have q : y = a[i.toNat] := by simpa using q
          rw [q, ← e]
          omega)
      dsimp only at hK
      refine evUp K fun k hk => ?_
      rw [a0d.l0, if_pos (by omega), if_pos i0, if_pos (by omega), if_neg c, w64 (by omega) (by omega)]
      exact hK k hk
theorem ClaimsTransfer (l : List S30) (a : List S26) (which to_ day later : Int) (hl : (l.length : Int) ≤ 9223372036854775807) : Ev (fun k => a0d.f k l a which to_ day later) true := by
  obtain ⟨K0, h0⟩ := b5f
  dsimp only at h0
  have hno : ∀ k, a0d.j0 (k + 1) a which to_ day true true l later = some true := fun k => by rw [a0d.j0, if_pos rfl]
  by_cases c1 : (a.length : Int) > 100
  · refine ⟨K0 + 1, fun k hk => ?_⟩
    obtain ⟨k, rfl⟩ : ∃ j, k = j + 1 := ⟨k - 1, by omega⟩
    dsimp only
    unfold a0d.f
    rw [h0 _ (by omega), Option.bind_some, if_pos c1, hno]
  by_cases c2 : which < 0
  · refine ⟨K0 + 1, fun k hk => ?_⟩
    obtain ⟨k, rfl⟩ : ∃ j, k = j + 1 := ⟨k - 1, by omega⟩
    dsimp only
    unfold a0d.f
    rw [h0 _ (by omega), Option.bind_some, if_neg c1, if_pos c2, hno]
  by_cases c3 : which ≥ (l.length : Int)
  · refine ⟨K0 + 1, fun k hk => ?_⟩
    obtain ⟨k, rfl⟩ : ∃ j, k = j + 1 := ⟨k - 1, by omega⟩
    dsimp only
    unfold a0d.f
    rw [h0 _ (by omega), Option.bind_some, if_neg c1, if_neg c2, if_pos c3, hno]
  by_cases c4 : later < day
  · refine ⟨K0 + 1, fun k hk => ?_⟩
    obtain ⟨k, rfl⟩ : ∃ j, k = j + 1 := ⟨k - 1, by omega⟩
    dsimp only
    unfold a0d.f
    rw [h0 _ (by omega), Option.bind_some, if_neg c1, if_neg c2, if_neg c3, decide_eq_true c4, hno]
  obtain ⟨K1, h1⟩ := b0v l hl a (by omega) which to_ day later (by omega) (by omega) (by omega) a.length 0 (by omega) (by omega) (by simp)
  dsimp only at h1
  refine ⟨K0 + K1 + 1, fun k hk => ?_⟩
  obtain ⟨k, rfl⟩ : ∃ j, k = j + 1 := ⟨k - 1, by omega⟩
  dsimp only
  unfold a0d.f
  rw [h0 _ (by omega), Option.bind_some, if_neg c1, if_neg c2, if_neg c3, decide_eq_false c4, a0d.j0, if_neg (by decide)]
  exact h1 k (by omega)
end Go.Proofs.Ytfbgkcadnmcakaa.Pure
