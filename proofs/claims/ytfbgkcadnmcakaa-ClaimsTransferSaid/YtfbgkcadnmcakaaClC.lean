/- The register of claims, and which claims can be raised. Conditions: as each theorem states. -/
import Derived.Test.YtfbgkcadnmcakaaClA
import Derived.Test.YtfbgkcadnmcakaaPx11
import Derived.Test.YtfbgkcadnmcakaaPx12
namespace Go.Proofs.Ytfbgkcadnmcakaa.Cl
open Go.RowKit Go.Proofs.YtfbgkcadnmcakaaW.PrintWords Go.Proofs.Ytfbgkcadnmcakaa.Given Go.Proofs.Ytfbgkcadnmcakaa.Px
set_option linter.unusedVariables false
set_option linter.unusedSimpArgs false
def regF (M : List (Int × S30)) (l : List S30) : List (Int × S30) := l.foldl (fun M x => mput M x.f0 x) M
theorem b0n {α : Type} (M : List (Int × α)) (k : Int) (v : α) : (mput M k v).length = if (a2h M k).isSome = true then M.length else M.length + 1 := by
  cases h : a2h M k with
  | none => rw [a5s h]; rfl
  | some w => rw [a5t h]; rfl
theorem a5a {α : Type} (k j : Int) (v : α) : ∀ M : List (Int × α), a2h (mput M k v) j = if k = j then some v else a2h M j
  | [] => by
    show (if k = j then some v else none) = _
    rfl
  | p :: t => by
    rw [mput]
    by_cases c : p.1 = k
    · rw [if_pos c, a2h, a2h]
      by_cases d : k = j
      · rw [if_pos (by omega), if_pos d]
      · rw [if_neg (by omega), if_neg d, if_neg (by omega)]
    · rw [if_neg c, a2h, a2h, a5a k j v t]
      by_cases d : k = j
      · rw [if_neg (show ¬ p.1 = j by omega), if_pos d, if_pos d]
      · rw [if_neg d, if_neg d]
theorem b1h : ∀ (l : List S30) (M : List (Int × S30)), (regF M l).length ≤ M.length + l.length
  | [], M => Nat.le_refl _
  | x :: t, M => by
    have := b1h t (mput M x.f0 x)
    have h := b0n M x.f0 x
    rw [List.length_cons]
    show (regF (mput M x.f0 x) t).length ≤ _
    split at h <;> omega
theorem b0o : ∀ (l : List S30) (M : List (Int × S30)), (regF M l).length = M.length + l.length ↔ (l.map (·.f0)).Nodup ∧ ∀ x ∈ l, a2h M x.f0 = none
  | [], M => by simp [regF]
  | x :: t, M => by
    show (regF (mput M x.f0 x) t).length = _ ↔ _
    have h := b0n M x.f0 x
    rw [List.map_cons, List.nodup_cons]
    cases e : a2h M x.f0 with
    | some w =>
      rw [e] at h
      have h : (mput M x.f0 x).length = M.length := h
      have := b1h t (mput M x.f0 x)
      constructor
      · intro q
        rw [List.length_cons] at q
        omega
      · intro q
        have := q.2 x List.mem_cons_self
        rw [e] at this
        cases this
    | none =>
      rw [e] at h
      have h : (mput M x.f0 x).length = M.length + 1 := h
      have ih := b0o t (mput M x.f0 x)
      rw [h] at ih
      rw [show M.length + (x :: t).length = M.length + 1 + t.length by rw [List.length_cons]; omega, ih]
      constructor
      · rintro ⟨h1, h2⟩
        refine ⟨⟨fun hm => ?_, h1⟩, fun y hy => ?_⟩
        · obtain ⟨y, hy, e2⟩ := List.mem_map.1 hm
          have := h2 y hy
          rw [a5a, if_pos e2.symm] at this
          cases this
        · rcases List.mem_cons.1 hy with q | q
          · rw [q]; exact e
          · have := h2 y q
            rw [a5a] at this
            split at this
            · cases this
            · exact this
      · rintro ⟨⟨h0, h1⟩, h2⟩
        refine ⟨h1, fun y hy => ?_⟩
        rw [a5a, if_neg (fun q => h0 (by rw [q]; exact List.mem_map_of_mem hy))]
        exact h2 y (List.mem_cons_of_mem _ hy)
theorem b5c (l : List S30) (hl : (l.length : Int) ≤ 9223372036854775807) : ∀ (n : Nat) (i : Int), 0 ≤ i → i + n = l.length →
    Ev (fun k => a0p.l0 k l (l.length : Int) i) ((l.drop i.toNat).all a4z) := by
  intro n
  induction n with
  | zero =>
    intro i i0 hi
    rw [dropEnd l (by omega)]
    exact evUp 0 fun k _ => by rw [a0p.l0, if_neg (by omega)]; rfl
  | succ n ih =>
    intro i i0 hi
    obtain ⟨K, hK⟩ := ih (i + 1) (by omega) (by omega)
    dsimp only at hK
    obtain ⟨K2, h2⟩ := b0l (a0b l i)
    dsimp only at h2
    refine evUp (K + K2) fun k hk => ?_
    rw [a0p.l0, if_pos (by omega), if_pos i0, if_pos (by omega), h2 k (by omega), Option.bind_some, a8i l i0 (by omega), List.all_cons, w64 (by omega) (by omega)]
    cases a4z (a0b l i) with
    | true => rw [if_pos rfl, hK k (by omega)]; rfl
    | false => rfl
def b1x (l : List S30) : Bool := decide (l.map (·.f0)).Nodup
def okC (l : List S30) : Bool := decide (l.length ≤ 100) && (b1x l && l.all a4z)
theorem b5d (l : List S30) (hl : (l.length : Int) ≤ 9223372036854775807) : ∀ (n : Nat) (i : Int) (M : List (Int × S30)), 0 ≤ i → i + n = l.length → regF M (l.drop i.toNat) = regF [] l →
    Ev (fun k => a1m.l0 k l l (l.length : Int) i M) (regF [] l, okC l) := by
  intro n
  induction n with
  | zero =>
    intro i M i0 hi hM
    rw [dropEnd l (by omega)] at hM
    have hM : M = regF [] l := hM
    obtain ⟨K, hK⟩ := b5c l hl l.length 0 (by omega) (by omega)
    dsimp only at hK
    refine evUp K fun k hk => ?_
    have hlen := b0o l []
    rw [a1m.l0, if_neg (by omega), hM]
    unfold a0p.f
    rw [hK k hk, Option.bind_some]
    unfold okC b1x
    by_cases c1 : (l.length : Int) ≤ 100
    · rw [if_pos c1, decide_eq_true (show l.length ≤ 100 by omega)]
      by_cases c2 : ((regF [] l).length : Int) = (l.length : Int)
      · rw [if_pos c2]
        have := (hlen.1 (by simp; omega)).1
        rw [decide_eq_true this]
        rfl
      · rw [if_neg c2]
        rw [decide_eq_false (fun h => c2 (by have := hlen.2 ⟨h, fun _ _ => rfl⟩; simp at this; omega))]
        rfl
    · rw [if_neg c1, decide_eq_false (by omega)]
      rfl
  | succ n ih =>
    intro i M i0 hi hM
    rw [a8i l i0 (by omega)] at hM
    obtain ⟨K, hK⟩ := ih (i + 1) (mput M (a0b l i).f0 (a0b l i)) (by omega) (by omega) hM
    dsimp only at hK
    refine evUp K fun k hk => ?_
    rw [a1m.l0, if_pos (by omega), if_pos i0, if_pos (by omega), w64 (by omega) (by omega)]
    exact hK k hk
theorem b5e (l : List S30) (hl : (l.length : Int) ≤ 9223372036854775807) : Ev (fun k => a1m.f k l) (regF [] l, okC l) :=
  b5d l hl l.length 0 [] (by omega) (by omega) rfl
theorem b3y (l : List S30) (hl : (l.length : Int) ≤ 9223372036854775807) : Ev (fun k => a2b.f k l) (okC l) := by
  obtain ⟨K, hK⟩ := b5e l hl
  dsimp only at hK
  refine ⟨K, fun k hk => ?_⟩
  dsimp only
  unfold a2b.f
  rw [hK k hk, Option.bind_some]
theorem b1i {l : List S30} (h : okC l = true) : l.length ≤ 100 := by
  unfold okC at h
  rw [Bool.and_eq_true, decide_eq_true_eq] at h
  exact h.1
theorem a7j {l : List S30} (h : okC l = true) : (l.map (·.f0)).Nodup := by
  unfold okC b1x at h
  rw [Bool.and_eq_true, Bool.and_eq_true, decide_eq_true_eq, decide_eq_true_eq] at h
  exact h.2.1
def blF (M : List (Int × Bool)) (b : List Int) : List (Int × Bool) := b.foldl (fun M n => mput M n true) M
theorem b1y (M : List (Int × Bool)) (k j : Int) (v : Bool) : a3q (mput M k v) j = if k = j then v else a3q M j := by
  unfold a3q
  rw [a5a]
  split <;> rfl
theorem b1j (j : Int) : ∀ (b : List Int) (M : List (Int × Bool)), a3q (blF M b) j = (a3q M j || b.contains j)
  | [], M => by
    show a3q M j = (a3q M j || false)
    rw [Bool.or_false]
  | n :: t, M => by
    show a3q (blF (mput M n true) t) j = _
    rw [b1j j t, b1y, List.contains_cons]
    by_cases c : n = j
    · rw [if_pos c, c, beq_self_eq_true]; simp
    · rw [if_neg c, beq_false_of_ne (fun h => c h.symm), Bool.false_or]
def canB (a : List S26) (who : Int) (b : List Int) (day : Int) (x : S30) : Bool := decide (x.f4.f0 ≤ day ∧ day < x.f4.f1) && (b.contains x.f1 && (a4g x.f0 day x.f2 (a2x a) == who))
def a3t (l : List S30) (a : List S26) (who : Int) (b : List Int) (day : Int) : List Int × Int :=
  if (okC l && (okA a && (numB who && dayB day))) = true then ((l.filter (canB a who b day)).map (·.f0), 0) else ([], 1)
theorem b3z (l : List S30) (hl : l.length ≤ 100) (a : List S26) (ha : a.length ≤ 1000) (who day : Int) (b : List Int) (M : List (Int × Bool)) (hM : ∀ j, a3q M j = b.contains j) :
    ∀ (n : Nat) (i : Int) (out : List Int), 0 ≤ i → i + n = l.length → out.length ≤ i →
    Ev (fun k => a0i.l1 k (a2x a) who day out l (l.length : Int) i M) (out ++ ((l.drop i.toNat).filter (canB a who b day)).map (·.f0), 0) := by
  intro n
  induction n with
  | zero =>
    intro i out i0 hi ho
    rw [dropEnd l (by omega)]
    refine evUp 0 fun k _ => ?_
    rw [a0i.l1, if_neg (by omega)]
    simp
  | succ n ih =>
    intro i out i0 hi ho
    obtain ⟨x, hx⟩ : ∃ x, x = a0b l i := ⟨_, rfl⟩
    obtain ⟨K1, h1⟩ := ih (i + 1) (out ++ [x.f0]) (by omega) (by omega) (by rw [List.length_append, List.length_singleton]; omega)
    obtain ⟨K2, h2⟩ := ih (i + 1) out (by omega) (by omega) (by omega)
    obtain ⟨K3, h3⟩ := a9i x (a2x a) (by rw [a9h]; omega) day
    dsimp only at h1 h2 h3
    have hno : ∀ k, K2 ≤ k → ∀ q0 q1 q2 q3 q4 q5, a0i.j3 (k + 1) (a2x a) who day out l (l.length : Int) i false M q0 q1 q2 q3 q4 q5 = some (out ++ ((l.drop (i + 1).toNat).filter (canB a who b day)).map (·.f0), 0) := fun k hk q0 q1 q2 q3 q4 q5 => by
      rw [a0i.j3, if_neg (by decide), w64 (by omega) (by omega)]
      exact h2 k hk
    refine evUp (K1 + K2 + K3 + 1) fun k hk => ?_
    obtain ⟨k, rfl⟩ : ∃ j, k = j + 1 := ⟨k - 1, by omega⟩
    rw [a0i.l1, if_pos (by omega), if_pos i0, if_pos (by omega), a8i l i0 (by omega), List.filter_cons, ← hx, hM]
    by_cases c1 : x.f4.f0 ≤ day
    · rw [if_pos c1]
      by_cases c2 : day < x.f4.f1
      · rw [if_pos c2]
        by_cases c3 : b.contains x.f1 = true
        · rw [if_pos c3, h3 _ (by omega), Option.bind_some]
          by_cases c4 : a4g x.f0 day x.f2 (a2x a) = who
          · have e : canB a who b day x = true := by
              unfold canB
              rw [decide_eq_true ⟨c1, c2⟩, c3, beq_iff_eq.2 c4]
              rfl
            rw [if_pos e, beq_iff_eq.2 c4, a0i.j3, if_pos rfl, if_pos (by omega), w64 (by omega) (by omega), h1 k (by omega)]
            simp
          · have e : ¬ canB a who b day x = true := by
              unfold canB
              rw [Bool.and_eq_true, Bool.and_eq_true]
              exact fun h => c4 (beq_iff_eq.1 h.2.2)
            rw [if_neg e, beq_false_of_ne c4]
            exact hno k (by omega) _ _ _ _ _ _
        · have e : ¬ canB a who b day x = true := by
            unfold canB
            rw [Bool.and_eq_true, Bool.and_eq_true]
            exact fun h => c3 h.2.1
          rw [if_neg c3, if_neg e]
          exact hno k (by omega) _ _ _ _ _ _
      · have e : ¬ canB a who b day x = true := by
          unfold canB
          rw [Bool.and_eq_true, decide_eq_true_eq]
          exact fun h => c2 h.1.2
        rw [if_neg c2, if_neg e]
        exact hno k (by omega) _ _ _ _ _ _
    · have e : ¬ canB a who b day x = true := by
        unfold canB
        rw [Bool.and_eq_true, decide_eq_true_eq]
        exact fun h => c1 h.1.1
      rw [if_neg c1, if_neg e]
      exact hno k (by omega) _ _ _ _ _ _
theorem b4a (l : List S30) (hl : l.length ≤ 100) (a : List S26) (ha : a.length ≤ 1000) (who day : Int) (b : List Int) (hb : (b.length : Int) ≤ 9223372036854775807) :
    ∀ (n : Nat) (i : Int) (M : List (Int × Bool)), 0 ≤ i → i + n = b.length → blF M (b.drop i.toNat) = blF [] b →
    Ev (fun k => a0i.l0 k l a who day b (b.length : Int) i M) ((l.filter (canB a who b day)).map (·.f0), 0) := by
  intro n
  induction n with
  | zero =>
    intro i M i0 hi hM
    rw [dropEnd b (by omega)] at hM
    have hM : M = blF [] b := hM
    obtain ⟨K1, h1⟩ := b0m a (by omega)
    obtain ⟨K2, h2⟩ := b3z l hl a ha who day b M (fun j => by rw [hM, b1j]; rfl) l.length 0 [] (by omega) (by omega) (by simp)
    dsimp only at h1 h2
    refine evUp (K1 + K2) fun k hk => ?_
    rw [a0i.l0, if_neg (by omega), h1 k (by omega), Option.bind_some, h2 k (by omega)]
    rfl
  | succ n ih =>
    intro i M i0 hi hM
    rw [b1w b i0 (by omega)] at hM
    obtain ⟨K, hK⟩ := ih (i + 1) (mput M (rd b i) true) (by omega) (by omega) hM
    dsimp only at hK
    refine evUp K fun k hk => ?_
    rw [a0i.l0, if_pos (by omega), if_pos i0, if_pos (by omega), w64 (by omega) (by omega)]
    exact hK k hk
theorem b4b (l : List S30) (hl : (l.length : Int) ≤ 9223372036854775807) (a : List S26) (who : Int) (b : List Int) (hb : (b.length : Int) ≤ 9223372036854775807) (day : Int) :
    Ev (fun k => a0i.f k l a who b day) (a3t l a who b day) := by
  obtain ⟨K1, h1⟩ := b3y l hl
  obtain ⟨K2, h2⟩ := a8k a
  obtain ⟨K3, h3⟩ := a6r [who] (by simp)
  dsimp only at h1 h2 h3
  have e3 : [who].all numB = numB who := by simp
  rw [e3] at h3
  unfold a3t
  have hno : ∀ k, a0i.j0 (k + 1) l a who b day true = some ([], 1) := fun k => by rw [a0i.j0, if_pos rfl]
  by_cases c1 : okC l = true
  · by_cases c2 : okA a = true
    · by_cases c3 : numB who = true
      · by_cases c4 : dayB day = true
        · obtain ⟨K4, h4⟩ := b4a l (b1i c1) a (b1g c2) who day b hb b.length 0 [] (by omega) (by omega) rfl
          dsimp only at h4
          refine ⟨K1 + K2 + K3 + K4 + 1, fun k hk => ?_⟩
          obtain ⟨k, rfl⟩ : ∃ j, k = j + 1 := ⟨k - 1, by omega⟩
          dsimp only
          unfold a0i.f
          rw [h1 _ (by omega), Option.bind_some, if_pos c1, h2 _ (by omega), Option.bind_some, if_pos c2, h3 _ (by omega), Option.bind_some, if_pos c3, a5z, Option.bind_some, c4, a0i.j0, if_neg (by decide), h4 k (by omega), c1, c2, c3]
          rfl
        · refine ⟨K1 + K2 + K3 + 1, fun k hk => ?_⟩
          obtain ⟨k, rfl⟩ : ∃ j, k = j + 1 := ⟨k - 1, by omega⟩
          rw [Bool.not_eq_true] at c4
          dsimp only
          unfold a0i.f
          rw [h1 _ (by omega), Option.bind_some, if_pos c1, h2 _ (by omega), Option.bind_some, if_pos c2, h3 _ (by omega), Option.bind_some, if_pos c3, a5z, Option.bind_some, c4, c1, c2, c3]
          exact hno k
      · refine ⟨K1 + K2 + K3 + 1, fun k hk => ?_⟩
        obtain ⟨k, rfl⟩ : ∃ j, k = j + 1 := ⟨k - 1, by omega⟩
        dsimp only
        unfold a0i.f
        rw [h1 _ (by omega), Option.bind_some, if_pos c1, h2 _ (by omega), Option.bind_some, if_pos c2, h3 _ (by omega), Option.bind_some, if_neg c3, hno]
        rw [Bool.not_eq_true] at c3
        rw [c1, c2, c3]
        rfl
    · refine ⟨K1 + K2 + 1, fun k hk => ?_⟩
      obtain ⟨k, rfl⟩ : ∃ j, k = j + 1 := ⟨k - 1, by omega⟩
      dsimp only
      unfold a0i.f
      rw [h1 _ (by omega), Option.bind_some, if_pos c1, h2 _ (by omega), Option.bind_some, if_neg c2, hno]
      rw [Bool.not_eq_true] at c2
      rw [c1, c2]
      rfl
  · refine ⟨K1 + 1, fun k hk => ?_⟩
    obtain ⟨k, rfl⟩ : ∃ j, k = j + 1 := ⟨k - 1, by omega⟩
    dsimp only
    unfold a0i.f
    rw [h1 _ (by omega), Option.bind_some, if_neg c1, hno]
    rw [Bool.not_eq_true] at c1
    rw [c1]
    rfl
end Go.Proofs.Ytfbgkcadnmcakaa.Cl
