/- The register of claims, and which claims can be raised. Conditions: as each theorem states. -/
import Derived.Test.YtfbgkcadnmcakaaClA
import Derived.Test.YtfbgkcadnmcakaaPx11
import Derived.Test.YtfbgkcadnmcakaaPx12
namespace Go.Proofs.Ytfbgkcadnmcakaa.Cl
open Go.RowKit Go.Proofs.YtfbgkcadnmcakaaW.PrintWords Go.Proofs.Ytfbgkcadnmcakaa.Given Go.Proofs.Ytfbgkcadnmcakaa.Px
set_option linter.unusedVariables false
set_option linter.unusedSimpArgs false
def regF (M : List (Int × S30)) (l : List S30) : List (Int × S30) := l.foldl (fun M x => mput M x.f0 x) M
theorem b0k {α : Type} (M : List (Int × α)) (k : Int) (v : α) : (mput M k v).length = if (a2m M k).isSome = true then M.length else M.length + 1 := by
  cases h : a2m M k with
  | none => rw [a6e h]; rfl
  | some w => rw [a6f h]; rfl
theorem a4t {α : Type} (k j : Int) (v : α) : ∀ M : List (Int × α), a2m (mput M k v) j = if k = j then some v else a2m M j
  | [] => by
    show (if k = j then some v else none) = _
    rfl
  | p :: t => by
    rw [mput]
    by_cases c : p.1 = k
    · rw [if_pos c, a2m, a2m]
      by_cases d : k = j
      · rw [if_pos (by omega), if_pos d]
      · rw [if_neg (by omega), if_neg d, if_neg (by omega)]
    · rw [if_neg c, a2m, a2m, a4t k j v t]
      by_cases d : k = j
      · rw [if_neg (show ¬ p.1 = j by omega), if_pos d, if_pos d]
      · rw [if_neg d, if_neg d]
theorem a9l (j : Int) : ∀ (l : List S30) (M : List (Int × S30)), (l.map (·.f0)).Nodup → (∀ x ∈ l, a2m M x.f0 = none) → a2m (regF M l) j = match l.find? (fun x => decide (x.f0 = j)) with | some x => some x | none => a2m M j
  | [], M, _, _ => rfl
  | x :: t, M, h, hM => by
    rw [List.map_cons, List.nodup_cons] at h
    have hx : ∀ y ∈ t, a2m (mput M x.f0 x) y.f0 = none := fun y hy => by
      rw [a4t, if_neg (fun e => h.1 (by rw [e]; exact List.mem_map_of_mem hy))]
      exact hM y (List.mem_cons_of_mem _ hy)
    show a2m (regF (mput M x.f0 x) t) j = _
    rw [a9l j t _ h.2 hx, List.find?_cons, a4t]
    by_cases c : x.f0 = j
    · rw [decide_eq_true c, if_pos c]
      cases e : t.find? (fun x => decide (x.f0 = j)) with
      | none => rfl
      | some y =>
        have := List.find?_some e
        rw [decide_eq_true_eq] at this
        exact absurd (List.mem_map_of_mem (f := (·.f0)) (List.mem_of_find?_eq_some e)) (by rw [this, ← c]; exact h.1)
    · rw [decide_eq_false c, if_neg c]
theorem b1f : ∀ (l : List S30) (M : List (Int × S30)), (regF M l).length ≤ M.length + l.length
  | [], M => Nat.le_refl _
  | x :: t, M => by
    have := b1f t (mput M x.f0 x)
    have h := b0k M x.f0 x
    rw [List.length_cons]
    show (regF (mput M x.f0 x) t).length ≤ _
    split at h <;> omega
theorem b0l : ∀ (l : List S30) (M : List (Int × S30)), (regF M l).length = M.length + l.length ↔ (l.map (·.f0)).Nodup ∧ ∀ x ∈ l, a2m M x.f0 = none
  | [], M => by simp [regF]
  | x :: t, M => by
    show (regF (mput M x.f0 x) t).length = _ ↔ _
    have h := b0k M x.f0 x
    rw [List.map_cons, List.nodup_cons]
    cases e : a2m M x.f0 with
    | some w =>
      rw [e] at h
      have h : (mput M x.f0 x).length = M.length := h
      have := b1f t (mput M x.f0 x)
      constructor
      · intro q
        rw [List.length_cons] at q
        omega
      · intro q
        have := q.2 x List.mem_cons_self
        rw [e] at this
        cases this
    | none =>
      rw [e] at h
      have h : (mput M x.f0 x).length = M.length + 1 := h
      have ih := b0l t (mput M x.f0 x)
      rw [h] at ih
      rw [show M.length + (x :: t).length = M.length + 1 + t.length by rw [List.length_cons]; omega, ih]
      constructor
      · rintro ⟨h1, h2⟩
        refine ⟨⟨fun hm => ?_, h1⟩, fun y hy => ?_⟩
        · obtain ⟨y, hy, e2⟩ := List.mem_map.1 hm
          have := h2 y hy
          rw [a4t, if_pos e2.symm] at this
          cases this
        · rcases List.mem_cons.1 hy with q | q
          · rw [q]; exact e
          · have := h2 y q
            rw [a4t] at this
            split at this
            · cases this
            · exact this
      · rintro ⟨⟨h0, h1⟩, h2⟩
        refine ⟨h1, fun y hy => ?_⟩
        rw [a4t, if_neg (fun q => h0 (by rw [q]; exact List.mem_map_of_mem hy))]
        exact h2 y (List.mem_cons_of_mem _ hy)
theorem b4j (l : List S30) (hl : (l.length : Int) ≤ 9223372036854775807) : ∀ (n : Nat) (i : Int), 0 ≤ i → i + n = l.length →
    Ev (fun k => a0u.l0 k l (l.length : Int) i) ((l.drop i.toNat).all a5j) := by
  intro n
  induction n with
  | zero =>
    intro i i0 hi
    rw [dropEnd l (by omega)]
    exact evUp 0 fun k _ => by rw [a0u.l0, if_neg (by omega)]; rfl
  | succ n ih =>
    intro i i0 hi
    obtain ⟨K, hK⟩ := ih (i + 1) (by omega) (by omega)
    dsimp only at hK
    obtain ⟨K2, h2⟩ := b3p (a0a l i)
    dsimp only at h2
    refine evUp (K + K2) fun k hk => ?_
    rw [a0u.l0, if_pos (by omega), if_pos i0, if_pos (by omega), h2 k (by omega), Option.bind_some, a5t l i0 (by omega), List.all_cons, w64 (by omega) (by omega)]
    cases a5j (a0a l i) with
    | true => rw [if_pos rfl, hK k (by omega)]; rfl
    | false => rfl
def b1v (l : List S30) : Bool := decide (l.map (·.f0)).Nodup
def okC (l : List S30) : Bool := decide (l.length ≤ 100) && (b1v l && l.all a5j)
theorem b4k (l : List S30) (hl : (l.length : Int) ≤ 9223372036854775807) : ∀ (n : Nat) (i : Int) (M : List (Int × S30)), 0 ≤ i → i + n = l.length → regF M (l.drop i.toNat) = regF [] l →
    Ev (fun k => a1w.l0 k l l (l.length : Int) i M) (regF [] l, okC l) := by
  intro n
  induction n with
  | zero =>
    intro i M i0 hi hM
    rw [dropEnd l (by omega)] at hM
    have hM : M = regF [] l := hM
    obtain ⟨K, hK⟩ := b4j l hl l.length 0 (by omega) (by omega)
    dsimp only at hK
    refine evUp K fun k hk => ?_
    have hlen := b0l l []
    rw [a1w.l0, if_neg (by omega), hM]
    unfold a0u.f
    rw [hK k hk, Option.bind_some]
    unfold okC b1v
    by_cases c1 : (l.length : Int) ≤ 100
    · rw [if_pos c1, decide_eq_true (show l.length ≤ 100 by omega)]
      by_cases c2 : ((regF [] l).length : Int) = (l.length : Int)
      · rw [if_pos c2]
        have := (hlen.1 (by simp; omega)).1
        rw [decide_eq_true this]
        rfl
      · rw [if_neg c2]
        rw [decide_eq_false (fun h => c2 (by have := hlen.2 ⟨h, fun _ _ => rfl⟩; simp at this; omega))]
        rfl
    · rw [if_neg c1, decide_eq_false (by omega)]
      rfl
  | succ n ih =>
    intro i M i0 hi hM
    rw [a5t l i0 (by omega)] at hM
    obtain ⟨K, hK⟩ := ih (i + 1) (mput M (a0a l i).f0 (a0a l i)) (by omega) (by omega) hM
    dsimp only at hK
    refine evUp K fun k hk => ?_
    rw [a1w.l0, if_pos (by omega), if_pos i0, if_pos (by omega), w64 (by omega) (by omega)]
    exact hK k hk
theorem b4l (l : List S30) (hl : (l.length : Int) ≤ 9223372036854775807) : Ev (fun k => a1w.f k l) (regF [] l, okC l) :=
  b4k l hl l.length 0 [] (by omega) (by omega) rfl
theorem b1g {l : List S30} (h : okC l = true) : l.length ≤ 100 := by
  unfold okC at h
  rw [Bool.and_eq_true, decide_eq_true_eq] at h
  exact h.1
theorem a6q {l : List S30} (h : okC l = true) : (l.map (·.f0)).Nodup := by
  unfold okC b1v at h
  rw [Bool.and_eq_true, Bool.and_eq_true, decide_eq_true_eq, decide_eq_true_eq] at h
  exact h.2.1
theorem a7v {l : List S30} (h : okC l = true) : ∀ x ∈ l, a5j x = true := by
  unfold okC at h
  rw [Bool.and_eq_true, Bool.and_eq_true, List.all_eq_true] at h
  exact h.2.2
theorem b1w (M : List (Int × Bool)) (k j : Int) (v : Bool) : a4s (mput M k v) j = if k = j then v else a4s M j := by
  unfold a4s
  rw [a4t]
  split <;> rfl
end Go.Proofs.Ytfbgkcadnmcakaa.Cl
