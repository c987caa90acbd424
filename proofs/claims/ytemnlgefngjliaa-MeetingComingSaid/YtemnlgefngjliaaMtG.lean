/- The sums of weights, whatever each member's own weight, and meetings in which the shares are others. Conditions: as each theorem states. -/
import Derived.Test.YtemnlgefngjliaaMtE
namespace Go.Proofs.Ytemnlgefngjliaa.Meet
open Go.RowKit Go.Proofs.YtemnlgefngjliaaW.PrintWords Go.Proofs.Ytemnlgefngjliaa.Given Go.Proofs.Ytemnlgefngjliaa.Px
open Go.Proofs.Ytemnlgefngjliaa.Cal
set_option linter.unusedVariables false
set_option linter.unusedSimpArgs false
noncomputable def a6d (own : S43 → Int) (vs : List S43) (here : List Int) : Nat → Int → Int
  | 0, _ => 0
  | n + 1, i => (if 0 ≤ byI vs here i then own (a0a vs i) else 0) + a6d own vs here n (i + 1)
theorem b7v {own : S43 → Int} {vs : List S43} {here : List Int} (hl : vs.length ≤ 64) (hown : ∀ j : Int, 0 ≤ j → j < vs.length → 0 ≤ own (a0a vs j) ∧ own (a0a vs j) ≤ 1000) : ∀ (n : Nat) (i : Int) (o : List Int), 0 ≤ i → i + n = vs.length → o.length = vs.length → BD o (1000 * i) →
    sm (W own vs here n i o) = sm o + a6d own vs here n i ∧ BD (W own vs here n i o) (1000 * (i + n)) := by
  intro n
  induction n with
  | zero =>
    intro i o h0 hi ho hb
    exact ⟨by simp [W, a6d], by simpa [W] using hb⟩
  | succ n ih =>
    intro i o h0 hi ho hb
    have hv := hown i h0 (by omega)
    have hs := b1m (own := own) (vs := vs) (here := here) (i := i) (o := o) (M := 1000 * i) (D := 1000) (by omega) ho hb hv (by omega) (by omega) (by omega)
    obtain ⟨e, hb2⟩ := ih (i + 1) (stepW own vs here i o) (by omega) (by omega) (by rw [a6l, ho]) (by rw [show 1000 * (i + 1) = 1000 * i + 1000 by omega]; exact hs)
    refine ⟨?_, ?_⟩
    · rw [W, e, a6d]
      unfold stepW
      by_cases c : 0 ≤ byI vs here i
      · have hlt := a8i (here := here) (show i < vs.length by omega)
        have hk := hb _ c (by omega)
        rw [if_pos c, if_pos c, b4g _ _ _ (by omega), w64 (by omega) (by omega)]
        unfold rd
        omega
      · rw [if_neg c, if_neg c]
        omega
    · rw [W, show i + ((n + 1 : Nat) : Int) = i + 1 + n by omega]
      exact hb2
theorem b2l {vs : List S43} {here : List Int} (g : Good vs here) (b : Bool) (j : Int) (j0 : 0 ≤ j) (j1 : j < vs.length) : 0 ≤ ownT b (a0a vs j) ∧ ownT b (a0a vs j) ≤ 1000 := by
  have h := of_decide_eq_true (g.ok j j0 j1)
  unfold ownT
  split <;> omega
theorem b4i {vs : List S43} {here : List Int} (g : Good vs here) (b : Bool) : sm (wgt (ownT b) vs here) = a6d (ownT b) vs here vs.length 0 ∧ BD (wgt (ownT b) vs here) 64000 := by
  obtain ⟨e, hb⟩ := b7v (here := here) g.lv (b2l g b) vs.length 0 (List.replicate vs.length 0) (by omega) (by omega) (by rw [List.length_replicate]) (a8m _ (by omega))
  have hlv := g.lv
  have hb' : BD (wgt (ownT b) vs here) (1000 * (0 + (vs.length : Int))) := hb
  refine ⟨?_, fun j j0 j1 => by have := hb' j j0 j1; omega⟩
  unfold wgt
  rw [e, a8l]
  omega
theorem b2m {vs : List S43} {here : List Int} (g : Good vs here) {i : Int} (h0 : 0 ≤ i) (h1 : i < vs.length) : 0 ≤ byI vs here i ↔ ((a0a vs i).f0 ∈ here ∨ (a0a vs i).f2 ≠ 0 ∧ (a0a vs i).f2 ∈ here) := by
  unfold byI
  by_cases c1 : (a0a vs i).f0 ∈ here
  · rw [if_pos c1]
    exact ⟨fun _ => .inl c1, fun _ => h0⟩
  · rw [if_neg c1]
    by_cases c2 : (a0a vs i).f2 ∈ here
    · rw [if_pos c2]
      refine ⟨fun _ => .inr ⟨fun e => ?_, c2⟩, fun _ => g.hi _ c2⟩
      have := g.hi _ c2
      rw [e, b6c g] at this
      omega
    · rw [if_neg c2]
      constructor
      · intro h; omega
      · rintro (h | h)
        · exact absurd h c1
        · exact absurd h.2 c2
def mv (s : S43) : S43 := ⟨s.f0, 1000 - s.f1, s.f2⟩
def Mir (vs : List S43) (i : Int) (o : List S43) : Prop := o.length = vs.length ∧ ∀ j : Int, 0 ≤ j → j < vs.length → a0a o j = if j < i then mv (a0a vs j) else a0a vs j
theorem b5a (l : List S43) (k j : Int) (v : S43) (h0 : 0 ≤ k) (h1 : k < l.length) (j0 : 0 ≤ j) : a0a (l.set k.toNat v) j = if j = k then v else a0a l j := by
  unfold a0a
  by_cases c : j = k
  · subst c
    rw [if_pos rfl, List.getD_eq_getElem?_getD, List.getElem?_set_self (by omega), Option.getD_some]
  · rw [if_neg c, List.getD_eq_getElem?_getD, List.getElem?_set_ne (by omega), List.getD_eq_getElem?_getD]
theorem Mir.step {vs o : List S43} {i : Int} (h : Mir vs i o) (h0 : 0 ≤ i) (h1 : i < vs.length) : Mir vs (i + 1) (o.set i.toNat ⟨(a0a o i).f0, 1000 - (a0a vs i).f1, (a0a o i).f2⟩) := by
  refine ⟨by rw [List.length_set, h.1], fun j j0 j1 => ?_⟩
  rw [b5a _ _ _ _ h0 (by rw [h.1]; exact h1) j0]
  by_cases c : j = i
  · subst c
    rw [if_pos rfl, if_pos (by omega), h.2 j h0 h1, if_neg (by omega)]
    rfl
  · rw [if_neg c, h.2 j j0 j1]
    by_cases d : j < i
    · rw [if_pos d, if_pos (by omega)]
    · rw [if_neg d, if_neg (by omega)]
section
variable {vs o : List S43} {here : List Int}
end
end Go.Proofs.Ytemnlgefngjliaa.Meet
