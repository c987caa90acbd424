/- The sums of weights, whatever each member's own weight, and meetings in which the shares are others. Conditions: as each theorem states. -/
import Derived.Test.YtemnlgefngjliaaMtE
namespace Go.Proofs.Ytemnlgefngjliaa.Meet
open Go.RowKit Go.Proofs.YtemnlgefngjliaaW.PrintWords Go.Proofs.Ytemnlgefngjliaa.Given Go.Proofs.Ytemnlgefngjliaa.Px
open Go.Proofs.Ytemnlgefngjliaa.Cal
set_option linter.unusedVariables false
set_option linter.unusedSimpArgs false
noncomputable def a6a (own : S43 → Int) (vs : List S43) (here : List Int) : Nat → Int → Int
  | 0, _ => 0
  | n + 1, i => (if 0 ≤ byI vs here i then own (a0a vs i) else 0) + a6a own vs here n (i + 1)
theorem b7g {own : S43 → Int} {vs : List S43} {here : List Int} (hl : vs.length ≤ 64) (hown : ∀ j : Int, 0 ≤ j → j < vs.length → 0 ≤ own (a0a vs j) ∧ own (a0a vs j) ≤ 1000) : ∀ (n : Nat) (i : Int) (o : List Int), 0 ≤ i → i + n = vs.length → o.length = vs.length → BD o (1000 * i) →
    sm (W own vs here n i o) = sm o + a6a own vs here n i ∧ BD (W own vs here n i o) (1000 * (i + n)) := by
  intro n
  induction n with
  | zero =>
    intro i o h0 hi ho hb
    exact ⟨by simp [W, a6a], by simpa [W] using hb⟩
  | succ n ih =>
    intro i o h0 hi ho hb
    have hv := hown i h0 (by omega)
    have hs := b4j (own := own) (vs := vs) (here := here) (i := i) (o := o) (M := 1000 * i) (D := 1000) (by omega) ho hb hv (by omega) (by omega) (by omega)
    obtain ⟨e, hb2⟩ := ih (i + 1) (stepW own vs here i o) (by omega) (by omega) (by rw [a5w, ho]) (by rw [show 1000 * (i + 1) = 1000 * i + 1000 by omega]; exact hs)
    refine ⟨?_, ?_⟩
    · rw [W, e, a6a]
      unfold stepW
      by_cases c : 0 ≤ byI vs here i
      · have hlt := a7x (here := here) (show i < vs.length by omega)
        have hk := hb _ c (by omega)
        rw [if_pos c, if_pos c, b3o _ _ _ (by omega), w64 (by omega) (by omega)]
        unfold rd
        omega
      · rw [if_neg c, if_neg c]
        omega
    · rw [W, show i + ((n + 1 : Nat) : Int) = i + 1 + n by omega]
      exact hb2
theorem b6j {vs : List S43} {here : List Int} {k : Int} (k0 : 0 ≤ k) (hm : ¬ (a0a vs k).f0 ∈ here) (i : Int) : byI vs here i ≠ k := by
  intro q
  unfold byI at q
  by_cases c1 : (a0a vs i).f0 ∈ here
  · rw [if_pos c1] at q
    subst q
    exact hm c1
  · rw [if_neg c1] at q
    by_cases c2 : (a0a vs i).f2 ∈ here
    · rw [if_pos c2] at q
      have a := a9j (vs := vs) (x := (a0a vs i).f2) (by rw [q]; exact k0)
      rw [q] at a
      rw [a.2.2] at hm
      exact hm c2
    · rw [if_neg c2] at q
      omega
theorem b6k {own : S43 → Int} {vs : List S43} {here : List Int} {k : Int} (k0 : 0 ≤ k) (hm : ¬ (a0a vs k).f0 ∈ here) : ∀ (n : Nat) (i : Int) (o : List Int), i + n = vs.length → o.length = vs.length → rd (W own vs here n i o) k = rd o k := by
  intro n
  induction n with
  | zero => intro i o _ _; rfl
  | succ n ih =>
    intro i o hi ho
    rw [W, ih (i + 1) _ (by omega) (by rw [a5w, ho])]
    unfold stepW
    by_cases c : 0 ≤ byI vs here i
    · have hlt := a7x (here := here) (show i < vs.length by omega)
      rw [if_pos c, b3p _ _ _ _ c (by omega) k0, if_neg (fun q => b6j k0 hm i q.symm)]
    · rw [if_neg c]
theorem a9o {vs : List S43} {here : List Int} (g : Good vs here) (b : Bool) (j : Int) (j0 : 0 ≤ j) (j1 : j < vs.length) : 0 ≤ ownT b (a0a vs j) ∧ ownT b (a0a vs j) ≤ 1000 := by
  have h := of_decide_eq_true (g.ok j j0 j1)
  unfold ownT
  split <;> omega
theorem b6l {vs : List S43} {here : List Int} (g : Good vs here) (b : Bool) : sm (wgt (ownT b) vs here) = a6a (ownT b) vs here vs.length 0 ∧ BD (wgt (ownT b) vs here) 64000 := by
  obtain ⟨e, hb⟩ := b7g (here := here) g.lv (a9o g b) vs.length 0 (List.replicate vs.length 0) (by omega) (by omega) (by rw [List.length_replicate]) (b1a _ (by omega))
  have hlv := g.lv
  have hb' : BD (wgt (ownT b) vs here) (1000 * (0 + (vs.length : Int))) := hb
  refine ⟨?_, fun j j0 j1 => by have := hb' j j0 j1; omega⟩
  unfold wgt
  rw [e, a7z]
  omega
theorem b4k {own : S43 → Int} {vs : List S43} {here : List Int} {k : Int} (k0 : 0 ≤ k) (hm : ¬ (a0a vs k).f0 ∈ here) : rd (wgt own vs here) k = 0 := by
  unfold wgt
  rw [b6k k0 hm vs.length 0 _ (by omega) (by rw [List.length_replicate]), a7y]
theorem b5n {vs : List S43} {here : List Int} (g : Good vs here) {i : Int} (h0 : 0 ≤ i) (h1 : i < vs.length) : 0 ≤ byI vs here i ↔ ((a0a vs i).f0 ∈ here ∨ (a0a vs i).f2 ≠ 0 ∧ (a0a vs i).f2 ∈ here) := by
  unfold byI
  by_cases c1 : (a0a vs i).f0 ∈ here
  · rw [if_pos c1]
    exact ⟨fun _ => .inl c1, fun _ => h0⟩
  · rw [if_neg c1]
    by_cases c2 : (a0a vs i).f2 ∈ here
    · rw [if_pos c2]
      refine ⟨fun _ => .inr ⟨fun e => ?_, c2⟩, fun _ => g.hi _ c2⟩
      have := g.hi _ c2
      rw [e, b5j g] at this
      omega
    · rw [if_neg c2]
      constructor
      · intro h; omega
      · rintro (h | h)
        · exact absurd h c1
        · exact absurd h.2 c2
def mv (s : S43) : S43 := ⟨s.f0, 1000 - s.f1, s.f2⟩
def Mir (vs : List S43) (i : Int) (o : List S43) : Prop := o.length = vs.length ∧ ∀ j : Int, 0 ≤ j → j < vs.length → a0a o j = if j < i then mv (a0a vs j) else a0a vs j
theorem b4l (l : List S43) (k j : Int) (v : S43) (h0 : 0 ≤ k) (h1 : k < l.length) (j0 : 0 ≤ j) : a0a (l.set k.toNat v) j = if j = k then v else a0a l j := by
  unfold a0a
  by_cases c : j = k
  · subst c
    rw [if_pos rfl, List.getD_eq_getElem?_getD, List.getElem?_set_self (by omega), Option.getD_some]
  · rw [if_neg c, List.getD_eq_getElem?_getD, List.getElem?_set_ne (by omega), List.getD_eq_getElem?_getD]
theorem Mir.step {vs o : List S43} {i : Int} (h : Mir vs i o) (h0 : 0 ≤ i) (h1 : i < vs.length) : Mir vs (i + 1) (o.set i.toNat ⟨(a0a o i).f0, 1000 - (a0a vs i).f1, (a0a o i).f2⟩) := by
  refine ⟨by rw [List.length_set, h.1], fun j j0 j1 => ?_⟩
  rw [b4l _ _ _ _ h0 (by rw [h.1]; exact h1) j0]
  by_cases c : j = i
  · subst c
    rw [if_pos rfl, if_pos (by omega), h.2 j h0 h1, if_neg (by omega)]
    rfl
  · rw [if_neg c, h.2 j j0 j1]
    by_cases d : j < i
    · rw [if_pos d, if_pos (by omega)]
    · rw [if_neg d, if_neg (by omega)]
section
variable {vs o : List S43} {here : List Int}
theorem a6g (h : Mir vs vs.length o) (j : Int) (j0 : 0 ≤ j) (j1 : j < vs.length) : a0a o j = mv (a0a vs j) := by
  rw [h.2 j j0 j1, if_pos j1]
theorem b2e (h : Mir vs vs.length o) (hs : a3v vs) : a3v o := by
  intro a b a0 ab b1
  rw [h.1] at b1
  rw [a6g h a a0 (by omega), a6g h b (by omega) b1]
  exact hs a b a0 ab b1
theorem a9p (h : Mir vs vs.length o) (hs : a3v vs) (x : Int) : idxV o x = idxV vs x := by
  by_cases c : 0 ≤ idxV vs x
  · have a := a9j c
    exact a9k (b2e h hs) ⟨a.1, by rw [h.1]; exact a.2.1, by rw [a6g h _ a.1 a.2.1]; exact a.2.2⟩
  · have n : ∀ t : Int, 0 ≤ t → t < vs.length → (a0a vs t).f0 ≠ x := fun t a b e => c (b4g ⟨a, b, e⟩)
    rw [a6n n, a6n (fun t a b e => by
      rw [h.1] at b
      rw [a6g h t a b] at e
      exact n t a b e)]
theorem b4u : ∀ {n : Nat} {i : Int}, (∀ j : Int, i ≤ j → j < i + n → okv vs j = true) → vA vs n i = true
  | 0, i, _ => rfl
  | n + 1, i, h => by
    rw [vA, h i (by omega) (by omega), b4u (fun j a b => h j (by omega) (by omega))]
    rfl
theorem b4v : ∀ {n : Nat} {i : Int}, (∀ j : Int, i ≤ j → j < i + n → okp vs j = true) → vB vs n i = true
  | 0, i, _ => rfl
  | n + 1, i, h => by
    rw [vB, h i (by omega) (by omega), b4v (fun j a b => h j (by omega) (by omega))]
    rfl
theorem b2f (h : Mir vs vs.length o) (g : Good vs here) : a3y o = true := by
  unfold a3y
  have e1 : vA o o.length 0 = true := b4u fun j a b => by
    rw [h.1] at b
    have k := of_decide_eq_true (g.ok j a (by omega))
    unfold okv
    rw [decide_eq_true_eq, a6g h j a (by omega)]
    refine ⟨k.1, k.2.1, fun c => ?_, ?_, ?_⟩
    · rw [a6g h (j - 1) (by omega) (by omega)]
      exact k.2.2.1 c
    · show 0 ≤ 1000 - (a0a vs j).f1
      omega
    · show 1000 - (a0a vs j).f1 ≤ 1000
      omega
  have e2 : vB o o.length 0 = true := b4v fun j a b => by
    rw [h.1] at b
    have k := g.px j a (by omega)
    unfold okp at k ⊢
    rw [a6g h j a (by omega), a9p h g.sv]
    exact k
  rw [e1, e2, h.1, decide_eq_true g.lv]
  rfl
theorem b3q (h : Mir vs vs.length o) (hs : a3v vs) : ∀ (n : Nat) (i : Int), hB o here n i = hB vs here n i
  | 0, _ => rfl
  | n + 1, i => by
    rw [hB, hB, b3q h hs n (i + 1)]
    unfold okh
    rw [a9p h hs]
theorem b3r {m0 m1 m2 : Int} {ag : List ByteArray} (h : Mir vs vs.length o) (hv : a5a m0 m1 m2 ag vs here = true) : a5a m0 m1 m2 ag o here = true := by
  have g := a6e hv
  unfold a5a at hv ⊢
  simp only [Bool.and_eq_true] at hv ⊢
  exact ⟨hv.1, hv.2.1, hv.2.2.1, hv.2.2.2.1, b2f h g, by rw [b3q h g.sv]; exact hv.2.2.2.2.2⟩
theorem b5o (h : Mir vs vs.length o) (hs : a3v vs) (i : Int) (h0 : 0 ≤ i) (h1 : i < vs.length) : byI o here i = byI vs here i := by
  unfold byI
  rw [a6g h i h0 h1, a9p h hs]
  rfl
theorem b4w (h : Mir vs vs.length o) (hs : a3v vs) : ∀ (n : Nat) (i : Int) (l : List Int), 0 ≤ i → i + n = vs.length → W (fun _ => 1) o here n i l = W (fun _ => 1) vs here n i l
  | 0, _, _, _, _ => rfl
  | n + 1, i, l, h0, hi => by
    rw [W, W, b4w h hs n (i + 1) _ (by omega) (by omega)]
    congr 1
    unfold stepW
    rw [b5o h hs i h0 (by omega)]
theorem b5p (h : Mir vs vs.length o) (hs : a3v vs) : wgt (ownT true) o here = wgt (ownT true) vs here := by
  show W (fun _ => 1) o here o.length 0 (List.replicate o.length 0) = W (fun _ => 1) vs here vs.length 0 (List.replicate vs.length 0)
  rw [h.1]
  exact b4w h hs vs.length 0 _ (by omega) (by omega)
end
end Go.Proofs.Ytemnlgefngjliaa.Meet
