/- Contracts of Go functions, printed. Conditions: as each theorem states. -/
import Derived.Test.YtemnlgefngjliaaPx0
import Derived.Test.YtemnlgefngjliaaPx17
import Derived.Test.YtemnlgefngjliaaPx23
import Derived.Test.YtemnlgefngjliaaPx28
import Derived.Test.YtemnlgefngjliaaPx14
import Derived.Test.YtemnlgefngjliaaPx22
import Derived.Test.YtemnlgefngjliaaPx27
import Derived.Test.YtemnlgefngjliaaPx25
import Derived.Test.YtemnlgefngjliaaPx13
namespace Go.Proofs.Ytemnlgefngjliaa.Px
open Go.Proofs.Ytemnlgefngjliaa.Given
open Go.RowKit Go.Proofs.YtemnlgefngjliaaW.PrintWords Go.Proofs.YtemnlgefngjliaaW.PrintLast Go.Proofs.YtemnlgefngjliaaW.PrintMore
attribute [local go_sem] a2f a2g a2r a2s a1x a1y a2h a2i
set_option linter.unusedVariables false
set_option linter.unusedSimpArgs false
def a3z.j0 : Nat → Int → Int → Bool → Int → Int → Option (Bool × Int)
 | 0, _, _, _, _, _ => none
 | k + 1, x0, x1, x26, v0, v1 => if x26 = true then (some (false, 1)) else (some (decide ((wrap64 (x0 * v1)) > (wrap64 (v0 * (wrap64 (x0 + x1))))), 0))
def a3z.f (k : Nat) (a0 a1 a2_0 a2_1 : Int) : Option (Bool × Int) := if a0 < 0 then (a3z.j0 k a0 a1 true a2_0 a2_1) else (if a0 > 1000000 then (a3z.j0 k a0 a1 true a2_0 a2_1) else (if a1 < 0 then (a3z.j0 k a0 a1 true a2_0 a2_1) else (if a1 > 1000000 then (a3z.j0 k a0 a1 true a2_0 a2_1) else ((a4m.f k a2_0 a2_1).bind fun t459 => (a3z.j0 k a0 a1 (!t459) a2_0 a2_1)))))
theorem a3z.a0t : ∀ k, (∀ y0 y1 y2 y3 y4, LeO (a3z.j0 k y0 y1 y2 y3 y4) (a3z.j0 (k + 1) y0 y1 y2 y3 y4))
 | 0 => fun _ _ _ _ _ r h => by simp [a3z.j0] at h
 | k + 1 => by
  have ih0 := a3z.a0t k
  ·intro y0 y1 y2 y3 y4
   unfold a3z.j0
   with_reducible (repeat' first | apply ih0 | apply a4m.mono | apply LeO.refl | apply LeO.none | apply LeO.ite | refine LeO.bind ?_ (fun _ => ?_))
theorem a3z.mono : ∀ a0 a1 a2 a3 k, LeO (a3z.f k a0 a1 a2 a3) (a3z.f (k + 1) a0 a1 a2 a3) := by
 intro a0 a1 a2 a3 k
 have ih0 := a3z.a0t k
 unfold a3z.f
 with_reducible (repeat' first | apply ih0 | apply a4m.mono | apply LeO.refl | apply LeO.none | apply LeO.ite | refine LeO.bind ?_ (fun _ => ?_))
end Go.Proofs.Ytemnlgefngjliaa.Px
/- What the reference says of weights and flaws, and that it is what the meeting's own functions say. Conditions: as each theorem states. -/
namespace Go.Proofs.Ytemnlgefngjliaa.Meet
open Go.RowKit Go.Proofs.YtemnlgefngjliaaW.PrintWords Go.Proofs.Ytemnlgefngjliaa.Given Go.Proofs.Ytemnlgefngjliaa.Px
open Go.Proofs.Ytemnlgefngjliaa.Cal
set_option linter.unusedVariables false
set_option linter.unusedSimpArgs false
def sm : List Int → Int
  | [] => 0
  | x :: t => x + sm t
theorem b4w (v : Int) : ∀ (l : List Int) (k : Nat), k < l.length → sm (l.set k v) = sm l - l.getD k 0 + v
  | [], k, h => by simp at h
  | x :: t, 0, h => by simp [sm]; omega
  | x :: t, k + 1, h => by
    have := b4w v t k (by simpa using h)
    simp [sm] at this ⊢
    omega
theorem b8d (l : List Int) (k j v : Int) (h0 : 0 ≤ k) (h1 : k < l.length) (j0 : 0 ≤ j) : rd (l.set k.toNat v) j = if j = k then v else rd l j := by
  unfold rd
  by_cases c : j = k
  · subst c
    rw [if_pos rfl, List.getD_eq_getElem?_getD, List.getElem?_set_self (by omega), Option.getD_some]
  · rw [if_neg c, List.getD_eq_getElem?_getD, List.getElem?_set_ne (by omega), List.getD_eq_getElem?_getD]
def BD (l : List Int) (M : Int) : Prop := ∀ j : Int, 0 ≤ j → j < l.length → 0 ≤ rd l j ∧ rd l j ≤ M
theorem b7c {l : List Int} {M : Int} (hb : BD l M) (hM : 0 ≤ M) (hM2 : M ≤ 1000000) (hl : l.length ≤ 1000) : ∀ (n : Nat) (i s : Int), 0 ≤ i → i + n = l.length → 0 ≤ s → s ≤ M * i → sumF l n i s = s + sm (l.drop i.toNat) := by
  intro n
  induction n with
  | zero =>
    intro i s h0 hi _ _
    rw [List.drop_eq_nil_of_le (by omega)]
    simp [sumF, sm]
  | succ n ih =>
    intro i s h0 hi hs hs2
    have hv := hb i h0 (by omega)
    have e : M * (i + 1) = M * i + M := by rw [Int.mul_add, Int.mul_one]
    have e2 : M * i ≤ 1000000 * 1000 := Int.mul_le_mul hM2 (by omega) h0 (by omega)
    rw [sumF, w64 (by omega) (by omega), ih (i + 1) _ (by omega) (by omega) (by omega) (by omega), a6s l i h0 (by omega)]
    simp only [sm]
    omega
def allE (vs : List S43) : Nat → Int → Int
  | 0, _ => 0
  | n + 1, i => (a0a vs i).f1 + allE vs n (i + 1)
theorem b7d {vs : List S43} (ok : ∀ j : Int, 0 ≤ j → j < vs.length → okv vs j = true) (hl : vs.length ≤ 64) : ∀ (n : Nat) (i s : Int), 0 ≤ i → i + n = vs.length → 0 ≤ s → s ≤ 1000 * i → allF vs n i s = s + allE vs n i := by
  intro n
  induction n with
  | zero => intro i s _ _ _ _; simp [allF, allE]
  | succ n ih =>
    intro i s h0 hi hs hs2
    have hv := of_decide_eq_true (ok i h0 (by omega))
    rw [allF, w64 (by omega) (by omega), ih (i + 1) _ (by omega) (by omega) (by omega) (by omega), allE]
    omega
noncomputable def a4k (vs : List S43) (here : List Int) : Nat → Int → Int
  | 0, _ => 0
  | n + 1, i => (if 0 ≤ byI vs here i then (a0a vs i).f1 else 0) + a4k vs here n (i + 1)
theorem b5u {own : S43 → Int} {vs : List S43} {here : List Int} {i : Int} {o : List Int} {M D : Int} (h1 : i < vs.length) (ho : o.length = vs.length) (hb : BD o M) (hv : 0 ≤ own (a0a vs i) ∧ own (a0a vs i) ≤ D) (hM : M ≤ 1000000000) (hD : D ≤ 1000000) (hM0 : 0 ≤ M) :
    BD (stepW own vs here i o) (M + D) := by
  intro j j0 j1
  rw [a6q] at j1
  unfold stepW
  by_cases c : 0 ≤ byI vs here i
  · have hlt := a9s (here := here) h1
    rw [if_pos c, b8d _ _ _ _ c (by omega) j0]
    have hk := hb _ c (by omega)
    split
    · rw [w64 (by omega) (by omega)]; omega
    · have := hb j j0 j1; omega
  · rw [if_neg c]
    have := hb j j0 j1
    omega
theorem W_sm {vs : List S43} {here : List Int} (g : Good vs here) : ∀ (n : Nat) (i : Int) (o : List Int), 0 ≤ i → i + n = vs.length → o.length = vs.length → BD o (1000 * i) →
    sm (W (·.f1) vs here n i o) = sm o + a4k vs here n i ∧ BD (W (·.f1) vs here n i o) (1000 * (i + n)) := by
  intro n
  induction n with
  | zero =>
    intro i o h0 hi ho hb
    exact ⟨by simp [W, a4k], by simpa [W] using hb⟩
  | succ n ih =>
    intro i o h0 hi ho hb
    have hv := of_decide_eq_true (g.ok i h0 (by omega))
    have hlv := g.lv
    have hs := b5u (own := (·.f1)) (vs := vs) (here := here) (i := i) (o := o) (M := 1000 * i) (D := 1000) (by omega) ho hb hv.2.2.2 (by omega) (by omega) (by omega)
    obtain ⟨e, hb2⟩ := ih (i + 1) (stepW (·.f1) vs here i o) (by omega) (by omega) (by rw [a6q, ho]) (by rw [show 1000 * (i + 1) = 1000 * i + 1000 by omega]; exact hs)
    refine ⟨?_, ?_⟩
    · rw [W, e, a4k]
      unfold stepW
      dsimp only
      by_cases c : 0 ≤ byI vs here i
      · have hlt := a9s (here := here) (show i < vs.length by omega)
        have hk := hb _ c (by omega)
        rw [if_pos c, if_pos c, b4w _ _ _ (by omega), w64 (by omega) (by omega)]
        unfold rd
        omega
      · rw [if_neg c, if_neg c]
        omega
    · rw [W, show i + ((n + 1 : Nat) : Int) = i + 1 + n by omega]
      exact hb2
theorem b1w (m : Nat) (j : Int) : rd (List.replicate m 0) j = 0 := by
  unfold rd
  rw [List.getD_eq_getElem?_getD, List.getElem?_replicate]
  split <;> rfl
theorem a8o : ∀ m : Nat, sm (List.replicate m 0) = 0
  | 0 => rfl
  | m + 1 => by rw [List.replicate_succ, sm, a8o m]; rfl
theorem b1x (m : Nat) {M : Int} (h : 0 ≤ M) : BD (List.replicate m 0) M := fun j _ _ => by rw [b1w]; omega
theorem b7e {vs : List S43} {here : List Int} (g : Good vs here) : sumF (wgt (·.f1) vs here) vs.length 0 0 = a4k vs here vs.length 0 := by
  obtain ⟨e, hb⟩ := W_sm g vs.length 0 (List.replicate vs.length 0) (by omega) (by omega) (by rw [List.length_replicate]) (b1x _ (by omega))
  have hlv := g.lv
  have hb' : BD (wgt (·.f1) vs here) (1000 * (0 + (vs.length : Int))) := hb
  have h := b7c (l := wgt (·.f1) vs here) (M := 64000) (fun j j0 j1 => by have := hb' j j0 j1; omega) (by omega) (by omega) (by rw [a7s]; omega) vs.length 0 0 (by omega) (by rw [a7s]; omega) (by omega) (by omega)
  rw [h]
  show 0 + sm (wgt (·.f1) vs here) = _
  unfold wgt
  rw [e, a8o]
  omega
theorem b7f {vs : List S43} {here : List Int} (g : Good vs here) : idxV vs 0 = -1 :=
  a8s fun t t0 t1 e => by have := of_decide_eq_true (g.ok t t0 t1); omega
section
variable (t0 t1 t2 t3 : Int) (t4 : Bool) (m0 m1 m2 : Int) (ag : List ByteArray) (vs : List S43) (here : List Int) (act : ByteArray) (hol : List Int)
theorem b7g (x : Int) (hh : here.length ≤ 1000000) : ∀ (n : Nat) (i : Int), 0 ≤ i → i + n = here.length →
    Ev (fun k => a2x.l0 k x i m0 m1 m2 ag vs here) (decide (x ∈ here.drop i.toNat)) := by
  intro n
  induction n with
  | zero =>
    intro i h0 hi
    refine evUp 0 fun k _ => ?_
    rw [a2x.l0, if_neg (by omega), List.drop_eq_nil_of_le (by omega)]
    simp
  | succ n ih =>
    intro i h0 hi
    obtain ⟨K, hK⟩ := ih (i + 1) (by omega) (by omega)
    dsimp only at hK
    refine evUp K fun k hk => ?_
    rw [a2x.l0, if_pos (by omega), if_pos h0, a6s here i h0 (by omega)]
    by_cases c : rd here i = x
    · rw [if_pos c, decide_eq_true (by rw [c]; exact List.mem_cons_self)]
    · rw [if_neg c, w64 (by omega) (by omega), hK k hk]
      congr 1
      rw [decide_eq_decide, List.mem_cons]
      constructor
      · exact .inr
      · rintro (h | h)
        · exact absurd h.symm c
        · exact h
theorem b2z (x : Int) (hh : here.length ≤ 1000000) : Ev (fun k => a2x.f k m0 m1 m2 ag vs here x) (decide (x ∈ here)) :=
  b7g m0 m1 m2 ag vs here x hh here.length 0 (by omega) (by omega)
end
end Go.Proofs.Ytemnlgefngjliaa.Meet
/- The sums of weights, whatever each member's own weight, and meetings in which the shares are others. Conditions: as each theorem states. -/
namespace Go.Proofs.Ytemnlgefngjliaa.Meet
open Go.RowKit Go.Proofs.YtemnlgefngjliaaW.PrintWords Go.Proofs.Ytemnlgefngjliaa.Given Go.Proofs.Ytemnlgefngjliaa.Px
open Go.Proofs.Ytemnlgefngjliaa.Cal
set_option linter.unusedVariables false
set_option linter.unusedSimpArgs false
theorem b0l {vs : List S43} {here : List Int} (g : Good vs here) {i : Int} (h0 : 0 ≤ i) (h1 : i < vs.length) : 0 ≤ byI vs here i ↔ ((a0a vs i).f0 ∈ here ∨ (a0a vs i).f2 ≠ 0 ∧ (a0a vs i).f2 ∈ here) := by
  unfold byI
  by_cases c1 : (a0a vs i).f0 ∈ here
  · rw [if_pos c1]
    exact ⟨fun _ => .inl c1, fun _ => h0⟩
  · rw [if_neg c1]
    by_cases c2 : (a0a vs i).f2 ∈ here
    · rw [if_pos c2]
      refine ⟨fun _ => .inr ⟨fun e => ?_, c2⟩, fun _ => g.hi _ c2⟩
      have := g.hi _ c2
      rw [e, b7f g] at this
      omega
    · rw [if_neg c2]
      constructor
      · intro h; omega
      · rintro (h | h)
        · exact absurd h c1
        · exact absurd h.2 c2
def mv (s : S43) : S43 := ⟨s.f0, 1000 - s.f1, s.f2⟩
def Mir (vs : List S43) (i : Int) (o : List S43) : Prop := o.length = vs.length ∧ ∀ j : Int, 0 ≤ j → j < vs.length → a0a o j = if j < i then mv (a0a vs j) else a0a vs j
theorem b5v (l : List S43) (k j : Int) (v : S43) (h0 : 0 ≤ k) (h1 : k < l.length) (j0 : 0 ≤ j) : a0a (l.set k.toNat v) j = if j = k then v else a0a l j := by
  unfold a0a
  by_cases c : j = k
  · subst c
    rw [if_pos rfl, List.getD_eq_getElem?_getD, List.getElem?_set_self (by omega), Option.getD_some]
  · rw [if_neg c, List.getD_eq_getElem?_getD, List.getElem?_set_ne (by omega), List.getD_eq_getElem?_getD]
theorem Mir.step {vs o : List S43} {i : Int} (h : Mir vs i o) (h0 : 0 ≤ i) (h1 : i < vs.length) : Mir vs (i + 1) (o.set i.toNat ⟨(a0a o i).f0, 1000 - (a0a vs i).f1, (a0a o i).f2⟩) := by
  refine ⟨by rw [List.length_set, h.1], fun j j0 j1 => ?_⟩
  rw [b5v _ _ _ _ h0 (by rw [h.1]; exact h1) j0]
  by_cases c : j = i
  · subst c
    rw [if_pos rfl, if_pos (by omega), h.2 j h0 h1, if_neg (by omega)]
    rfl
  · rw [if_neg c, h.2 j j0 j1]
    by_cases d : j < i
    · rw [if_pos d, if_pos (by omega)]
    · rw [if_neg d, if_neg (by omega)]
section
variable {vs o : List S43} {here : List Int}
end
end Go.Proofs.Ytemnlgefngjliaa.Meet
