/- Contracts of Go functions, printed. Conditions: as each theorem states. -/
import Derived.Test.YtemnlgefngjliaaPx0
import Derived.Test.YtemnlgefngjliaaPx17
import Derived.Test.YtemnlgefngjliaaPx23
import Derived.Test.YtemnlgefngjliaaPx28
import Derived.Test.YtemnlgefngjliaaPx14
import Derived.Test.YtemnlgefngjliaaPx1
import Derived.Test.YtemnlgefngjliaaPx27
import Derived.Test.YtemnlgefngjliaaMtCal
import Derived.Test.YtemnlgefngjliaaPx13
namespace Go.Proofs.Ytemnlgefngjliaa.Px
open Go.Proofs.Ytemnlgefngjliaa.Given
open Go.RowKit Go.Proofs.YtemnlgefngjliaaW.PrintWords Go.Proofs.YtemnlgefngjliaaW.PrintLast Go.Proofs.YtemnlgefngjliaaW.PrintMore
attribute [local go_sem] a2l a2m a2w a2x a2e a2f a2n a2o
set_option linter.unusedVariables false
set_option linter.unusedSimpArgs false
def a4a.j0 : Nat → Int → Int → Bool → Int → Int → Option (Bool × Int)
 | 0, _, _, _, _, _ => none
 | k + 1, x0, x1, x26, v0, v1 => if x26 = true then (some (false, 1)) else (some (decide ((wrap64 (x0 * v1)) > (wrap64 (v0 * (wrap64 (x0 + x1))))), 0))
def a4a.f (k : Nat) (a0 a1 a2_0 a2_1 : Int) : Option (Bool × Int) := if a0 < 0 then (a4a.j0 k a0 a1 true a2_0 a2_1) else (if a0 > 1000000 then (a4a.j0 k a0 a1 true a2_0 a2_1) else (if a1 < 0 then (a4a.j0 k a0 a1 true a2_0 a2_1) else (if a1 > 1000000 then (a4a.j0 k a0 a1 true a2_0 a2_1) else ((a4o.f k a2_0 a2_1).bind fun t459 => (a4a.j0 k a0 a1 (!t459) a2_0 a2_1)))))
theorem a4a.a0x : ∀ k, (∀ y0 y1 y2 y3 y4, LeO (a4a.j0 k y0 y1 y2 y3 y4) (a4a.j0 (k + 1) y0 y1 y2 y3 y4))
 | 0 => fun _ _ _ _ _ r h => by simp [a4a.j0] at h
 | k + 1 => by
  have ih0 := a4a.a0x k
  ·intro y0 y1 y2 y3 y4
   unfold a4a.j0
   with_reducible (repeat' first | apply ih0 | apply a4o.mono | apply LeO.refl | apply LeO.none | apply LeO.ite | refine LeO.bind ?_ (fun _ => ?_))
theorem a4a.mono : ∀ a0 a1 a2 a3 k, LeO (a4a.f k a0 a1 a2 a3) (a4a.f (k + 1) a0 a1 a2 a3) := by
 intro a0 a1 a2 a3 k
 have ih0 := a4a.a0x k
 unfold a4a.f
 with_reducible (repeat' first | apply ih0 | apply a4o.mono | apply LeO.refl | apply LeO.none | apply LeO.ite | refine LeO.bind ?_ (fun _ => ?_))
end Go.Proofs.Ytemnlgefngjliaa.Px
/- What the reference says of weights and flaws, and that it is what the meeting's own functions say. Conditions: as each theorem states. -/
namespace Go.Proofs.Ytemnlgefngjliaa.Meet
open Go.RowKit Go.Proofs.YtemnlgefngjliaaW.PrintWords Go.Proofs.Ytemnlgefngjliaa.Given Go.Proofs.Ytemnlgefngjliaa.Px
open Go.Proofs.Ytemnlgefngjliaa.Cal
set_option linter.unusedVariables false
set_option linter.unusedSimpArgs false
def sm : List Int → Int
  | [] => 0
  | x :: t => x + sm t
theorem b4g (v : Int) : ∀ (l : List Int) (k : Nat), k < l.length → sm (l.set k v) = sm l - l.getD k 0 + v
  | [], k, h => by simp at h
  | x :: t, 0, h => by simp [sm]; omega
  | x :: t, k + 1, h => by
    have := b4g v t k (by simpa using h)
    simp [sm] at this ⊢
    omega
theorem b4h (l : List Int) (k j v : Int) (h0 : 0 ≤ k) (h1 : k < l.length) (j0 : 0 ≤ j) : rd (l.set k.toNat v) j = if j = k then v else rd l j := by
  unfold rd
  by_cases c : j = k
  · subst c
    rw [if_pos rfl, List.getD_eq_getElem?_getD, List.getElem?_set_self (by omega), Option.getD_some]
  · rw [if_neg c, List.getD_eq_getElem?_getD, List.getElem?_set_ne (by omega), List.getD_eq_getElem?_getD]
def BD (l : List Int) (M : Int) : Prop := ∀ j : Int, 0 ≤ j → j < l.length → 0 ≤ rd l j ∧ rd l j ≤ M
def allE (vs : List S43) : Nat → Int → Int
  | 0, _ => 0
  | n + 1, i => (a0a vs i).f1 + allE vs n (i + 1)
noncomputable def a8j (vs : List S43) (here : List Int) : Nat → Int → Int
  | 0, _ => 0
  | n + 1, i => (if 0 ≤ byI vs here i then (a0a vs i).f1 else 0) + a8j vs here n (i + 1)
theorem b1m {own : S43 → Int} {vs : List S43} {here : List Int} {i : Int} {o : List Int} {M D : Int} (h1 : i < vs.length) (ho : o.length = vs.length) (hb : BD o M) (hv : 0 ≤ own (a0a vs i) ∧ own (a0a vs i) ≤ D) (hM : M ≤ 1000000000) (hD : D ≤ 1000000) (hM0 : 0 ≤ M) :
    BD (stepW own vs here i o) (M + D) := by
  intro j j0 j1
  rw [a6l] at j1
  unfold stepW
  by_cases c : 0 ≤ byI vs here i
  · have hlt := a8i (here := here) h1
    rw [if_pos c, b4h _ _ _ _ c (by omega) j0]
    have hk := hb _ c (by omega)
    split
    · rw [w64 (by omega) (by omega)]; omega
    · have := hb j j0 j1; omega
  · rw [if_neg c]
    have := hb j j0 j1
    omega
theorem a8k (m : Nat) (j : Int) : rd (List.replicate m 0) j = 0 := by
  unfold rd
  rw [List.getD_eq_getElem?_getD, List.getElem?_replicate]
  split <;> rfl
theorem a8l : ∀ m : Nat, sm (List.replicate m 0) = 0
  | 0 => rfl
  | m + 1 => by rw [List.replicate_succ, sm, a8l m]; rfl
theorem a8m (m : Nat) {M : Int} (h : 0 ≤ M) : BD (List.replicate m 0) M := fun j _ _ => by rw [a8k]; omega
theorem b6c {vs : List S43} {here : List Int} (g : Good vs here) : idxV vs 0 = -1 :=
  a8p fun t t0 t1 e => by have := of_decide_eq_true (g.ok t t0 t1); omega
section
variable (t0 t1 t2 t3 : Int) (t4 : Bool) (m0 m1 m2 : Int) (ag : List ByteArray) (vs : List S43) (here : List Int) (act : ByteArray) (hol : List Int)
theorem b6d (x : Int) (hh : here.length ≤ 1000000) : ∀ (n : Nat) (i : Int), 0 ≤ i → i + n = here.length →
    Ev (fun k => a2j.l0 k x i m0 m1 m2 ag vs here) (decide (x ∈ here.drop i.toNat)) := by
  intro n
  induction n with
  | zero =>
    intro i h0 hi
    refine evUp 0 fun k _ => ?_
    rw [a2j.l0, if_neg (by omega), List.drop_eq_nil_of_le (by omega)]
    simp
  | succ n ih =>
    intro i h0 hi
    obtain ⟨K, hK⟩ := ih (i + 1) (by omega) (by omega)
    dsimp only at hK
    refine evUp K fun k hk => ?_
    rw [a2j.l0, if_pos (by omega), if_pos h0, a7z here i h0 (by omega)]
    by_cases c : rd here i = x
    · rw [if_pos c, decide_eq_true (by rw [c]; exact List.mem_cons_self)]
    · rw [if_neg c, w64 (by omega) (by omega), hK k hk]
      congr 1
      rw [decide_eq_decide, List.mem_cons]
      constructor
      · exact .inr
      · rintro (h | h)
        · exact absurd h.symm c
        · exact h
theorem b0b (x : Int) (hh : here.length ≤ 1000000) : Ev (fun k => a2j.f k m0 m1 m2 ag vs here x) (decide (x ∈ here)) :=
  b6d m0 m1 m2 ag vs here x hh here.length 0 (by omega) (by omega)
def ownT (b : Bool) (v : S43) : Int := if b = true then 1 else v.f1
noncomputable def a5x : List Int × Int := if a6c t0 t1 t2 t3 = true ∧ a5q m0 m1 m2 ag vs here = true then (wgt (ownT t4) vs here, 0) else ([], 1)
theorem a9n (hs : Small ag) (ha : ag.length ≤ 1000000) (hl : vs.length ≤ 1000000) (hh : here.length ≤ 1000000) :
    Ev (fun k => a0y.f k t0 t1 t2 t3 t4 m0 m1 m2 ag vs here) (a5x t0 t1 t2 t3 t4 m0 m1 m2 ag vs here) := by
  obtain ⟨K2, hK2⟩ := b4z t0 t1 t2 t3 t4 m0 m1 m2 ag vs here (⟨#[]⟩ : ByteArray) [] hl hh ha hs
  dsimp only at hK2
  by_cases c : a6c t0 t1 t2 t3 = true ∧ a5q m0 m1 m2 ag vs here = true
  · have g := a8x c.2
    obtain ⟨K3, hK3⟩ := b4c t0 t1 t2 t3 t4 m0 m1 m2 ag vs here (⟨#[]⟩ : ByteArray) [] hl hh g
    obtain ⟨K4, hK4⟩ := b4e t0 t1 t2 t3 t4 m0 m1 m2 ag vs here (⟨#[]⟩ : ByteArray) [] hl hh g
    dsimp only at hK3 hK4
    refine evUp (K2 + K3 + K4) fun k hk => ?_
    unfold a0y.f a5x
    rw [a7y, Option.bind_some, if_pos c.1, hK2 (k + 1) (by omega), Option.bind_some, if_pos c, c.2, a0y.j0, if_neg (by simp), hK3 k (by omega), hK4 k (by omega), Option.bind_some, Option.bind_some]
    cases t4 with
    | true => rfl
    | false => rfl
  · refine evUp K2 fun k hk => ?_
    have e : a0y.j0 (k + 1) true t0 t1 t2 t3 t4 t0 t1 t2 t3 t4 m0 m1 m2 ag vs here (⟨#[]⟩ : ByteArray) = some ([], 1) := by rw [a0y.j0, if_pos rfl]
    unfold a0y.f a5x
    rw [a7y, Option.bind_some, hK2 (k + 1) (by omega), Option.bind_some, if_neg c, e]
    by_cases c1 : a6c t0 t1 t2 t3 = true
    · rw [if_pos c1, Bool.eq_false_iff.mpr (fun c2 => c ⟨c1, c2⟩)]
      exact e
    · rw [if_neg c1]
end
end Go.Proofs.Ytemnlgefngjliaa.Meet
