/- Plain facts about dates, working days and deadlines: numbers and lists alone, no Go. Conditions: as each theorem states. -/
import Derived.Test.YtemnlgefngjliaaWWords
import Derived.Test.YtemnlgefngjliaaWMore
namespace Go.Proofs.Ytemnlgefngjliaa.Cal
open Go.RowKit Go.Proofs.YtemnlgefngjliaaW.PrintWords
set_option linter.unusedVariables false
set_option linter.unusedSimpArgs false
theorem w64 {x : Int} (h : -9223372036854775808 ≤ x) (h2 : x ≤ 9223372036854775807) : wrap64 x = x := by unfold wrap64; omega
theorem u64w {x : Int} (h : 0 ≤ x) (h2 : x ≤ 9223372036854775807) : IntKind.u64.wrap x = x := by
 simp only [IntKind.wrap]
 first
  | omega
  | (simp [IntKind.bits, IntKind.signed]; omega)
theorem evUp {α : Type} {g : Nat → Option α} {r : α} (K : Nat) (h : ∀ k, K ≤ k → g (k + 1) = some r) : Ev g r :=
 ⟨K + 1, fun k hk => by
  obtain ⟨j, rfl⟩ : ∃ j, k = j + 1 := ⟨k - 1, by omega⟩
  exact h j (by omega)⟩
/-! ### Dates -/
def mlen (y m : Int) : Int := cum y (m + 1) - cum y m
theorem ystart_2000 : ystart 2000 = 0 := by decide
theorem ystart_2100 : ystart 2100 = 36525 := by decide
theorem IsDate.lo {day y m d : Int} (h : IsDate day y m d) : ystart y + cum y (m - 1) ≤ day ∧ day < ystart y + cum y m := by
 have := h.d1
 unfold mlen at this
 have e : m - 1 + 1 = m := by omega
 rw [e] at this
 have := h.eq
 have := h.d0
 omega
theorem IsDate.range {day y m d : Int} (h : IsDate day y m d) : 0 ≤ day ∧ day ≤ 36524 := by
 have h1 := h.year
 have a := ystart_mono h.y0
 have b := ystart_mono (a := y + 1) (b := 2100) (by have := h.y1; omega)
 rw [ystart_2000] at a
 rw [ystart_2100] at b
 omega
open Classical in
def ValidD (y m d : Int) : Prop := 2000 ≤ y ∧ y ≤ 2099 ∧ 1 ≤ m ∧ m ≤ 12 ∧ 1 ≤ d ∧ d ≤ mlen y (m - 1)
instance (y m d : Int) : Decidable (ValidD y m d) := by unfold ValidD; infer_instance
/-! ### Holidays -/
def PrefOK (l : List Int) (n : Int) : Prop := (∀ j : Int, 0 ≤ j → j < n → 0 ≤ rd l j ∧ rd l j ≤ 36524) ∧ ∀ j : Int, 0 < j → j < n → rd l (j - 1) < rd l j
def HolOK (l : List Int) : Prop := l.length ≤ 100 ∧ PrefOK l l.length
theorem rd_mem {l : List Int} {i : Int} (h : 0 ≤ i) (h1 : i < l.length) : rd l i ∈ l := by
 unfold rd
 rw [List.getD_eq_getElem?_getD, List.getElem?_eq_getElem (by omega), Option.getD_some]
 exact List.getElem_mem _
theorem mem_rd {l : List Int} {x : Int} (h : x ∈ l) : ∃ i : Int, 0 ≤ i ∧ i < l.length ∧ rd l i = x := by
 obtain ⟨n, hn, rfl⟩ := List.getElem_of_mem h
 refine ⟨n, by omega, by omega, ?_⟩
 unfold rd
 rw [List.getD_eq_getElem?_getD, Int.toNat_natCast, List.getElem?_eq_getElem hn, Option.getD_some]
theorem PrefOK.mono {l : List Int} {n : Int} (h : PrefOK l n) : ∀ (k : Nat) (i j : Int), 0 ≤ i → i + k = j → j < n → rd l i + k ≤ rd l j
 | 0, i, j, _, e, _ => by obtain rfl : i = j := by omega
                           omega
 | k + 1, i, j, h0, e, h1 => by
  have := PrefOK.mono h k i (j - 1) h0 (by omega) (by omega)
  have := h.2 j (by omega) h1
  omega
theorem PrefOK.lt {l : List Int} {n i j : Int} (h : PrefOK l n) (h0 : 0 ≤ i) (h1 : i < j) (h2 : j < n) : rd l i < rd l j := by
 have := h.mono (j - i).toNat i j h0 (by omega) h2
 omega
def Free (l : List Int) (d : Int) : Prop := d ∈ l ∨ 4 < (d + 5) % 7
open Classical in
noncomputable def freeB (l : List Int) (d : Int) : Bool := decide (Free l d)
open Classical in
noncomputable def holB (l : List Int) : Bool := decide (HolOK l)
theorem holB_true {l : List Int} : holB l = true ↔ HolOK l := by unfold holB; simp
theorem freeB_true {l : List Int} {d : Int} : freeB l d = true ↔ Free l d := by unfold freeB; simp
theorem freeB_false {l : List Int} {d : Int} : freeB l d = false ↔ ¬ Free l d := by unfold freeB; simp
theorem HolOK.range {l : List Int} (h : HolOK l) {x : Int} (hx : x ∈ l) : 0 ≤ x ∧ x ≤ 36524 := by
 obtain ⟨i, h0, h1, rfl⟩ := mem_rd hx
 exact h.2.1 i h0 h1
/-- What Working returns. -/
noncomputable def workingOf (d : Int) (l : List Int) : Bool × Int := if 0 ≤ d ∧ d ≤ 36524 then (if holB l = true then (!freeB l d, 0) else (false, 1)) else (false, 3)
/-! ### The next working day -/
structure IsNext (l : List Int) (d e : Int) : Prop where
 le : d ≤ e
 work : ¬ Free l e
 free : ∀ x, d ≤ x → x < e → Free l x
theorem IsNext.uniq {l : List Int} {d e e' : Int} (h : IsNext l d e) (k : IsNext l d e') : e = e' := by
 rcases Int.lt_trichotomy e e' with c | c | c
 ·exact absurd (k.free e h.le c) h.work
 ·exact c
 ·exact absurd (h.free e' k.le c) k.work
theorem next_out {l : List Int} (h : HolOK l) {d : Int} (hd : 36525 ≤ d) : ∃ e, IsNext l d e ∧ e ≤ d + 2 := by
 have w : ∀ x, 36525 ≤ x → ¬ (4 < (x + 5) % 7) → ¬ Free l x := by
  intro x hx h1 h2
  rcases h2 with h2 | h2
  ·have := h.range h2; omega
  ·exact h1 h2
 by_cases a : 4 < (d + 5) % 7
 ·by_cases b : 4 < (d + 1 + 5) % 7
  ·refine ⟨d + 2, ⟨by omega, w _ (by omega) (by omega), fun x h1 h2 => ?_⟩, by omega⟩
   obtain rfl | rfl : x = d ∨ x = d + 1 := by omega
   ·exact .inr a
   ·exact .inr b
  ·refine ⟨d + 1, ⟨by omega, w _ (by omega) b, fun x h1 h2 => ?_⟩, by omega⟩
   obtain rfl : x = d := by omega
   exact .inr a
 ·exact ⟨d, ⟨by omega, w _ hd a, fun x h1 h2 => by omega⟩, by omega⟩
theorem next_ex {l : List Int} (h : HolOK l) (d : Int) : ∃ e, IsNext l d e ∧ (e ≤ 36527 ∨ e ≤ d + 2) := by
 have key : ∀ (n : Nat) (d : Int), d + n = 36525 → ∃ e, IsNext l d e ∧ e ≤ 36527 := by
  intro n
  induction n with
  | zero =>
   intro d hd
   obtain ⟨e, he, h2⟩ := next_out h (d := d) (by omega)
   exact ⟨e, he, by omega⟩
  | succ n ih =>
   intro d hd
   by_cases f : Free l d
   ·obtain ⟨e, he, h2⟩ := ih (d + 1) (by omega)
    refine ⟨e, ⟨by have := he.le; omega, he.work, fun x h1 h3 => ?_⟩, h2⟩
    by_cases c : x = d
    ·subst c; exact f
    ·exact he.free x (by omega) h3
   ·exact ⟨d, ⟨by omega, f, fun x h1 h3 => by omega⟩, by omega⟩
 by_cases c : d ≤ 36525
 ·obtain ⟨e, he, h2⟩ := key (36525 - d).toNat d (by omega)
  exact ⟨e, he, .inl h2⟩
 ·obtain ⟨e, he, h2⟩ := next_out h (d := d) (by omega)
  exact ⟨e, he, .inr h2⟩
open Classical in
noncomputable def nextW (l : List Int) (d : Int) : Int := if h : ∃ e, IsNext l d e then h.choose else d
theorem nextW_eq {l : List Int} {d e : Int} (h : IsNext l d e) : nextW l d = e := by
 have k : ∃ e, IsNext l d e := ⟨e, h⟩
 unfold nextW
 rw [dif_pos k]
 exact k.choose_spec.uniq h
theorem nextW_is {l : List Int} (h : HolOK l) (d : Int) : IsNext l d (nextW l d) ∧ (nextW l d ≤ 36527 ∨ nextW l d ≤ d + 2) := by
 obtain ⟨e, he, h2⟩ := next_ex h d
 rw [nextW_eq he]
 exact ⟨he, h2⟩
def postI (how : Int) : Int := if how = 2 then 3 else 0
/-- What Deadline returns. -/
noncomputable def deadlineOf (day days how : Int) (l : List Int) : Int × Int :=
 if 0 ≤ day ∧ day ≤ 36524 then
  (if 0 ≤ days ∧ days ≤ 1000 ∧ (how = 1 ∨ how = 2) ∧ holB l = true then
   (if nextW l (day + days + postI how) ≤ 36524 then (nextW l (day + days + postI how), 0) else (0, 3)) else (0, 1)) else (0, 3)
end Go.Proofs.Ytemnlgefngjliaa.Cal
