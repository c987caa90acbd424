/- Plain facts about dates, working days and deadlines: numbers and lists alone, no Go. Plain facts about months and points: numbers alone, no Go. What the calendar's functions, as far as the points' laws come to them, compute. What the reference's date is. What the points' functions, the program's and the reference's, count. Conditions: as each theorem states. -/
import Derived.Test.YtfhmbfadbfnnaaaDoorWWords
import Derived.Test.YtfhmbfadbfnnaaaDoorWMore
import Derived.Test.YtfhmbfadbfnnaaaDoorGTab
import Derived.Test.YtfhmbfadbfnnaaaDoorPx1
import Derived.Test.YtfhmbfadbfnnaaaDoorPx2
import Derived.Test.YtfhmbfadbfnnaaaDoorPx19
import Derived.Test.YtfhmbfadbfnnaaaDoorPx8
import Derived.Test.YtfhmbfadbfnnaaaDoorPx9
import Derived.Test.YtfhmbfadbfnnaaaDoorGHead
import Derived.Test.YtfhmbfadbfnnaaaDoorPx3
import Derived.Test.YtfhmbfadbfnnaaaDoorPx2
import Derived.Test.YtfhmbfadbfnnaaaDoorPx1
import Derived.Test.YtfhmbfadbfnnaaaDoorPx8
import Derived.Test.YtfhmbfadbfnnaaaDoorPx9
namespace Go.Proofs.YtfhmbfadbfnnaaaDoor.Cal
open Go.RowKit Go.Proofs.YtfhmbfadbfnnaaaDoorW.PrintWords
set_option linter.unusedVariables false
set_option linter.unusedSimpArgs false

theorem w64 {x : Int} (h : -9223372036854775808 ≤ x) (h2 : x ≤ 9223372036854775807) : wrap64 x = x := by unfold wrap64; omega
theorem u64w {x : Int} (h : 0 ≤ x) (h2 : x ≤ 9223372036854775807) : IntKind.u64.wrap x = x := by
  simp only [IntKind.wrap]
  first
    | omega
    | (simp [IntKind.bits, IntKind.signed]; omega)
theorem evUp {α : Type} {g : Nat → Option α} {r : α} (K : Nat) (h : ∀ k, K ≤ k → g (k + 1) = some r) : Ev g r :=
  ⟨K + 1, fun k hk => by
    obtain ⟨j, rfl⟩ : ∃ j, k = j + 1 := ⟨k - 1, by omega⟩
    exact h j (by omega)⟩
theorem evBind {α β : Type} {g : Nat → Option α} {f : Nat → α → Option β} {a : α} {r : β} (h : Ev g a) (k : Ev (fun n => f n a) r) : Ev (fun n => (g n).bind (f n)) r := Ev.bind h k

/-! ### Dates -/
def leapI (y : Int) : Int := if y % 4 = 0 then 1 else 0
theorem leapI_01 (y : Int) : 0 ≤ leapI y ∧ leapI y ≤ 1 := by unfold leapI; split <;> omega
/-- The days of a year before its month m (from 0 on). -/
def cum (y m : Int) : Int :=
  if m ≤ 0 then 0 else if m = 1 then 31 else
  (if m = 2 then 59 else if m = 3 then 90 else if m = 4 then 120 else if m = 5 then 151 else if m = 6 then 181 else if m = 7 then 212 else if m = 8 then 243 else if m = 9 then 273 else if m = 10 then 304 else if m = 11 then 334 else 365) + leapI y
def mlen (y m : Int) : Int := cum y (m + 1) - cum y m
/-- The days before a year. -/
def ystart (y : Int) : Int := 365 * (y - 2000) + (y - 1997) / 4
theorem cum0 (y : Int) : cum y 0 = 0 := by simp [cum]
theorem cum12 (y : Int) : cum y 12 = 365 + leapI y := by simp [cum]
theorem months {m : Int} (h : 0 ≤ m) (h2 : m ≤ 11) : m = 0 ∨ m = 1 ∨ m = 2 ∨ m = 3 ∨ m = 4 ∨ m = 5 ∨ m = 6 ∨ m = 7 ∨ m = 8 ∨ m = 9 ∨ m = 10 ∨ m = 11 := by omega
theorem mlen_bd (y : Int) {m : Int} (h : 0 ≤ m) (h2 : m ≤ 11) : 28 ≤ mlen y m ∧ mlen y m ≤ 31 := by
  have hl := leapI_01 y
  rcases months h h2 with rfl | rfl | rfl | rfl | rfl | rfl | rfl | rfl | rfl | rfl | rfl | rfl <;> simp [mlen, cum] <;> omega
theorem cum_mono (y : Int) : ∀ (n : Nat) (a b : Int), 0 ≤ a → b ≤ 12 → a + n = b → cum y a ≤ cum y b
  | 0, a, b, _, _, h => by obtain rfl : a = b := by omega
                           exact Int.le_refl _
  | n + 1, a, b, h0, h1, h => by
    have := cum_mono y n a (b - 1) h0 (by omega) (by omega)
    have h3 := (mlen_bd y (m := b - 1) (by omega) (by omega)).1
    have e : b - 1 + 1 = b := by omega
    unfold mlen at h3
    rw [e] at h3
    omega
theorem cum_le (y : Int) {a b : Int} (h0 : 0 ≤ a) (h : a ≤ b) (h1 : b ≤ 12) : cum y a ≤ cum y b := cum_mono y (b - a).toNat a b h0 h1 (by omega)
theorem mlen_1 (y : Int) : mlen y 1 = 28 + leapI y := by simp [mlen, cum]; omega
theorem mlen_eq {y m : Int} (h : 0 ≤ m) (h2 : m ≤ 11) : mlen y m = if m = 1 then (if y % 4 = 0 then 29 else 28) else ([31, 28, 31, 30, 31, 30, 31, 31, 30, 31, 30, 31] : List Int).getD m.toNat 0 := by
  rcases months h h2 with rfl | rfl | rfl | rfl | rfl | rfl | rfl | rfl | rfl | rfl | rfl | rfl <;> simp [mlen, cum, leapI] <;> first | omega | (split <;> omega)
theorem ystart_succ (y : Int) : ystart (y + 1) = ystart y + 365 + leapI y := by unfold ystart leapI; split <;> omega
theorem ystart_mono {a b : Int} (h : a ≤ b) : ystart a ≤ ystart b := by unfold ystart; omega
theorem ystart_2000 : ystart 2000 = 0 := by decide
theorem ystart_2100 : ystart 2100 = 36525 := by decide

structure IsDate (day y m d : Int) : Prop where
  y0 : 2000 ≤ y
  y1 : y ≤ 2099
  m0 : 1 ≤ m
  m1 : m ≤ 12
  d0 : 1 ≤ d
  d1 : d ≤ mlen y (m - 1)
  eq : day = ystart y + cum y (m - 1) + d - 1
theorem IsDate.lo {day y m d : Int} (h : IsDate day y m d) : ystart y + cum y (m - 1) ≤ day ∧ day < ystart y + cum y m := by
  have := h.d1
  unfold mlen at this
  have e : m - 1 + 1 = m := by omega
  rw [e] at this
  have := h.eq
  have := h.d0
  omega
theorem IsDate.year {day y m d : Int} (h : IsDate day y m d) : ystart y ≤ day ∧ day < ystart (y + 1) := by
  have h1 := h.lo
  have a := cum_le y (a := 0) (b := m - 1) (by omega) (by have := h.m0; omega) (by have := h.m1; omega)
  have b := cum_le y (a := m) (b := 12) (by have := h.m0; omega) h.m1 (by omega)
  rw [cum0] at a
  rw [cum12] at b
  rw [ystart_succ]
  omega
theorem IsDate.range {day y m d : Int} (h : IsDate day y m d) : 0 ≤ day ∧ day ≤ 36524 := by
  have h1 := h.year
  have a := ystart_mono h.y0
  have b := ystart_mono (a := y + 1) (b := 2100) (by have := h.y1; omega)
  rw [ystart_2000] at a
  rw [ystart_2100] at b
  omega
theorem IsDate.uniq {day y m d y' m' d' : Int} (h : IsDate day y m d) (k : IsDate day y' m' d') : y = y' ∧ m = m' ∧ d = d' := by
  have a := h.year
  have b := k.year
  have hy : y = y' := by
    rcases Int.lt_trichotomy y y' with c | c | c
    · have := ystart_mono (a := y + 1) (b := y') (by omega); omega
    · exact c
    · have := ystart_mono (a := y' + 1) (b := y) (by omega); omega
  subst hy
  have a := h.lo
  have b := k.lo
  have hm : m = m' := by
    rcases Int.lt_trichotomy m m' with c | c | c
    · have := cum_le y (a := m) (b := m' - 1) (by have := h.m0; omega) (by omega) (by have := k.m1; omega); omega
    · exact c
    · have := cum_le y (a := m') (b := m - 1) (by have := k.m0; omega) (by omega) (by have := h.m1; omega); omega
  subst hm
  have a := h.eq
  have b := k.eq
  exact ⟨rfl, rfl, by omega⟩
def yearOf (d : Int) : Int := if d % 1461 ≥ 366 then 2000 + 4 * (d / 1461) + (1 + (d % 1461 - 366) / 365) else 2000 + 4 * (d / 1461)
theorem yearOf_bd {d : Int} (h : 0 ≤ d) (h1 : d ≤ 36524) : 2000 ≤ yearOf d ∧ yearOf d ≤ 2099 ∧ ystart (yearOf d) ≤ d ∧ d < ystart (yearOf d + 1) := by
  unfold yearOf ystart
  split <;> omega
theorem month_ex (y r : Int) (h0 : 0 ≤ r) (h1 : r < cum y 12) : ∃ m, 0 ≤ m ∧ m ≤ 11 ∧ cum y m ≤ r ∧ r < cum y (m + 1) := by
  have key : ∀ n : Nat, n ≤ 12 → r < cum y n → ∃ m, 0 ≤ m ∧ m ≤ 11 ∧ cum y m ≤ r ∧ r < cum y (m + 1) := by
    intro n
    induction n with
    | zero => intro _ h; rw [show ((0 : Nat) : Int) = 0 from rfl, cum0] at h; omega
    | succ n ih =>
      intro hn h
      by_cases c : r < cum y n
      · exact ih (by omega) c
      · exact ⟨n, by omega, by omega, by omega, by rw [show ((n : Int) + 1) = ((n + 1 : Nat) : Int) by omega]; exact h⟩
  exact key 12 (by omega) h1
theorem date_ex {d : Int} (h : 0 ≤ d) (h1 : d ≤ 36524) : ∃ m dd, IsDate d (yearOf d) m dd := by
  obtain ⟨a, b, c, e⟩ := yearOf_bd h h1
  rw [ystart_succ] at e
  obtain ⟨m, m0, m1, m2, m3⟩ := month_ex (yearOf d) (d - ystart (yearOf d)) (by omega) (by rw [cum12]; omega)
  refine ⟨m + 1, d - ystart (yearOf d) - cum (yearOf d) m + 1, a, b, by omega, by omega, by omega, ?_, ?_⟩
  · rw [show m + 1 - 1 = m by omega]; unfold mlen; omega
  · rw [show m + 1 - 1 = m by omega]; omega
open Classical in
/-- What Date returns. -/
noncomputable def dateOf (d : Int) : Int × Int × Int × Int :=
  if h : ∃ p : Int × Int × Int, IsDate d p.1 p.2.1 p.2.2 then (h.choose.1, h.choose.2.1, h.choose.2.2, 0) else (0, 0, 0, 3)
theorem dateOf_eq {day y m d : Int} (h : IsDate day y m d) : dateOf day = (y, m, d, 0) := by
  have e : ∃ p : Int × Int × Int, IsDate day p.1 p.2.1 p.2.2 := ⟨(y, m, d), h⟩
  unfold dateOf
  rw [dif_pos e]
  obtain ⟨a, b, c⟩ := e.choose_spec.uniq h
  rw [a, b, c]
theorem dateOf_out {day : Int} (h : day < 0 ∨ 36524 < day) : dateOf day = (0, 0, 0, 3) := by
  unfold dateOf
  rw [dif_neg]
  rintro ⟨p, hp⟩
  have := hp.range
  omega
theorem dateOf_in {day : Int} (h : 0 ≤ day) (h1 : day ≤ 36524) : ∃ y m d, IsDate day y m d ∧ dateOf day = (y, m, d, 0) := by
  obtain ⟨m, d, hd⟩ := date_ex h h1
  exact ⟨_, m, d, hd, dateOf_eq hd⟩
def ValidD (y m d : Int) : Prop := 2000 ≤ y ∧ y ≤ 2099 ∧ 1 ≤ m ∧ m ≤ 12 ∧ 1 ≤ d ∧ d ≤ mlen y (m - 1)
instance (y m d : Int) : Decidable (ValidD y m d) := by unfold ValidD; infer_instance
/-- What Day returns. -/
def dayOf (y m d : Int) : Int × Int := if ValidD y m d then (ystart y + cum y (m - 1) + d - 1, 0) else (0, 3)
theorem dayOf_eq {day y m d : Int} (h : IsDate day y m d) : dayOf y m d = (day, 0) := by
  unfold dayOf
  rw [if_pos ⟨h.y0, h.y1, h.m0, h.m1, h.d0, h.d1⟩, ← h.eq]
theorem isDate_of {y m d : Int} (h : ValidD y m d) : IsDate (ystart y + cum y (m - 1) + d - 1) y m d := ⟨h.1, h.2.1, h.2.2.1, h.2.2.2.1, h.2.2.2.2.1, h.2.2.2.2.2, rfl⟩
/-- What Weekday returns. -/
def weekdayOf (d : Int) : Int × Int := if 0 ≤ d ∧ d ≤ 36524 then ((d + 5) % 7, 0) else (0, 3)
/-- What Month returns. -/
noncomputable def monthOf (d : Int) : Int × Int := if (dateOf d).2.2.2 = 0 then (12 * ((dateOf d).1 - 2000) + (dateOf d).2.1 - 1, 0) else (0, (dateOf d).2.2.2)
/-- What Days returns. -/
def daysOf (m : Int) : Int × Int × Int := if 0 ≤ m ∧ m ≤ 1199 then (ystart (2000 + m / 12) + cum (2000 + m / 12) (m % 12), ystart (2000 + m / 12) + cum (2000 + m / 12) (m % 12 + 1), 0) else (0, 0, 3)

/-! ### Holidays -/
def PrefOK (l : List Int) (n : Int) : Prop := (∀ j : Int, 0 ≤ j → j < n → 0 ≤ rd l j ∧ rd l j ≤ 36524) ∧ ∀ j : Int, 0 < j → j < n → rd l (j - 1) < rd l j
def HolOK (l : List Int) : Prop := l.length ≤ 100 ∧ PrefOK l l.length
theorem rd_mem {l : List Int} {i : Int} (h : 0 ≤ i) (h1 : i < l.length) : rd l i ∈ l := by
  unfold rd
  rw [List.getD_eq_getElem?_getD, List.getElem?_eq_getElem (by omega), Option.getD_some]
  exact List.getElem_mem _
theorem mem_rd {l : List Int} {x : Int} (h : x ∈ l) : ∃ i : Int, 0 ≤ i ∧ i < l.length ∧ rd l i = x := by
  obtain ⟨n, hn, rfl⟩ := List.getElem_of_mem h
  refine ⟨n, by omega, by omega, ?_⟩
  unfold rd
  rw [List.getD_eq_getElem?_getD, Int.toNat_natCast, List.getElem?_eq_getElem hn, Option.getD_some]
theorem PrefOK.mono {l : List Int} {n : Int} (h : PrefOK l n) : ∀ (k : Nat) (i j : Int), 0 ≤ i → i + k = j → j < n → rd l i + k ≤ rd l j
  | 0, i, j, _, e, _ => by obtain rfl : i = j := by omega
                           omega
  | k + 1, i, j, h0, e, h1 => by
    have := PrefOK.mono h k i (j - 1) h0 (by omega) (by omega)
    have := h.2 j (by omega) h1
    omega
theorem PrefOK.lt {l : List Int} {n i j : Int} (h : PrefOK l n) (h0 : 0 ≤ i) (h1 : i < j) (h2 : j < n) : rd l i < rd l j := by
  have := h.mono (j - i).toNat i j h0 (by omega) h2
  omega
def Free (l : List Int) (d : Int) : Prop := d ∈ l ∨ 4 < (d + 5) % 7
open Classical in
noncomputable def freeB (l : List Int) (d : Int) : Bool := decide (Free l d)
open Classical in
noncomputable def holB (l : List Int) : Bool := decide (HolOK l)
theorem holB_true {l : List Int} : holB l = true ↔ HolOK l := by unfold holB; simp
theorem freeB_true {l : List Int} {d : Int} : freeB l d = true ↔ Free l d := by unfold freeB; simp
theorem freeB_false {l : List Int} {d : Int} : freeB l d = false ↔ ¬ Free l d := by unfold freeB; simp
theorem HolOK.range {l : List Int} (h : HolOK l) {x : Int} (hx : x ∈ l) : 0 ≤ x ∧ x ≤ 36524 := by
  obtain ⟨i, h0, h1, rfl⟩ := mem_rd hx
  exact h.2.1 i h0 h1
/-- What Working returns. -/
noncomputable def workingOf (d : Int) (l : List Int) : Bool × Int := if 0 ≤ d ∧ d ≤ 36524 then (if holB l = true then (!freeB l d, 0) else (false, 1)) else (false, 3)

/-! ### The next working day -/
structure IsNext (l : List Int) (d e : Int) : Prop where
  le : d ≤ e
  work : ¬ Free l e
  free : ∀ x, d ≤ x → x < e → Free l x
theorem IsNext.uniq {l : List Int} {d e e' : Int} (h : IsNext l d e) (k : IsNext l d e') : e = e' := by
  rcases Int.lt_trichotomy e e' with c | c | c
  · exact absurd (k.free e h.le c) h.work
  · exact c
  · exact absurd (h.free e' k.le c) k.work
theorem next_out {l : List Int} (h : HolOK l) {d : Int} (hd : 36525 ≤ d) : ∃ e, IsNext l d e ∧ e ≤ d + 2 := by
  have w : ∀ x, 36525 ≤ x → ¬ (4 < (x + 5) % 7) → ¬ Free l x := by
    intro x hx h1 h2
    rcases h2 with h2 | h2
    · have := h.range h2; omega
    · exact h1 h2
  by_cases a : 4 < (d + 5) % 7
  · by_cases b : 4 < (d + 1 + 5) % 7
    · refine ⟨d + 2, ⟨by omega, w _ (by omega) (by omega), fun x h1 h2 => ?_⟩, by omega⟩
      obtain rfl | rfl : x = d ∨ x = d + 1 := by omega
      · exact .inr a
      · exact .inr b
    · refine ⟨d + 1, ⟨by omega, w _ (by omega) b, fun x h1 h2 => ?_⟩, by omega⟩
      obtain rfl : x = d := by omega
      exact .inr a
  · exact ⟨d, ⟨by omega, w _ hd a, fun x h1 h2 => by omega⟩, by omega⟩
theorem next_ex {l : List Int} (h : HolOK l) (d : Int) : ∃ e, IsNext l d e ∧ (e ≤ 36527 ∨ e ≤ d + 2) := by
  have key : ∀ (n : Nat) (d : Int), d + n = 36525 → ∃ e, IsNext l d e ∧ e ≤ 36527 := by
    intro n
    induction n with
    | zero =>
      intro d hd
      obtain ⟨e, he, h2⟩ := next_out h (d := d) (by omega)
      exact ⟨e, he, by omega⟩
    | succ n ih =>
      intro d hd
      by_cases f : Free l d
      · obtain ⟨e, he, h2⟩ := ih (d + 1) (by omega)
        refine ⟨e, ⟨by have := he.le; omega, he.work, fun x h1 h3 => ?_⟩, h2⟩
        by_cases c : x = d
        · subst c; exact f
        · exact he.free x (by omega) h3
      · exact ⟨d, ⟨by omega, f, fun x h1 h3 => by omega⟩, by omega⟩
  by_cases c : d ≤ 36525
  · obtain ⟨e, he, h2⟩ := key (36525 - d).toNat d (by omega)
    exact ⟨e, he, .inl h2⟩
  · obtain ⟨e, he, h2⟩ := next_out h (d := d) (by omega)
    exact ⟨e, he, .inr h2⟩
open Classical in
noncomputable def nextW (l : List Int) (d : Int) : Int := if h : ∃ e, IsNext l d e then h.choose else d
theorem nextW_eq {l : List Int} {d e : Int} (h : IsNext l d e) : nextW l d = e := by
  have k : ∃ e, IsNext l d e := ⟨e, h⟩
  unfold nextW
  rw [dif_pos k]
  exact k.choose_spec.uniq h
theorem nextW_is {l : List Int} (h : HolOK l) (d : Int) : IsNext l d (nextW l d) ∧ (nextW l d ≤ 36527 ∨ nextW l d ≤ d + 2) := by
  obtain ⟨e, he, h2⟩ := next_ex h d
  rw [nextW_eq he]
  exact ⟨he, h2⟩
theorem nextW_mono {l : List Int} (h : HolOK l) {d d' : Int} (hd : d ≤ d') : nextW l d ≤ nextW l d' := by
  have a := (nextW_is h d).1
  have b := (nextW_is h d').1
  rcases Int.lt_or_le (nextW l d') (nextW l d) with c | c
  · exact absurd (a.free _ (by have := b.le; omega) c) b.work
  · exact c
def postI (how : Int) : Int := if how = 2 then 3 else 0
/-- What Deadline returns. -/
noncomputable def deadlineOf (day days how : Int) (l : List Int) : Int × Int :=
  if 0 ≤ day ∧ day ≤ 36524 then
    (if 0 ≤ days ∧ days ≤ 1000 ∧ (how = 1 ∨ how = 2) ∧ holB l = true then
      (if nextW l (day + days + postI how) ≤ 36524 then (nextW l (day + days + postI how), 0) else (0, 3)) else (0, 1)) else (0, 3)
end Go.Proofs.YtfhmbfadbfnnaaaDoor.Cal
namespace Go.Proofs.YtfhmbfadbfnnaaaDoor.Pts
open Go.RowKit Go.Proofs.YtfhmbfadbfnnaaaDoorW.PrintWords Go.Proofs.YtfhmbfadbfnnaaaDoor.Cal
set_option linter.unusedVariables false
set_option linter.unusedSimpArgs false
noncomputable def moOf (d : Int) : Int := (monthOf d).1
noncomputable def ddOf (d : Int) : Int := (dateOf d).2.2.1
noncomputable def monthsOf (s d : Int) : Int := moOf d - moOf s - (if ddOf d < ddOf s then 1 else 0)
theorem mo_of {d y m q : Int} (h : IsDate d y m q) : moOf d = 12 * (y - 2000) + m - 1 ∧ ddOf d = q := by
  unfold moOf ddOf monthOf
  rw [dateOf_eq h]
  exact ⟨rfl, rfl⟩
/-- An earlier day is in no later month; in one month it has no greater date. -/
theorem mo_mono {s d : Int} (h0 : 0 ≤ s) (h1 : s ≤ d) (h2 : d ≤ 36524) : moOf s ≤ moOf d ∧ (moOf s = moOf d → ddOf s ≤ ddOf d) := by
  obtain ⟨y, m, q, hs, _⟩ := dateOf_in h0 (show s ≤ 36524 by omega)
  obtain ⟨y', m', q', hd, _⟩ := dateOf_in (show 0 ≤ d by omega) h2
  obtain ⟨e1, e2⟩ := mo_of hs
  obtain ⟨e3, e4⟩ := mo_of hd
  have a1 := hs.m0
  have a2 := hs.m1
  have b1 := hd.m0
  have b2 := hd.m1
  have hy : y ≤ y' := by
    rcases Int.lt_or_le y' y with c | c
    · have := ystart_mono (a := y' + 1) (b := y) (by omega)
      have := hs.year
      have := hd.year
      omega
    · exact c
  have hm : y = y' → m ≤ m' := by
    intro e
    subst e
    rcases Int.lt_or_le m' m with c | c
    · have := cum_le y (a := m') (b := m - 1) (by omega) (by omega) (by omega)
      have := hs.lo
      have := hd.lo
      omega
    · exact c
  rw [e1, e2, e3, e4]
  refine ⟨?_, fun e => ?_⟩
  · by_cases c : y = y'
    · have := hm c; omega
    · omega
  · have c : y = y' := by omega
    subst c
    have c2 : m = m' := by omega
    subst c2
    have := hs.eq
    have := hd.eq
    omega
theorem months_nonneg {s d : Int} (h0 : 0 ≤ s) (h1 : s ≤ d) (h2 : d ≤ 36524) : 0 ≤ monthsOf s d := by
  obtain ⟨a, b⟩ := mo_mono h0 h1 h2
  unfold monthsOf
  by_cases c : moOf s = moOf d
  · have := b c
    rw [if_neg (by omega)]
    omega
  · split <;> omega
theorem mo_range {d : Int} (h0 : 0 ≤ d) (h2 : d ≤ 36524) : 0 ≤ moOf d ∧ moOf d ≤ 1199 ∧ 1 ≤ ddOf d := by
  obtain ⟨y, m, q, hs, _⟩ := dateOf_in h0 h2
  obtain ⟨e1, e2⟩ := mo_of hs
  have := hs.m0
  have := hs.m1
  have := hs.y0
  have := hs.y1
  have := hs.d0
  omega
theorem months_le {s d : Int} (h0 : 0 ≤ s) (h1 : s ≤ 36524) (h2 : 0 ≤ d) (h3 : d ≤ 36524) : -1200 ≤ monthsOf s d ∧ monthsOf s d ≤ 1199 := by
  have a := mo_range h0 h1
  have b := mo_range h2 h3
  unfold monthsOf
  split <;> omega
theorem months_mono {s d l : Int} (h0 : 0 ≤ s) (h1 : s ≤ d) (h2 : d ≤ l) (h3 : l ≤ 36524) : monthsOf s d ≤ monthsOf s l := by
  obtain ⟨a, b⟩ := mo_mono (s := d) (d := l) (by omega) h2 h3
  unfold monthsOf
  by_cases c : moOf d = moOf l
  · have := b c
    by_cases e : ddOf l < ddOf s
    · rw [if_pos e, if_pos (show ddOf d < ddOf s by omega)]; omega
    · rw [if_neg e]; split <;> omega
  · split <;> split <;> omega
/-- The same date of the next month. -/
theorem months_next {s d n y m q y' m' : Int} (hd : IsDate d y m q) (hn : IsDate n y' m' q) (e : 12 * (y' - 2000) + m' - 1 = 12 * (y - 2000) + m - 1 + 1) : monthsOf s n = monthsOf s d + 1 := by
  obtain ⟨a, b⟩ := mo_of hd
  obtain ⟨c, f⟩ := mo_of hn
  unfold monthsOf
  rw [a, b, c, f]
  omega
/-! ### Points -/
def validW (a b c d : Int) : Bool := decide ((0 ≤ a ∧ a ≤ 1000000) ∧ (0 ≤ b ∧ b ≤ 1000000) ∧ (0 ≤ c ∧ c ≤ 1000000) ∧ (0 ≤ d ∧ d ≤ 1000000))
def validH (h s n l p : Int) : Bool := decide ((1 ≤ h ∧ h ≤ 64) ∧ (0 ≤ s ∧ s ≤ 36524) ∧ (0 ≤ n ∧ n ≤ 10) ∧ (0 ≤ l ∧ l ≤ 100000) ∧ (0 ≤ p ∧ p ≤ 1000))
noncomputable def ptsOf (a b c d s n l p day : Int) : Int := monthsOf s day * a + n * b + l * c + p * d
/-- What Count returns. -/
noncomputable def countOf (E a b c d h s n l p day : Int) : Int × Int :=
  if (validW a b c d && validH h s n l p) = true then
    (if 0 ≤ day ∧ day ≤ 36524 then (if s > day then (0, E) else if ptsOf a b c d s n l p day > 1000000000 then (0, 3) else (ptsOf a b c d s n l p day, 0)) else (0, 3)) else (0, 1)
theorem countOf_ok {E a b c d h s n l p day : Int} (hE : E ≠ 0) (h0 : (countOf E a b c d h s n l p day).2 = 0) : (validW a b c d = true ∧ validH h s n l p = true) ∧ (0 ≤ day ∧ day ≤ 36524) ∧ s ≤ day ∧ ptsOf a b c d s n l p day ≤ 1000000000 ∧ countOf E a b c d h s n l p day = (ptsOf a b c d s n l p day, 0) := by
  unfold countOf at h0 ⊢
  by_cases c1 : (validW a b c d && validH h s n l p) = true
  · rw [if_pos c1] at h0 ⊢
    by_cases c2 : 0 ≤ day ∧ day ≤ 36524
    · rw [if_pos c2] at h0 ⊢
      by_cases c3 : s > day
      · rw [if_pos c3] at h0; exact absurd h0 hE
      · rw [if_neg c3] at h0 ⊢
        by_cases c4 : ptsOf a b c d s n l p day > 1000000000
        · rw [if_pos c4] at h0; simp at h0
        · rw [if_neg c4]
          rw [Bool.and_eq_true] at c1
          exact ⟨c1, c2, by omega, by omega, rfl⟩
    · rw [if_neg c2] at h0; simp at h0
  · rw [if_neg c1] at h0; simp at h0
theorem countOf_in {E a b c d h s n l p day : Int} (h1 : validW a b c d = true) (h2 : validH h s n l p = true) (h3 : 0 ≤ day ∧ day ≤ 36524) (h4 : s ≤ day) : countOf E a b c d h s n l p day = if ptsOf a b c d s n l p day > 1000000000 then (0, 3) else (ptsOf a b c d s n l p day, 0) := by
  unfold countOf
  rw [if_pos (by rw [h1, h2]; rfl), if_pos h3, if_neg (by omega)]
end Go.Proofs.YtfhmbfadbfnnaaaDoor.Pts
namespace Go.Proofs.YtfhmbfadbfnnaaaDoor.Cal
open Go.RowKit Go.Proofs.YtfhmbfadbfnnaaaDoorW.PrintWords Go.Proofs.YtfhmbfadbfnnaaaDoor.Given Go.Proofs.YtfhmbfadbfnnaaaDoor.Px
set_option linter.unusedVariables false
set_option linter.unusedSimpArgs false

theorem tmod_pos {a b : Int} (h : 0 ≤ a) : Int.tmod a b = a % b := Int.tmod_eq_emod_of_nonneg h
theorem tdiv_pos {a b : Int} (h : 0 ≤ a) : Int.tdiv a b = a / b := Int.tdiv_eq_ediv_of_nonneg h

theorem valid_eq (d : Int) : calendar_valid.f d = some (decide (0 ≤ d ∧ d ≤ 36524)) := by
  unfold calendar_valid.f
  by_cases h : 0 ≤ d
  · rw [if_pos h]; simp [h]
  · rw [if_neg h]; simp [h]
theorem length_eq {y m : Int} (hy : 0 ≤ y) (h : 0 ≤ m) (h2 : m ≤ 11) : calendar_length.f y m = some (mlen y m) := by
  rw [mlen_eq h h2]
  unfold calendar_length.f tabL
  rw [tmod_pos hy]
  by_cases c : m = 1
  · rw [if_pos c, if_pos c]; split <;> rfl
  · rw [if_neg c, if_neg c, if_pos ⟨h, by omega⟩]
theorem date_l0 (y : Int) (hy : 2000 ≤ y) (hy1 : y ≤ 2099) : ∀ (n : Nat) (m r : Int), 0 ≤ m → m + n = 11 → 0 ≤ r → cum y m + r < cum y 12 →
    ∃ M dd, IsDate (ystart y + cum y m + r) y M dd ∧ Ev (fun k => calendar_Date.l0 k y m r) (y, M, dd, 0) := by
  intro n
  induction n with
  | zero =>
    intro m r h0 hm hr hc
    obtain rfl : m = 11 := by omega
    refine ⟨12, r + 1, ⟨hy, hy1, by omega, by omega, by omega, ?_, by rw [show (12 : Int) - 1 = 11 by rfl]; omega⟩, ?_⟩
    · rw [show (12 : Int) - 1 = 11 by rfl]; unfold mlen; rw [show (11 : Int) + 1 = 12 by rfl]; omega
    · refine evUp 0 fun k _ => ?_
      have hl := cum12 y
      have hl1 := leapI_01 y
      have hb := mlen_bd y (m := 11) (by omega) (by omega)
      have h11 := cum_le y (a := 0) (b := 11) (by omega) (by omega) (by omega)
      rw [cum0] at h11
      rw [calendar_Date.l0, length_eq (by omega) (by omega) (by omega)]
      simp only [Option.bind_some]
      rw [if_neg (by unfold mlen; rw [show (11 : Int) + 1 = 12 by rfl]; omega), w64 (by omega) (by omega), w64 (by omega) (by omega)]
      rfl
  | succ n ih =>
    intro m r h0 hm hr hc
    have hl := cum12 y
    have hl1 := leapI_01 y
    have hb := mlen_bd y (m := m) (by omega) (by omega)
    have hcm := cum_le y (a := 0) (b := m) (by omega) (by omega) (by omega)
    rw [cum0] at hcm
    by_cases c : r ≥ mlen y m
    · obtain ⟨M, dd, hd, K, hK⟩ := ih (m + 1) (r - mlen y m) (by omega) (by omega) (by omega) (by unfold mlen; omega)
      dsimp only at hK
      refine ⟨M, dd, ?_, ?_⟩
      · have e : ystart y + cum y (m + 1) + (r - mlen y m) = ystart y + cum y m + r := by unfold mlen; omega
        rw [← e]; exact hd
      · refine evUp K fun k hk => ?_
        rw [calendar_Date.l0, length_eq (by omega) (by omega) (by omega)]
        simp only [Option.bind_some]
        rw [if_pos c, w64 (by omega) (by omega), w64 (by omega) (by omega)]
        exact hK k hk
    · refine ⟨m + 1, r + 1, ⟨hy, hy1, by omega, by omega, by omega, ?_, ?_⟩, ?_⟩
      · rw [show m + 1 - 1 = m by omega]; omega
      · rw [show m + 1 - 1 = m by omega]; omega
      · refine evUp 0 fun k _ => ?_
        rw [calendar_Date.l0, length_eq (by omega) (by omega) (by omega)]
        simp only [Option.bind_some]
        rw [if_neg c, w64 (by omega) (by omega), w64 (by omega) (by omega)]
theorem date_ev (d : Int) : Ev (fun k => calendar_Date.f k d) (dateOf d) := by
  by_cases h : 0 ≤ d ∧ d ≤ 36524
  · obtain ⟨a, b, c, e⟩ := yearOf_bd h.1 h.2
    rw [ystart_succ] at e
    obtain ⟨M, dd, hd, K, hK⟩ := date_l0 (yearOf d) a b 11 0 (d - ystart (yearOf d)) (by omega) (by omega) (by omega) (by rw [cum0, cum12]; omega)
    dsimp only at hK
    rw [cum0, show ystart (yearOf d) + 0 + (d - ystart (yearOf d)) = d by omega] at hd
    rw [dateOf_eq hd]
    refine evUp (K + 1) fun k hk => ?_
    obtain ⟨j, rfl⟩ : ∃ j, k = j + 1 := ⟨k - 1, by omega⟩
    have hK' := hK (j + 1) (by omega)
    unfold calendar_Date.f
    rw [valid_eq, tmod_pos h.1, tdiv_pos h.1]
    simp only [Option.bind_some, decide_eq_true_eq]
    rw [if_pos h]
    simp only [calendar_Date.j0]
    by_cases f : d % 1461 ≥ 366
    · have ey : yearOf d = 2000 + 4 * (d / 1461) + (1 + (d % 1461 - 366) / 365) := by unfold yearOf; rw [if_pos f]
      have er : d - ystart (yearOf d) = (d % 1461 - 366) % 365 := by rw [ey]; unfold ystart; omega
      rw [if_pos f, w64 (x := d / 1461) (by omega) (by omega), w64 (x := d % 1461 - 366) (by omega) (by omega), tdiv_pos (by omega), tmod_pos (by omega), w64 (x := 4 * (d / 1461)) (by omega) (by omega), w64 (x := (d % 1461 - 366) / 365) (by omega) (by omega), w64 (x := 2000 + 4 * (d / 1461)) (by omega) (by omega), w64 (x := 1 + (d % 1461 - 366) / 365) (by omega) (by omega), w64 (by omega) (by omega), ← ey, ← er]
      exact hK'
    · have ey : yearOf d = 2000 + 4 * (d / 1461) := by unfold yearOf; rw [if_neg f]
      have er : d - ystart (yearOf d) = d % 1461 := by rw [ey]; unfold ystart; omega
      rw [if_neg f, w64 (x := d / 1461) (by omega) (by omega), w64 (x := 4 * (d / 1461)) (by omega) (by omega), w64 (x := 2000 + 4 * (d / 1461)) (by omega) (by omega), ← ey, ← er]
      exact hK'
  · rw [dateOf_out (by omega)]
    refine ⟨0, fun k _ => ?_⟩
    show calendar_Date.f k d = _
    unfold calendar_Date.f
    rw [valid_eq]
    simp only [Option.bind_some, decide_eq_true_eq]
    rw [if_neg h]
theorem day_l0 (y dd : Int) (hy : 2000 ≤ y) (hy1 : y ≤ 2099) (M : Int) (hM : M ≤ 11) (hd : 1 ≤ dd) (hd1 : dd ≤ 31) : ∀ (n : Nat) (m : Int), 0 ≤ m → m + n = M →
    Ev (fun k => calendar_Day.l0 k y dd (ystart y + cum y m) M m) (ystart y + cum y M + dd - 1, 0) := by
  have hs := ystart_mono (a := 2000) (b := y) hy
  have hs1 := ystart_mono (a := y) (b := 2100) (by omega)
  rw [ystart_2000] at hs
  rw [ystart_2100] at hs1
  intro n
  induction n with
  | zero =>
    intro m h0 hm
    obtain rfl : m = M := by omega
    have c0 := cum_le y (a := 0) (b := m) (by omega) (by omega) (by omega)
    have c1 := cum_le y (a := m) (b := 12) (by omega) (by omega) (by omega)
    have hl := leapI_01 y
    rw [cum0] at c0
    rw [cum12] at c1
    refine evUp 0 fun k _ => ?_
    rw [calendar_Day.l0, if_neg (by omega), w64 (x := ystart y + cum y m + dd) (by omega) (by omega), w64 (by omega) (by omega)]
  | succ n ih =>
    intro m h0 hm
    have c0 := cum_le y (a := 0) (b := m) (by omega) (by omega) (by omega)
    have c1 := cum_le y (a := m) (b := 12) (by omega) (by omega) (by omega)
    have hl := leapI_01 y
    rw [cum0] at c0
    rw [cum12] at c1
    have hb := mlen_bd y (m := m) (by omega) (by omega)
    obtain ⟨K, hK⟩ := ih (m + 1) (by omega) (by omega)
    dsimp only at hK
    refine evUp K fun k hk => ?_
    rw [calendar_Day.l0, if_pos (by omega), length_eq (by omega) (by omega) (by omega)]
    simp only [Option.bind_some]
    rw [w64 (by omega) (by omega), w64 (by omega) (by omega), show ystart y + cum y m + mlen y m = ystart y + cum y (m + 1) by unfold mlen; omega]
    exact hK k hk
theorem firstOf_eq {y : Int} (hy : 2000 ≤ y) (hy1 : y ≤ 2099) : calendar_firstOf.f y = some (ystart y) := by
  unfold calendar_firstOf.f ystart
  simp only [Option.some.injEq]
  rw [w64 (x := y - 2000) (by omega) (by omega)]
  rw [w64 (x := 365 * (y - 2000)) (by omega) (by omega), w64 (x := y - 2000 + 3) (by omega) (by omega), tdiv_pos (by omega), w64 (x := (y - 2000 + 3) / 4) (by omega) (by omega), w64 (by omega) (by omega)]
  omega
theorem day_ev (y m d : Int) : Ev (fun k => calendar_Day.f k y m d) (dayOf y m d) := by
  have bad : ∀ k, calendar_Day.j0 (k + 1) y m d true = some (0, 3) := fun k => by rw [calendar_Day.j0, if_pos rfl]
  unfold dayOf
  by_cases h1 : y < 2000
  · rw [if_neg (by unfold ValidD; omega)]
    refine evUp 0 fun k _ => ?_
    unfold calendar_Day.f
    rw [if_pos h1, bad]
  by_cases h2 : y > 2099
  · rw [if_neg (by unfold ValidD; omega)]
    refine evUp 0 fun k _ => ?_
    unfold calendar_Day.f
    rw [if_neg h1, if_pos h2, bad]
  by_cases h3 : m < 1
  · rw [if_neg (by unfold ValidD; omega)]
    refine evUp 0 fun k _ => ?_
    unfold calendar_Day.f
    rw [if_neg h1, if_neg h2, if_pos h3, bad]
  by_cases h4 : m > 12
  · rw [if_neg (by unfold ValidD; omega)]
    refine evUp 0 fun k _ => ?_
    unfold calendar_Day.f
    rw [if_neg h1, if_neg h2, if_neg h3, if_pos h4, bad]
  by_cases h5 : d < 1
  · rw [if_neg (by unfold ValidD; omega)]
    refine evUp 0 fun k _ => ?_
    unfold calendar_Day.f
    rw [if_neg h1, if_neg h2, if_neg h3, if_neg h4, if_pos h5, bad]
  by_cases h6 : d > mlen y (m - 1)
  · rw [if_neg (by unfold ValidD; omega)]
    refine evUp 0 fun k _ => ?_
    unfold calendar_Day.f
    rw [if_neg h1, if_neg h2, if_neg h3, if_neg h4, if_neg h5, w64 (by omega) (by omega), length_eq (by omega) (by omega) (by omega)]
    simp only [Option.bind_some]
    rw [decide_eq_true h6, bad]
  · rw [if_pos (by unfold ValidD; omega)]
    have hb := mlen_bd y (m := m - 1) (by omega) (by omega)
    obtain ⟨K, hK⟩ := day_l0 y d (by omega) (by omega) (m - 1) (by omega) (by omega) (by omega) (m - 1).toNat 0 (by omega) (by omega)
    dsimp only at hK
    rw [cum0] at hK
    simp only [Int.add_zero] at hK
    refine evUp K fun k hk => ?_
    unfold calendar_Day.f
    rw [if_neg h1, if_neg h2, if_neg h3, if_neg h4, if_neg h5, w64 (by omega) (by omega), length_eq (by omega) (by omega) (by omega)]
    simp only [Option.bind_some]
    rw [decide_eq_false h6, calendar_Day.j0, if_neg (by simp), firstOf_eq (by omega) (by omega)]
    simp only [Option.bind_some]
    rw [w64 (by omega) (by omega)]
    exact hK k hk
theorem dateOf_01 (d : Int) : (dateOf d).2.2.2 = 0 → 2000 ≤ (dateOf d).1 ∧ (dateOf d).1 ≤ 2099 ∧ 1 ≤ (dateOf d).2.1 ∧ (dateOf d).2.1 ≤ 12 := by
  intro h
  by_cases c : 0 ≤ d ∧ d ≤ 36524
  · obtain ⟨y, m, dd, hd, e⟩ := dateOf_in c.1 c.2
    rw [e]
    exact ⟨hd.y0, hd.y1, hd.m0, hd.m1⟩
  · rw [dateOf_out (by omega)] at h
    simp at h
theorem month_ev (d : Int) : Ev (fun k => calendar_Month.f k d) (monthOf d) := by
  obtain ⟨K, hK⟩ := date_ev d
  dsimp only at hK
  refine ⟨K, fun k hk => ?_⟩
  show calendar_Month.f k d = _
  unfold calendar_Month.f monthOf
  rw [hK k hk]
  simp only [Option.bind_some]
  by_cases c : (dateOf d).2.2.2 = 0
  · have := dateOf_01 d c
    rw [if_pos c, if_pos c, w64 (x := (dateOf d).1 - 2000) (by omega) (by omega), w64 (x := 12 * ((dateOf d).1 - 2000)) (by omega) (by omega), w64 (x := 12 * ((dateOf d).1 - 2000) + _) (by omega) (by omega), w64 (by omega) (by omega)]
  · rw [if_neg c, if_neg c]
end Go.Proofs.YtfhmbfadbfnnaaaDoor.Cal
namespace Go.Proofs.YtfhmbfadbfnnaaaDoor.Cal
open Go.RowKit Go.Proofs.YtfhmbfadbfnnaaaDoorW.PrintWords Go.Proofs.YtfhmbfadbfnnaaaDoor.Given Go.Proofs.YtfhmbfadbfnnaaaDoor.Px
set_option linter.unusedVariables false
set_option linter.unusedSimpArgs false
theorem in_eq (d : Int) : cohousingref03_In.f d = some (decide (0 ≤ d ∧ d ≤ 36524)) := by
  unfold cohousingref03_In.f
  by_cases h : 0 ≤ d
  · rw [if_pos h]; simp [h]
  · rw [if_neg h]; simp [h]
theorem rlength_ev {y m : Int} (hy : 0 ≤ y) (h : 1 ≤ m) (h2 : m ≤ 12) : ∀ k, cohousingref03_length.f (k + 2) y m = some (mlen y (m - 1)) := by
  intro k
  rw [mlen_eq (by omega) (by omega)]
  unfold cohousingref03_length.f
  rw [tmod_pos hy]
  simp only [cohousingref03_length.j0, cohousingref03_length.j1]
  have : m = 1 ∨ m = 2 ∨ m = 3 ∨ m = 4 ∨ m = 5 ∨ m = 6 ∨ m = 7 ∨ m = 8 ∨ m = 9 ∨ m = 10 ∨ m = 11 ∨ m = 12 := by omega
  rcases this with rfl | rfl | rfl | rfl | rfl | rfl | rfl | rfl | rfl | rfl | rfl | rfl <;> simp <;> (try (split <;> simp_all))
theorem leap_eq {y : Int} (hy : 0 ≤ y) : cohousingref03_leap.f y = some (365 + leapI y) := by
  unfold cohousingref03_leap.f leapI
  rw [tmod_pos hy]
  split <;> rfl

theorem rdate_l1 (y : Int) (hy : 2000 ≤ y) (hy1 : y ≤ 2099) : ∀ (n : Nat) (m r : Int), 0 ≤ m → m + n = 11 → 0 ≤ r → cum y m + r < cum y 12 →
    ∃ M dd, IsDate (ystart y + cum y m + r) y M dd ∧ Ev (fun k => cohousingref03_Date.l1 k r y (m + 1)) (y, M, dd, 0) := by
  intro n
  induction n with
  | zero =>
    intro m r h0 hm hr hc
    obtain rfl : m = 11 := by omega
    refine ⟨12, r + 1, ⟨hy, hy1, by omega, by omega, by omega, ?_, by rw [show (12 : Int) - 1 = 11 by rfl]; omega⟩, ?_⟩
    · rw [show (12 : Int) - 1 = 11 by rfl]; unfold mlen; rw [show (11 : Int) + 1 = 12 by rfl]; omega
    · refine evUp 2 fun k hk => ?_
      obtain ⟨j, rfl⟩ : ∃ j, k = j + 2 := ⟨k - 2, by omega⟩
      have hl := cum12 y
      have hl1 := leapI_01 y
      have h11 := cum_le y (a := 0) (b := 11) (by omega) (by omega) (by omega)
      rw [cum0] at h11
      rw [cohousingref03_Date.l1, rlength_ev (by omega) (by omega) (by omega)]
      simp only [Option.bind_some]
      rw [if_neg (by rw [show (11 : Int) + 1 - 1 = 11 by rfl]; unfold mlen; rw [show (11 : Int) + 1 = 12 by rfl]; omega), w64 (by omega) (by omega)]
      rfl
  | succ n ih =>
    intro m r h0 hm hr hc
    have hl := cum12 y
    have hl1 := leapI_01 y
    have hb := mlen_bd y (m := m) (by omega) (by omega)
    have hcm := cum_le y (a := 0) (b := m) (by omega) (by omega) (by omega)
    rw [cum0] at hcm
    have em : m + 1 - 1 = m := by omega
    by_cases c : r ≥ mlen y m
    · obtain ⟨M, dd, hd, K, hK⟩ := ih (m + 1) (r - mlen y m) (by omega) (by omega) (by omega) (by unfold mlen; omega)
      dsimp only at hK
      refine ⟨M, dd, ?_, ?_⟩
      · have e : ystart y + cum y (m + 1) + (r - mlen y m) = ystart y + cum y m + r := by unfold mlen; omega
        rw [← e]; exact hd
      · refine evUp (K + 2) fun k hk => ?_
        obtain ⟨j, rfl⟩ : ∃ j, k = j + 2 := ⟨k - 2, by omega⟩
        rw [cohousingref03_Date.l1, rlength_ev (by omega) (by omega) (by omega)]
        simp only [Option.bind_some]
        rw [em, if_pos c, w64 (by omega) (by omega), w64 (by omega) (by omega)]
        exact hK _ (by omega)
    · refine ⟨m + 1, r + 1, ⟨hy, hy1, by omega, by omega, by omega, ?_, ?_⟩, ?_⟩
      · rw [em]; omega
      · rw [em]; omega
      · refine evUp 2 fun k hk => ?_
        obtain ⟨j, rfl⟩ : ∃ j, k = j + 2 := ⟨k - 2, by omega⟩
        rw [cohousingref03_Date.l1, rlength_ev (by omega) (by omega) (by omega)]
        simp only [Option.bind_some]
        rw [em, if_neg c, w64 (by omega) (by omega)]
theorem rdate_l0 (d : Int) (hd : 0 ≤ d) (hd1 : d ≤ 36524) : ∀ (n : Nat) (y : Int), 2000 ≤ y → y + n = 2099 → ystart y ≤ d →
    Ev (fun k => cohousingref03_Date.l0 k (d - ystart y) y) (dateOf d) := by
  intro n
  induction n with
  | zero =>
    intro y h0 hy hs
    obtain rfl : y = 2099 := by omega
    have h1 := ystart_succ 2099
    rw [show (2099 : Int) + 1 = 2100 by rfl, ystart_2100] at h1
    obtain ⟨M, dd, hI, K, hK⟩ := rdate_l1 2099 (by omega) (by omega) 11 0 (d - ystart 2099) (by omega) (by omega) (by omega) (by rw [cum0, cum12]; omega)
    dsimp only at hK
    rw [cum0, show ystart 2099 + 0 + (d - ystart 2099) = d by omega] at hI
    rw [dateOf_eq hI]
    refine evUp K fun k hk => ?_
    rw [cohousingref03_Date.l0, leap_eq (by omega)]
    simp only [Option.bind_some]
    rw [if_neg (by omega)]
    exact hK k hk
  | succ n ih =>
    intro y h0 hy hs
    have h1 := ystart_succ y
    have hm := ystart_mono (a := 2000) (b := y) h0
    rw [ystart_2000] at hm
    have hl := leapI_01 y
    by_cases c : d - ystart y ≥ 365 + leapI y
    · obtain ⟨K, hK⟩ := ih (y + 1) (by omega) (by omega) (by omega)
      dsimp only at hK
      refine evUp K fun k hk => ?_
      rw [cohousingref03_Date.l0, leap_eq (by omega)]
      simp only [Option.bind_some]
      rw [if_pos c, w64 (by omega) (by omega), w64 (by omega) (by omega), show d - ystart y - (365 + leapI y) = d - ystart (y + 1) by omega]
      exact hK k hk
    · obtain ⟨M, dd, hI, K, hK⟩ := rdate_l1 y (by omega) (by omega) 11 0 (d - ystart y) (by omega) (by omega) (by omega) (by rw [cum0, cum12]; omega)
      dsimp only at hK
      rw [cum0, show ystart y + 0 + (d - ystart y) = d by omega] at hI
      rw [dateOf_eq hI]
      refine evUp K fun k hk => ?_
      rw [cohousingref03_Date.l0, leap_eq (by omega)]
      simp only [Option.bind_some]
      rw [if_neg c]
      exact hK k hk
theorem rdate_ev (d : Int) : Ev (fun k => cohousingref03_Date.f k d) (dateOf d) := by
  by_cases h : 0 ≤ d ∧ d ≤ 36524
  · obtain ⟨K, hK⟩ := rdate_l0 d h.1 h.2 99 2000 (by omega) (by omega) (by rw [ystart_2000]; omega)
    dsimp only at hK
    refine ⟨K, fun k hk => ?_⟩
    have hK' := hK k hk
    rw [ystart_2000, show d - 0 = d by omega] at hK'
    show cohousingref03_Date.f k d = _
    unfold cohousingref03_Date.f
    rw [in_eq]
    simp only [Option.bind_some, decide_eq_true_eq]
    rw [if_pos h]
    exact hK'
  · rw [dateOf_out (by omega)]
    refine ⟨0, fun k _ => ?_⟩
    show cohousingref03_Date.f k d = _
    unfold cohousingref03_Date.f
    rw [in_eq]
    simp only [Option.bind_some, decide_eq_true_eq]
    rw [if_neg h]

end Go.Proofs.YtfhmbfadbfnnaaaDoor.Cal
namespace Go.Proofs.YtfhmbfadbfnnaaaDoor.Pts
open Go.RowKit Go.Proofs.YtfhmbfadbfnnaaaDoorW.PrintWords Go.Proofs.YtfhmbfadbfnnaaaDoor.Given Go.Proofs.YtfhmbfadbfnnaaaDoor.Px Go.Proofs.YtfhmbfadbfnnaaaDoor.Cal
set_option linter.unusedVariables false
set_option linter.unusedSimpArgs false
set_option maxRecDepth 100000 in
theorem head_ev : Ev (fun k => cohousinglaw21_head.f k) true := Ev.of (fun k => cohousinglaw21_head.mono k) (k := 60) (by decide +kernel)
theorem within_eq (n m : Int) : points_within.f n m = some (decide (0 ≤ n ∧ n ≤ m)) := by
  unfold points_within.f
  by_cases h : 0 ≤ n
  · rw [if_pos h]; simp [h]
  · rw [if_neg h]; simp [h]
theorem weight_bad (n : Int) : points_validWeights_1.f n = some (!decide (0 ≤ n ∧ n ≤ 1000000)) := by
  unfold points_validWeights_1.f
  rw [within_eq]
  rfl
theorem index_l0 (l : List Int) (hl : l.length ≤ 1000) : ∀ (n : Nat) (i : Int), 0 ≤ i → i + n = l.length →
    ∃ r, Ev (fun k => slices_IndexFunc_int_int__points_validWeights_1.l0 k l (l.length : Int) i) r ∧ (r ≥ 0 ↔ ∃ j : Int, i ≤ j ∧ j < l.length ∧ ¬ (0 ≤ rd l j ∧ rd l j ≤ 1000000)) := by
  intro n
  induction n with
  | zero =>
    intro i h0 hi
    refine ⟨-1, evUp 0 fun k _ => ?_, ⟨fun h => by omega, fun ⟨j, h1, h2, _⟩ => by omega⟩⟩
    rw [slices_IndexFunc_int_int__points_validWeights_1.l0, if_neg (by omega)]
  | succ n ih =>
    intro i h0 hi
    by_cases c : 0 ≤ rd l i ∧ rd l i ≤ 1000000
    · obtain ⟨r, ⟨K, hK⟩, hr⟩ := ih (i + 1) (by omega) (by omega)
      refine ⟨r, evUp K fun k hk => ?_, hr.trans ⟨fun ⟨j, h1, h2, h3⟩ => ⟨j, by omega, h2, h3⟩, fun ⟨j, h1, h2, h3⟩ => ⟨j, by
        by_cases e : j = i
        · subst e; exact absurd c h3
        · omega, h2, h3⟩⟩⟩
      rw [slices_IndexFunc_int_int__points_validWeights_1.l0, if_pos (by omega), if_pos h0, if_pos (by omega), weight_bad, Option.bind_some, decide_eq_true c, if_neg (by simp), w64 (by omega) (by omega)]
      exact hK k hk
    · refine ⟨i, evUp 0 fun k _ => ?_, ⟨fun _ => ⟨i, by omega, by omega, c⟩, fun _ => h0⟩⟩
      rw [slices_IndexFunc_int_int__points_validWeights_1.l0, if_pos (by omega), if_pos h0, if_pos (by omega), weight_bad, Option.bind_some, decide_eq_false c, if_pos (by simp)]
theorem weights_ev (a b c d : Int) : Ev (fun k => points_validWeights.f k a b c d) (validW a b c d) := by
  obtain ⟨r, ⟨K, hK⟩, hr⟩ := index_l0 [a, b, c, d] (by simp) 4 0 (by omega) (by simp)
  refine ⟨K, fun k hk => ?_⟩
  show points_validWeights.f k a b c d = _
  unfold points_validWeights.f slices_ContainsFunc_int_int__points_validWeights_1.f slices_IndexFunc_int_int__points_validWeights_1.f
  have h1 := hK k hk
  dsimp only at h1
  rw [h1]
  simp only [Option.bind_some]
  congr 1
  rw [Bool.eq_iff_iff]
  unfold validW
  rw [Bool.not_eq_true', decide_eq_false_iff_not, decide_eq_true_eq, hr]
  constructor
  · intro h
    have e0 : 0 ≤ a ∧ a ≤ 1000000 := Classical.byContradiction fun q => h ⟨0, by omega, by simp, q⟩
    have e1 : 0 ≤ b ∧ b ≤ 1000000 := Classical.byContradiction fun q => h ⟨1, by omega, by simp, q⟩
    have e2 : 0 ≤ c ∧ c ≤ 1000000 := Classical.byContradiction fun q => h ⟨2, by omega, by simp, q⟩
    have e3 : 0 ≤ d ∧ d ≤ 1000000 := Classical.byContradiction fun q => h ⟨3, by omega, by simp, q⟩
    exact ⟨e0, e1, e2, e3⟩
  · rintro ⟨e0, e1, e2, e3⟩ ⟨j, h1, h2, h3⟩
    have : j = 0 ∨ j = 1 ∨ j = 2 ∨ j = 3 := by simp at h2; omega
    rcases this with rfl | rfl | rfl | rfl
    · exact h3 e0
    · exact h3 e1
    · exact h3 e2
    · exact h3 e3
theorem rweight_eq (n : Int) : cohousingref21_weight.f n = some (decide (0 ≤ n ∧ n ≤ 1000000)) := by
  unfold cohousingref21_weight.f
  by_cases h : n ≥ 0
  · rw [if_pos h]; simp [show 0 ≤ n from h]
  · rw [if_neg h]; simp [show ¬ 0 ≤ n from h]
theorem rweights_eq (a b c d : Int) : cohousingref21_Weights.f a b c d = some (validW a b c d) := by
  unfold cohousingref21_Weights.f validW
  rw [rweight_eq, rweight_eq, rweight_eq, rweight_eq]
  by_cases h1 : 0 ≤ a ∧ a ≤ 1000000
  · by_cases h2 : 0 ≤ b ∧ b ≤ 1000000
    · by_cases h3 : 0 ≤ c ∧ c ≤ 1000000
      · simp [h1, h2, h3]
      · simp [h1, h2, h3]
    · simp [h1, h2]
  · simp [h1]
theorem home_eq (h s n l p : Int) : points_home_valid.f h s n l p = some (validH h s n l p) := by
  unfold points_home_valid.f validH
  rw [within_eq, within_eq, within_eq, within_eq]
  by_cases h1 : h ≥ 1
  · by_cases h2 : h ≤ 64
    · by_cases h3 : 0 ≤ s ∧ s ≤ 36524
      · by_cases h4 : 0 ≤ n ∧ n ≤ 10
        · by_cases h5 : 0 ≤ l ∧ l ≤ 100000
          · have h1' : 1 ≤ h := h1
            simp [h1', h2, h3, h4, h5]
          · have h1' : 1 ≤ h := h1
            simp [h1', h2, h3, h4, h5]
        · have h1' : 1 ≤ h := h1
          simp [h1', h2, h3, h4]
      · have h1' : 1 ≤ h := h1
        simp [h1', h2, h3]
    · have h1' : 1 ≤ h := h1
      simp [h1', h2]
  · have h1' : ¬ 1 ≤ h := h1
    simp [h1']
theorem wait_eq (h s n l p : Int) : cohousingref21_Wait.f h s n l p = some (validH h s n l p) := by
  unfold cohousingref21_Wait.f
  rw [in_eq]
  simp only [Option.bind_some, decide_eq_true_eq]
  have key : validH h s n l p = decide (1 ≤ h ∧ h ≤ 64 ∧ (0 ≤ s ∧ s ≤ 36524) ∧ 0 ≤ n ∧ n ≤ 10 ∧ 0 ≤ l ∧ l ≤ 100000 ∧ 0 ≤ p ∧ p ≤ 1000) := by
    unfold validH
    rw [decide_eq_decide]
    omega
  rw [key]
  by_cases h1 : 1 ≤ h
  · rw [if_pos h1]
    by_cases h2 : h ≤ 64
    · rw [if_pos h2]
      by_cases h3 : 0 ≤ s ∧ s ≤ 36524
      · rw [if_pos h3]
        by_cases h4 : 0 ≤ n
        · rw [if_pos h4]
          by_cases h5 : n ≤ 10
          · rw [if_pos h5]
            by_cases h6 : 0 ≤ l
            · rw [if_pos h6]
              by_cases h7 : l ≤ 100000
              · rw [if_pos h7]
                by_cases h8 : 0 ≤ p
                · rw [if_pos h8]
                  simp [h1, h2, h3, h4, h5, h6, h7, h8]
                · rw [if_neg h8]; simp [h8]
              · rw [if_neg h7]; simp [h7]
            · rw [if_neg h6]; simp [h6]
          · rw [if_neg h5]; simp [h5]
        · rw [if_neg h4]; simp [h4]
      · rw [if_neg h3]; simp [h3]
    · rw [if_neg h2]; simp [h2]
  · rw [if_neg h1]; simp [h1]
theorem months_ev {s d : Int} (h0 : 0 ≤ s) (h1 : s ≤ 36524) (h2 : 0 ≤ d) (h3 : d ≤ 36524) (a b c e : Int) : Ev (fun k => points_home_months.f k a s b c e d) (monthsOf s d) := by
  obtain ⟨K1, hK1⟩ := date_ev s
  obtain ⟨K2, hK2⟩ := date_ev d
  obtain ⟨K3, hK3⟩ := month_ev s
  obtain ⟨K4, hK4⟩ := month_ev d
  dsimp only at hK1 hK2 hK3 hK4
  have r1 := mo_range h0 h1
  have r2 := mo_range h2 h3
  unfold moOf at r1 r2
  refine ⟨K1 + K2 + K3 + K4, fun k hk => ?_⟩
  show points_home_months.f k a s b c e d = _
  unfold points_home_months.f monthsOf ddOf moOf
  rw [hK1 k (by omega), hK2 k (by omega), hK3 k (by omega), hK4 k (by omega)]
  simp only [Option.bind_some]
  by_cases c : (dateOf d).2.2.1 < (dateOf s).2.2.1
  · rw [if_pos c, if_pos c, w64 (x := (monthOf d).1 - 1) (by omega) (by omega), w64 (by omega) (by omega)]
    congr 1
    omega
  · rw [if_neg c, if_neg c, w64 (by omega) (by omega)]
    congr 1
    omega
theorem rmonths_ev {s d : Int} (h0 : 0 ≤ s) (h1 : s ≤ 36524) (h2 : 0 ≤ d) (h3 : d ≤ 36524) : Ev (fun k => cohousingref21_Months.f k s d) (monthsOf s d) := by
  obtain ⟨K1, hK1⟩ := rdate_ev s
  obtain ⟨K2, hK2⟩ := rdate_ev d
  dsimp only at hK1 hK2
  obtain ⟨y, m, q, hs, es⟩ := dateOf_in h0 h1
  obtain ⟨y', m', q', hd, ed⟩ := dateOf_in h2 h3
  obtain ⟨e1, e2⟩ := mo_of hs
  obtain ⟨e3, e4⟩ := mo_of hd
  have a0 := hs.m0
  have a1 := hs.m1
  have a2 := hs.y0
  have a3 := hs.y1
  have b0 := hd.m0
  have b1 := hd.m1
  have b2 := hd.y0
  have b3 := hd.y1
  refine ⟨K1 + K2, fun k hk => ?_⟩
  show cohousingref21_Months.f k s d = _
  unfold cohousingref21_Months.f monthsOf
  rw [hK1 k (by omega), hK2 k (by omega), es, ed, e1, e2, e3, e4]
  simp only [Option.bind_some]
  rw [w64 (x := y' - y) (by omega) (by omega), w64 (x := 12 * (y' - y)) (by omega) (by omega), w64 (x := 12 * (y' - y) + m') (by omega) (by omega), w64 (x := 12 * (y' - y) + m' - m) (by omega) (by omega)]
  by_cases c : q' < q
  · rw [if_pos c, if_pos c, w64 (by omega) (by omega)]
    congr 1
    omega
  · rw [if_neg c, if_neg c]
    congr 1
    omega
theorem prod_bd {a b A B : Int} (h1 : 0 ≤ a) (h2 : a ≤ A) (h3 : 0 ≤ b) (h4 : b ≤ B) : 0 ≤ a * b ∧ a * b ≤ A * B :=
  ⟨Int.mul_nonneg h1 h3, Int.mul_le_mul h2 h4 h3 (by omega)⟩
theorem pts_bd {a b c d h s n l p day : Int} (hw : validW a b c d = true) (hh : validH h s n l p = true) (h1 : s ≤ day) (h2 : day ≤ 36524) :
    (0 ≤ monthsOf s day ∧ monthsOf s day ≤ 1199) ∧ (0 ≤ monthsOf s day * a ∧ monthsOf s day * a ≤ 1199000000) ∧ (0 ≤ n * b ∧ n * b ≤ 10000000) ∧ (0 ≤ l * c ∧ l * c ≤ 100000000000) ∧ (0 ≤ p * d ∧ p * d ≤ 1000000000) := by
  unfold validW at hw
  unfold validH at hh
  simp only [decide_eq_true_eq] at hw hh
  have e1 := months_nonneg (s := s) (d := day) (by omega) h1 h2
  have e2 := (months_le (s := s) (d := day) (by omega) (by omega) (by omega) h2).2
  have q1 := prod_bd e1 e2 hw.1.1 hw.1.2
  have q2 := prod_bd hh.2.2.1.1 hh.2.2.1.2 hw.2.1.1 hw.2.1.2
  have q3 := prod_bd hh.2.2.2.1.1 hh.2.2.2.1.2 hw.2.2.1.1 hw.2.2.1.2
  have q4 := prod_bd hh.2.2.2.2.1 hh.2.2.2.2.2 hw.2.2.2.1 hw.2.2.2.2
  omega
theorem sum_w64 {x y z t : Int} (h1 : 0 ≤ x ∧ x ≤ 1199000000) (h2 : 0 ≤ y ∧ y ≤ 10000000) (h3 : 0 ≤ z ∧ z ≤ 100000000000) (h4 : 0 ≤ t ∧ t ≤ 1000000000) :
    wrap64 (wrap64 (wrap64 (wrap64 x + wrap64 y) + wrap64 z) + wrap64 t) = x + y + z + t := by
  rw [w64 (x := x) (by omega) (by omega), w64 (x := y) (by omega) (by omega), w64 (x := z) (by omega) (by omega), w64 (x := t) (by omega) (by omega), w64 (x := x + y) (by omega) (by omega), w64 (x := x + y + z) (by omega) (by omega), w64 (by omega) (by omega)]
/-- What a household's points are, its values and the weights being valid. -/
theorem hcount_ev {a b c d h s n l p day : Int} (hw : validW a b c d = true) (hh : validH h s n l p = true) : Ev (fun k => points_home_count.f k h s n l p a b c d day) (countOf 21 a b c d h s n l p day) := by
  unfold countOf
  rw [if_pos (by rw [hw, hh]; rfl)]
  by_cases c1 : 0 ≤ day ∧ day ≤ 36524
  · rw [if_pos c1]
    by_cases c2 : s > day
    · rw [if_pos c2]
      refine ⟨0, fun k _ => ?_⟩
      show points_home_count.f k h s n l p a b c d day = _
      unfold points_home_count.f
      rw [within_eq, Option.bind_some, if_pos (decide_eq_true c1), if_pos c2]
    · rw [if_neg c2]
      have hs : 0 ≤ s ∧ s ≤ 36524 := by
        unfold validH at hh
        simp only [decide_eq_true_eq] at hh
        exact hh.2.1
      obtain ⟨K, hK⟩ := months_ev hs.1 hs.2 c1.1 c1.2 h n l p
      dsimp only at hK
      obtain ⟨q0, q1, q2, q3, q4⟩ := pts_bd hw hh (show s ≤ day by omega) c1.2
      refine ⟨K, fun k hk => ?_⟩
      show points_home_count.f k h s n l p a b c d day = _
      unfold points_home_count.f ptsOf
      rw [within_eq, Option.bind_some, if_pos (decide_eq_true c1), if_neg c2, hK k hk, Option.bind_some, sum_w64 q1 q2 q3 q4]
      split <;> rfl
  · rw [if_neg c1]
    refine ⟨0, fun k _ => ?_⟩
    show points_home_count.f k h s n l p a b c d day = _
    unfold points_home_count.f
    rw [within_eq, Option.bind_some, if_neg (by simpa using c1)]
theorem count_ev (a b c d h s n l p day : Int) : Ev (fun k => points_Count.f k a b c d h s n l p day) (countOf 21 a b c d h s n l p day) := by
  obtain ⟨K, hK⟩ := weights_ev a b c d
  dsimp only at hK
  by_cases hw : validW a b c d = true
  · by_cases hh : validH h s n l p = true
    · obtain ⟨K2, hK2⟩ := hcount_ev (day := day) hw hh
      dsimp only at hK2
      refine ⟨K + K2, fun k hk => ?_⟩
      show points_Count.f k a b c d h s n l p day = _
      unfold points_Count.f
      rw [hK k (by omega), Option.bind_some, if_pos hw, home_eq, Option.bind_some, if_pos hh, hK2 k (by omega), Option.bind_some]
    · refine ⟨K, fun k hk => ?_⟩
      show points_Count.f k a b c d h s n l p day = _
      unfold points_Count.f countOf
      rw [hK k hk, Option.bind_some, if_pos hw, home_eq, Option.bind_some, if_neg hh, if_neg (by rw [hw]; simpa using hh)]
  · refine ⟨K, fun k hk => ?_⟩
    show points_Count.f k a b c d h s n l p day = _
    unfold points_Count.f countOf
    rw [hK k hk, Option.bind_some, if_neg hw, if_neg (by rw [Bool.not_eq_true] at hw; rw [hw]; simp)]
theorem rcount_ev (a b c d h s n l p day : Int) : Ev (fun k => cohousingref21_Count.f k a b c d h s n l p day) (countOf 21 a b c d h s n l p day) := by
  by_cases hw : validW a b c d = true
  · by_cases hh : validH h s n l p = true
    · unfold countOf
      rw [if_pos (by rw [hw, hh]; rfl)]
      by_cases c1 : 0 ≤ day ∧ day ≤ 36524
      · rw [if_pos c1]
        by_cases c2 : s > day
        · rw [if_pos c2]
          refine evUp 0 fun k _ => ?_
          show cohousingref21_Count.f (k + 1) a b c d h s n l p day = _
          unfold cohousingref21_Count.f
          rw [rweights_eq, Option.bind_some, if_pos hw, wait_eq, Option.bind_some, hh, cohousingref21_Count.j0, if_neg (by simp), in_eq, Option.bind_some, if_pos (decide_eq_true c1), if_pos c2]
        · rw [if_neg c2]
          have hs : 0 ≤ s ∧ s ≤ 36524 := by
            unfold validH at hh
            simp only [decide_eq_true_eq] at hh
            exact hh.2.1
          obtain ⟨K, hK⟩ := rmonths_ev hs.1 hs.2 c1.1 c1.2
          dsimp only at hK
          obtain ⟨q0, q1, q2, q3, q4⟩ := pts_bd hw hh (show s ≤ day by omega) c1.2
          refine evUp K fun k hk => ?_
          show cohousingref21_Count.f (k + 1) a b c d h s n l p day = _
          unfold cohousingref21_Count.f ptsOf
          rw [rweights_eq, Option.bind_some, if_pos hw, wait_eq, Option.bind_some, hh, cohousingref21_Count.j0, if_neg (by simp), in_eq, Option.bind_some, if_pos (decide_eq_true c1), if_neg c2, hK k hk, Option.bind_some, sum_w64 q1 q2 q3 q4]
          split <;> rfl
      · rw [if_neg c1]
        refine evUp 0 fun k _ => ?_
        show cohousingref21_Count.f (k + 1) a b c d h s n l p day = _
        unfold cohousingref21_Count.f
        rw [rweights_eq, Option.bind_some, if_pos hw, wait_eq, Option.bind_some, hh, cohousingref21_Count.j0, if_neg (by simp), in_eq, Option.bind_some, if_neg (by simpa using c1)]
    · refine evUp 0 fun k _ => ?_
      show cohousingref21_Count.f (k + 1) a b c d h s n l p day = _
      rw [Bool.not_eq_true] at hh
      unfold cohousingref21_Count.f countOf
      rw [rweights_eq, Option.bind_some, if_pos hw, wait_eq, Option.bind_some, hh, cohousingref21_Count.j0, if_pos (by rfl), if_neg (by simp)]
  · refine evUp 0 fun k _ => ?_
    show cohousingref21_Count.f (k + 1) a b c d h s n l p day = _
    rw [Bool.not_eq_true] at hw
    unfold cohousingref21_Count.f countOf
    rw [rweights_eq, Option.bind_some, hw, if_neg (by simp), cohousingref21_Count.j0, if_pos rfl, if_neg (by simp)]
end Go.Proofs.YtfhmbfadbfnnaaaDoor.Pts
