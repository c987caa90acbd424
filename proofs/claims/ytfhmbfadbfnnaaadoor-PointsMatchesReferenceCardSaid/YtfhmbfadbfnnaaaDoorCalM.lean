/- Plain facts about dates, working days and deadlines: numbers and lists alone, no Go. Conditions: as each theorem states. -/
import Derived.Test.YtfhmbfadbfnnaaaDoorWWords
import Derived.Test.YtfhmbfadbfnnaaaDoorWMore
namespace Go.Proofs.YtfhmbfadbfnnaaaDoor.Cal
open Go.RowKit Go.Proofs.YtfhmbfadbfnnaaaDoorW.PrintWords
set_option linter.unusedVariables false
set_option linter.unusedSimpArgs false

theorem w64 {x : Int} (h : -9223372036854775808 ≤ x) (h2 : x ≤ 9223372036854775807) : wrap64 x = x := by unfold wrap64; omega
theorem u64w {x : Int} (h : 0 ≤ x) (h2 : x ≤ 9223372036854775807) : IntKind.u64.wrap x = x := by
  simp only [IntKind.wrap]
  first
    | omega
    | (simp [IntKind.bits, IntKind.signed]; omega)
theorem evUp {α : Type} {g : Nat → Option α} {r : α} (K : Nat) (h : ∀ k, K ≤ k → g (k + 1) = some r) : Ev g r :=
  ⟨K + 1, fun k hk => by
    obtain ⟨j, rfl⟩ : ∃ j, k = j + 1 := ⟨k - 1, by omega⟩
    exact h j (by omega)⟩
theorem evBind {α β : Type} {g : Nat → Option α} {f : Nat → α → Option β} {a : α} {r : β} (h : Ev g a) (k : Ev (fun n => f n a) r) : Ev (fun n => (g n).bind (f n)) r := Ev.bind h k

/-! ### Dates -/
def leapI (y : Int) : Int := if y % 4 = 0 then 1 else 0
theorem leapI_01 (y : Int) : 0 ≤ leapI y ∧ leapI y ≤ 1 := by unfold leapI; split <;> omega
/-- The days of a year before its month m (from 0 on). -/
def cum (y m : Int) : Int :=
  if m ≤ 0 then 0 else if m = 1 then 31 else
  (if m = 2 then 59 else if m = 3 then 90 else if m = 4 then 120 else if m = 5 then 151 else if m = 6 then 181 else if m = 7 then 212 else if m = 8 then 243 else if m = 9 then 273 else if m = 10 then 304 else if m = 11 then 334 else 365) + leapI y
def mlen (y m : Int) : Int := cum y (m + 1) - cum y m
/-- The days before a year. -/
def ystart (y : Int) : Int := 365 * (y - 2000) + (y - 1997) / 4
theorem cum0 (y : Int) : cum y 0 = 0 := by simp [cum]
theorem cum12 (y : Int) : cum y 12 = 365 + leapI y := by simp [cum]
theorem months {m : Int} (h : 0 ≤ m) (h2 : m ≤ 11) : m = 0 ∨ m = 1 ∨ m = 2 ∨ m = 3 ∨ m = 4 ∨ m = 5 ∨ m = 6 ∨ m = 7 ∨ m = 8 ∨ m = 9 ∨ m = 10 ∨ m = 11 := by omega
theorem mlen_bd (y : Int) {m : Int} (h : 0 ≤ m) (h2 : m ≤ 11) : 28 ≤ mlen y m ∧ mlen y m ≤ 31 := by
  have hl := leapI_01 y
  rcases months h h2 with rfl | rfl | rfl | rfl | rfl | rfl | rfl | rfl | rfl | rfl | rfl | rfl <;> simp [mlen, cum] <;> omega
theorem cum_mono (y : Int) : ∀ (n : Nat) (a b : Int), 0 ≤ a → b ≤ 12 → a + n = b → cum y a ≤ cum y b
  | 0, a, b, _, _, h => by obtain rfl : a = b := by omega
                           exact Int.le_refl _
  | n + 1, a, b, h0, h1, h => by
    have := cum_mono y n a (b - 1) h0 (by omega) (by omega)
    have h3 := (mlen_bd y (m := b - 1) (by omega) (by omega)).1
    have e : b - 1 + 1 = b := by omega
    unfold mlen at h3
    rw [e] at h3
    omega
theorem cum_le (y : Int) {a b : Int} (h0 : 0 ≤ a) (h : a ≤ b) (h1 : b ≤ 12) : cum y a ≤ cum y b := cum_mono y (b - a).toNat a b h0 h1 (by omega)
theorem mlen_1 (y : Int) : mlen y 1 = 28 + leapI y := by simp [mlen, cum]; omega
theorem mlen_eq {y m : Int} (h : 0 ≤ m) (h2 : m ≤ 11) : mlen y m = if m = 1 then (if y % 4 = 0 then 29 else 28) else ([31, 28, 31, 30, 31, 30, 31, 31, 30, 31, 30, 31] : List Int).getD m.toNat 0 := by
  rcases months h h2 with rfl | rfl | rfl | rfl | rfl | rfl | rfl | rfl | rfl | rfl | rfl | rfl <;> simp [mlen, cum, leapI] <;> first | omega | (split <;> omega)
theorem ystart_succ (y : Int) : ystart (y + 1) = ystart y + 365 + leapI y := by unfold ystart leapI; split <;> omega
theorem ystart_mono {a b : Int} (h : a ≤ b) : ystart a ≤ ystart b := by unfold ystart; omega
theorem ystart_2000 : ystart 2000 = 0 := by decide
theorem ystart_2100 : ystart 2100 = 36525 := by decide

structure IsDate (day y m d : Int) : Prop where
  y0 : 2000 ≤ y
  y1 : y ≤ 2099
  m0 : 1 ≤ m
  m1 : m ≤ 12
  d0 : 1 ≤ d
  d1 : d ≤ mlen y (m - 1)
  eq : day = ystart y + cum y (m - 1) + d - 1
theorem IsDate.lo {day y m d : Int} (h : IsDate day y m d) : ystart y + cum y (m - 1) ≤ day ∧ day < ystart y + cum y m := by
  have := h.d1
  unfold mlen at this
  have e : m - 1 + 1 = m := by omega
  rw [e] at this
  have := h.eq
  have := h.d0
  omega
theorem IsDate.year {day y m d : Int} (h : IsDate day y m d) : ystart y ≤ day ∧ day < ystart (y + 1) := by
  have h1 := h.lo
  have a := cum_le y (a := 0) (b := m - 1) (by omega) (by have := h.m0; omega) (by have := h.m1; omega)
  have b := cum_le y (a := m) (b := 12) (by have := h.m0; omega) h.m1 (by omega)
  rw [cum0] at a
  rw [cum12] at b
  rw [ystart_succ]
  omega
theorem IsDate.range {day y m d : Int} (h : IsDate day y m d) : 0 ≤ day ∧ day ≤ 36524 := by
  have h1 := h.year
  have a := ystart_mono h.y0
  have b := ystart_mono (a := y + 1) (b := 2100) (by have := h.y1; omega)
  rw [ystart_2000] at a
  rw [ystart_2100] at b
  omega
theorem IsDate.uniq {day y m d y' m' d' : Int} (h : IsDate day y m d) (k : IsDate day y' m' d') : y = y' ∧ m = m' ∧ d = d' := by
  have a := h.year
  have b := k.year
  have hy : y = y' := by
    rcases Int.lt_trichotomy y y' with c | c | c
    · have := ystart_mono (a := y + 1) (b := y') (by omega); omega
    · exact c
    · have := ystart_mono (a := y' + 1) (b := y) (by omega); omega
  subst hy
  have a := h.lo
  have b := k.lo
  have hm : m = m' := by
    rcases Int.lt_trichotomy m m' with c | c | c
    · have := cum_le y (a := m) (b := m' - 1) (by have := h.m0; omega) (by omega) (by have := k.m1; omega); omega
    · exact c
    · have := cum_le y (a := m') (b := m - 1) (by have := k.m0; omega) (by omega) (by have := h.m1; omega); omega
  subst hm
  have a := h.eq
  have b := k.eq
  exact ⟨rfl, rfl, by omega⟩
def yearOf (d : Int) : Int := if d % 1461 ≥ 366 then 2000 + 4 * (d / 1461) + (1 + (d % 1461 - 366) / 365) else 2000 + 4 * (d / 1461)
theorem yearOf_bd {d : Int} (h : 0 ≤ d) (h1 : d ≤ 36524) : 2000 ≤ yearOf d ∧ yearOf d ≤ 2099 ∧ ystart (yearOf d) ≤ d ∧ d < ystart (yearOf d + 1) := by
  unfold yearOf ystart
  split <;> omega
theorem month_ex (y r : Int) (h0 : 0 ≤ r) (h1 : r < cum y 12) : ∃ m, 0 ≤ m ∧ m ≤ 11 ∧ cum y m ≤ r ∧ r < cum y (m + 1) := by
  have key : ∀ n : Nat, n ≤ 12 → r < cum y n → ∃ m, 0 ≤ m ∧ m ≤ 11 ∧ cum y m ≤ r ∧ r < cum y (m + 1) := by
    intro n
    induction n with
    | zero => intro _ h; rw [show ((0 : Nat) : Int) = 0 from rfl, cum0] at h; omega
    | succ n ih =>
      intro hn h
      by_cases c : r < cum y n
      · exact ih (by omega) c
      · exact ⟨n, by omega, by omega, by omega, by rw [show ((n : Int) + 1) = ((n + 1 : Nat) : Int) by omega]; exact h⟩
  exact key 12 (by omega) h1
theorem date_ex {d : Int} (h : 0 ≤ d) (h1 : d ≤ 36524) : ∃ m dd, IsDate d (yearOf d) m dd := by
  obtain ⟨a, b, c, e⟩ := yearOf_bd h h1
  rw [ystart_succ] at e
  obtain ⟨m, m0, m1, m2, m3⟩ := month_ex (yearOf d) (d - ystart (yearOf d)) (by omega) (by rw [cum12]; omega)
  refine ⟨m + 1, d - ystart (yearOf d) - cum (yearOf d) m + 1, a, b, by omega, by omega, by omega, ?_, ?_⟩
  · rw [show m + 1 - 1 = m by omega]; unfold mlen; omega
  · rw [show m + 1 - 1 = m by omega]; omega
open Classical in
/-- What Date returns. -/
noncomputable def dateOf (d : Int) : Int × Int × Int × Int :=
  if h : ∃ p : Int × Int × Int, IsDate d p.1 p.2.1 p.2.2 then (h.choose.1, h.choose.2.1, h.choose.2.2, 0) else (0, 0, 0, 3)
theorem dateOf_eq {day y m d : Int} (h : IsDate day y m d) : dateOf day = (y, m, d, 0) := by
  have e : ∃ p : Int × Int × Int, IsDate day p.1 p.2.1 p.2.2 := ⟨(y, m, d), h⟩
  unfold dateOf
  rw [dif_pos e]
  obtain ⟨a, b, c⟩ := e.choose_spec.uniq h
  rw [a, b, c]
theorem dateOf_out {day : Int} (h : day < 0 ∨ 36524 < day) : dateOf day = (0, 0, 0, 3) := by
  unfold dateOf
  rw [dif_neg]
  rintro ⟨p, hp⟩
  have := hp.range
  omega
theorem dateOf_in {day : Int} (h : 0 ≤ day) (h1 : day ≤ 36524) : ∃ y m d, IsDate day y m d ∧ dateOf day = (y, m, d, 0) := by
  obtain ⟨m, d, hd⟩ := date_ex h h1
  exact ⟨_, m, d, hd, dateOf_eq hd⟩
def ValidD (y m d : Int) : Prop := 2000 ≤ y ∧ y ≤ 2099 ∧ 1 ≤ m ∧ m ≤ 12 ∧ 1 ≤ d ∧ d ≤ mlen y (m - 1)
instance (y m d : Int) : Decidable (ValidD y m d) := by unfold ValidD; infer_instance
/-- What Day returns. -/
def dayOf (y m d : Int) : Int × Int := if ValidD y m d then (ystart y + cum y (m - 1) + d - 1, 0) else (0, 3)
theorem dayOf_eq {day y m d : Int} (h : IsDate day y m d) : dayOf y m d = (day, 0) := by
  unfold dayOf
  rw [if_pos ⟨h.y0, h.y1, h.m0, h.m1, h.d0, h.d1⟩, ← h.eq]
theorem isDate_of {y m d : Int} (h : ValidD y m d) : IsDate (ystart y + cum y (m - 1) + d - 1) y m d := ⟨h.1, h.2.1, h.2.2.1, h.2.2.2.1, h.2.2.2.2.1, h.2.2.2.2.2, rfl⟩
/-- What Weekday returns. -/
def weekdayOf (d : Int) : Int × Int := if 0 ≤ d ∧ d ≤ 36524 then ((d + 5) % 7, 0) else (0, 3)
/-- What Month returns. -/
noncomputable def monthOf (d : Int) : Int × Int := if (dateOf d).2.2.2 = 0 then (12 * ((dateOf d).1 - 2000) + (dateOf d).2.1 - 1, 0) else (0, (dateOf d).2.2.2)
/-- What Days returns. -/
def daysOf (m : Int) : Int × Int × Int := if 0 ≤ m ∧ m ≤ 1199 then (ystart (2000 + m / 12) + cum (2000 + m / 12) (m % 12), ystart (2000 + m / 12) + cum (2000 + m / 12) (m % 12 + 1), 0) else (0, 0, 3)

/-! ### Holidays -/
def PrefOK (l : List Int) (n : Int) : Prop := (∀ j : Int, 0 ≤ j → j < n → 0 ≤ rd l j ∧ rd l j ≤ 36524) ∧ ∀ j : Int, 0 < j → j < n → rd l (j - 1) < rd l j
def HolOK (l : List Int) : Prop := l.length ≤ 100 ∧ PrefOK l l.length
theorem rd_mem {l : List Int} {i : Int} (h : 0 ≤ i) (h1 : i < l.length) : rd l i ∈ l := by
  unfold rd
  rw [List.getD_eq_getElem?_getD, List.getElem?_eq_getElem (by omega), Option.getD_some]
  exact List.getElem_mem _
theorem mem_rd {l : List Int} {x : Int} (h : x ∈ l) : ∃ i : Int, 0 ≤ i ∧ i < l.length ∧ rd l i = x := by
  obtain ⟨n, hn, rfl⟩ := List.getElem_of_mem h
  refine ⟨n, by omega, by omega, ?_⟩
  unfold rd
  rw [List.getD_eq_getElem?_getD, Int.toNat_natCast, List.getElem?_eq_getElem hn, Option.getD_some]
theorem PrefOK.mono {l : List Int} {n : Int} (h : PrefOK l n) : ∀ (k : Nat) (i j : Int), 0 ≤ i → i + k = j → j < n → rd l i + k ≤ rd l j
  | 0, i, j, _, e, _ => by obtain rfl : i = j := by omega
                           omega
  | k + 1, i, j, h0, e, h1 => by
    have := PrefOK.mono h k i (j - 1) h0 (by omega) (by omega)
    have := h.2 j (by omega) h1
    omega
theorem PrefOK.lt {l : List Int} {n i j : Int} (h : PrefOK l n) (h0 : 0 ≤ i) (h1 : i < j) (h2 : j < n) : rd l i < rd l j := by
  have := h.mono (j - i).toNat i j h0 (by omega) h2
  omega
def Free (l : List Int) (d : Int) : Prop := d ∈ l ∨ 4 < (d + 5) % 7
open Classical in
noncomputable def freeB (l : List Int) (d : Int) : Bool := decide (Free l d)
open Classical in
noncomputable def holB (l : List Int) : Bool := decide (HolOK l)
theorem holB_true {l : List Int} : holB l = true ↔ HolOK l := by unfold holB; simp
theorem freeB_true {l : List Int} {d : Int} : freeB l d = true ↔ Free l d := by unfold freeB; simp
theorem freeB_false {l : List Int} {d : Int} : freeB l d = false ↔ ¬ Free l d := by unfold freeB; simp
theorem HolOK.range {l : List Int} (h : HolOK l) {x : Int} (hx : x ∈ l) : 0 ≤ x ∧ x ≤ 36524 := by
  obtain ⟨i, h0, h1, rfl⟩ := mem_rd hx
  exact h.2.1 i h0 h1
/-- What Working returns. -/
noncomputable def workingOf (d : Int) (l : List Int) : Bool × Int := if 0 ≤ d ∧ d ≤ 36524 then (if holB l = true then (!freeB l d, 0) else (false, 1)) else (false, 3)

/-! ### The next working day -/
structure IsNext (l : List Int) (d e : Int) : Prop where
  le : d ≤ e
  work : ¬ Free l e
  free : ∀ x, d ≤ x → x < e → Free l x
theorem IsNext.uniq {l : List Int} {d e e' : Int} (h : IsNext l d e) (k : IsNext l d e') : e = e' := by
  rcases Int.lt_trichotomy e e' with c | c | c
  · exact absurd (k.free e h.le c) h.work
  · exact c
  · exact absurd (h.free e' k.le c) k.work
theorem next_out {l : List Int} (h : HolOK l) {d : Int} (hd : 36525 ≤ d) : ∃ e, IsNext l d e ∧ e ≤ d + 2 := by
  have w : ∀ x, 36525 ≤ x → ¬ (4 < (x + 5) % 7) → ¬ Free l x := by
    intro x hx h1 h2
    rcases h2 with h2 | h2
    · have := h.range h2; omega
    · exact h1 h2
  by_cases a : 4 < (d + 5) % 7
  · by_cases b : 4 < (d + 1 + 5) % 7
    · refine ⟨d + 2, ⟨by omega, w _ (by omega) (by omega), fun x h1 h2 => ?_⟩, by omega⟩
      obtain rfl | rfl : x = d ∨ x = d + 1 := by omega
      · exact .inr a
      · exact .inr b
    · refine ⟨d + 1, ⟨by omega, w _ (by omega) b, fun x h1 h2 => ?_⟩, by omega⟩
      obtain rfl : x = d := by omega
      exact .inr a
  · exact ⟨d, ⟨by omega, w _ hd a, fun x h1 h2 => by omega⟩, by omega⟩
theorem next_ex {l : List Int} (h : HolOK l) (d : Int) : ∃ e, IsNext l d e ∧ (e ≤ 36527 ∨ e ≤ d + 2) := by
  have key : ∀ (n : Nat) (d : Int), d + n = 36525 → ∃ e, IsNext l d e ∧ e ≤ 36527 := by
    intro n
    induction n with
    | zero =>
      intro d hd
      obtain ⟨e, he, h2⟩ := next_out h (d := d) (by omega)
      exact ⟨e, he, by omega⟩
    | succ n ih =>
      intro d hd
      by_cases f : Free l d
      · obtain ⟨e, he, h2⟩ := ih (d + 1) (by omega)
        refine ⟨e, ⟨by have := he.le; omega, he.work, fun x h1 h3 => ?_⟩, h2⟩
        by_cases c : x = d
        · subst c; exact f
        · exact he.free x (by omega) h3
      · exact ⟨d, ⟨by omega, f, fun x h1 h3 => by omega⟩, by omega⟩
  by_cases c : d ≤ 36525
  · obtain ⟨e, he, h2⟩ := key (36525 - d).toNat d (by omega)
    exact ⟨e, he, .inl h2⟩
  · obtain ⟨e, he, h2⟩ := next_out h (d := d) (by omega)
    exact ⟨e, he, .inr h2⟩
open Classical in
noncomputable def nextW (l : List Int) (d : Int) : Int := if h : ∃ e, IsNext l d e then h.choose else d
theorem nextW_eq {l : List Int} {d e : Int} (h : IsNext l d e) : nextW l d = e := by
  have k : ∃ e, IsNext l d e := ⟨e, h⟩
  unfold nextW
  rw [dif_pos k]
  exact k.choose_spec.uniq h
theorem nextW_is {l : List Int} (h : HolOK l) (d : Int) : IsNext l d (nextW l d) ∧ (nextW l d ≤ 36527 ∨ nextW l d ≤ d + 2) := by
  obtain ⟨e, he, h2⟩ := next_ex h d
  rw [nextW_eq he]
  exact ⟨he, h2⟩
theorem nextW_mono {l : List Int} (h : HolOK l) {d d' : Int} (hd : d ≤ d') : nextW l d ≤ nextW l d' := by
  have a := (nextW_is h d).1
  have b := (nextW_is h d').1
  rcases Int.lt_or_le (nextW l d') (nextW l d) with c | c
  · exact absurd (a.free _ (by have := b.le; omega) c) b.work
  · exact c
def postI (how : Int) : Int := if how = 2 then 3 else 0
/-- What Deadline returns. -/
noncomputable def deadlineOf (day days how : Int) (l : List Int) : Int × Int :=
  if 0 ≤ day ∧ day ≤ 36524 then
    (if 0 ≤ days ∧ days ≤ 1000 ∧ (how = 1 ∨ how = 2) ∧ holB l = true then
      (if nextW l (day + days + postI how) ≤ 36524 then (nextW l (day + days + postI how), 0) else (0, 3)) else (0, 1)) else (0, 3)
end Go.Proofs.YtfhmbfadbfnnaaaDoor.Cal
