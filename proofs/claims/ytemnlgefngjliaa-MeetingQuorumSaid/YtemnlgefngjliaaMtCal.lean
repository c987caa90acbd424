/- What the calendar's functions and the reference's, as far as the meeting's laws come to them, say of holidays, working days and deadlines. Conditions: as each theorem states. -/
import Derived.Test.YtemnlgefngjliaaWWords
import Derived.Test.YtemnlgefngjliaaWMore
import Derived.Test.YtemnlgefngjliaaPx3
import Derived.Test.YtemnlgefngjliaaPx13
import Derived.Test.YtemnlgefngjliaaPx17
import Derived.Test.YtemnlgefngjliaaPx25
namespace Go.Proofs.Ytemnlgefngjliaa.Cal
open Go.RowKit Go.Proofs.YtemnlgefngjliaaW.PrintWords Go.Proofs.Ytemnlgefngjliaa.Given Go.Proofs.Ytemnlgefngjliaa.Px
set_option linter.unusedVariables false
set_option linter.unusedSimpArgs false
theorem w64 {x : Int} (h : -9223372036854775808 ≤ x) (h2 : x ≤ 9223372036854775807) : wrap64 x = x := by unfold wrap64; omega
theorem u64w {x : Int} (h : 0 ≤ x) (h2 : x ≤ 9223372036854775807) : IntKind.u64.wrap x = x := by
  simp only [IntKind.wrap]
  first
    | omega
    | (simp [IntKind.bits, IntKind.signed]; omega)
theorem evUp {α : Type} {g : Nat → Option α} {r : α} (K : Nat) (h : ∀ k, K ≤ k → g (k + 1) = some r) : Ev g r :=
  ⟨K + 1, fun k hk => by
    obtain ⟨j, rfl⟩ : ∃ j, k = j + 1 := ⟨k - 1, by omega⟩
    exact h j (by omega)⟩
def a5i (l : List Int) (n : Int) : Prop := (∀ j : Int, 0 ≤ j → j < n → 0 ≤ rd l j ∧ rd l j ≤ 36524) ∧ ∀ j : Int, 0 < j → j < n → rd l (j - 1) < rd l j
def a6w (l : List Int) : Prop := l.length ≤ 100 ∧ a5i l l.length
theorem a9r {l : List Int} {i : Int} (h : 0 ≤ i) (h1 : i < l.length) : rd l i ∈ l := by
  unfold rd
  rw [List.getD_eq_getElem?_getD, List.getElem?_eq_getElem (by omega), Option.getD_some]
  exact List.getElem_mem _
theorem a7r {l : List Int} {x : Int} (h : x ∈ l) : ∃ i : Int, 0 ≤ i ∧ i < l.length ∧ rd l i = x := by
  obtain ⟨n, hn, rfl⟩ := List.getElem_of_mem h
  refine ⟨n, by omega, by omega, ?_⟩
  unfold rd
  rw [List.getD_eq_getElem?_getD, Int.toNat_natCast, List.getElem?_eq_getElem hn, Option.getD_some]
theorem a5i.mono {l : List Int} {n : Int} (h : a5i l n) : ∀ (k : Nat) (i j : Int), 0 ≤ i → i + k = j → j < n → rd l i + k ≤ rd l j
  | 0, i, j, _, e, _ => by obtain rfl : i = j := by omega
                           omega
  | k + 1, i, j, h0, e, h1 => by
    have := a5i.mono h k i (j - 1) h0 (by omega) (by omega)
    have := h.2 j (by omega) h1
    omega
theorem a5i.lt {l : List Int} {n i j : Int} (h : a5i l n) (h0 : 0 ≤ i) (h1 : i < j) (h2 : j < n) : rd l i < rd l j := by
  have := h.mono (j - i).toNat i j h0 (by omega) h2
  omega
def Free (l : List Int) (d : Int) : Prop := d ∈ l ∨ 4 < (d + 5) % 7
open Classical in
noncomputable def a8t (l : List Int) (d : Int) : Bool := decide (Free l d)
open Classical in
noncomputable def holB (l : List Int) : Bool := decide (a6w l)
theorem a6p {l : List Int} : holB l = true ↔ a6w l := by unfold holB; simp
theorem a8a {l : List Int} {d : Int} : a8t l d = true ↔ Free l d := by unfold a8t; simp
theorem a9c {l : List Int} {d : Int} : a8t l d = false ↔ ¬ Free l d := by unfold a8t; simp
theorem a6w.range {l : List Int} (h : a6w l) {x : Int} (hx : x ∈ l) : 0 ≤ x ∧ x ≤ 36524 := by
  obtain ⟨i, h0, h1, rfl⟩ := a7r hx
  exact h.2.1 i h0 h1
noncomputable def a5w (d : Int) (l : List Int) : Bool × Int := if 0 ≤ d ∧ d ≤ 36524 then (if holB l = true then (!a8t l d, 0) else (false, 1)) else (false, 3)
structure a5x (l : List Int) (d e : Int) : Prop where
  le : d ≤ e
  work : ¬ Free l e
  free : ∀ x, d ≤ x → x < e → Free l x
theorem a5x.uniq {l : List Int} {d e e' : Int} (h : a5x l d e) (k : a5x l d e') : e = e' := by
  rcases Int.lt_trichotomy e e' with c | c | c
  · exact absurd (k.free e h.le c) h.work
  · exact c
  · exact absurd (h.free e' k.le c) k.work
theorem b1v {l : List Int} (h : a6w l) {d : Int} (hd : 36525 ≤ d) : ∃ e, a5x l d e ∧ e ≤ d + 2 := by
  have w : ∀ x, 36525 ≤ x → ¬ (4 < (x + 5) % 7) → ¬ Free l x := by
    intro x hx h1 h2
    rcases h2 with h2 | h2
    · have := h.range h2; omega
    · exact h1 h2
  by_cases a : 4 < (d + 5) % 7
  · by_cases b : 4 < (d + 1 + 5) % 7
    · refine ⟨d + 2, ⟨by omega, w _ (by omega) (by omega), fun x h1 h2 => ?_⟩, by omega⟩
      obtain rfl | rfl : x = d ∨ x = d + 1 := by omega
      · exact .inr a
      · exact .inr b
    · refine ⟨d + 1, ⟨by omega, w _ (by omega) b, fun x h1 h2 => ?_⟩, by omega⟩
      obtain rfl : x = d := by omega
      exact .inr a
  · exact ⟨d, ⟨by omega, w _ hd a, fun x h1 h2 => by omega⟩, by omega⟩
theorem b6v {l : List Int} (h : a6w l) (d : Int) : ∃ e, a5x l d e ∧ (e ≤ 36527 ∨ e ≤ d + 2) := by
  have key : ∀ (n : Nat) (d : Int), d + n = 36525 → ∃ e, a5x l d e ∧ e ≤ 36527 := by
    intro n
    induction n with
    | zero =>
      intro d hd
      obtain ⟨e, he, h2⟩ := b1v h (d := d) (by omega)
      exact ⟨e, he, by omega⟩
    | succ n ih =>
      intro d hd
      by_cases f : Free l d
      · obtain ⟨e, he, h2⟩ := ih (d + 1) (by omega)
        refine ⟨e, ⟨by have := he.le; omega, he.work, fun x h1 h3 => ?_⟩, h2⟩
        by_cases c : x = d
        · subst c; exact f
        · exact he.free x (by omega) h3
      · exact ⟨d, ⟨by omega, f, fun x h1 h3 => by omega⟩, by omega⟩
  by_cases c : d ≤ 36525
  · obtain ⟨e, he, h2⟩ := key (36525 - d).toNat d (by omega)
    exact ⟨e, he, .inl h2⟩
  · obtain ⟨e, he, h2⟩ := b1v h (d := d) (by omega)
    exact ⟨e, he, .inr h2⟩
open Classical in
noncomputable def a6x (l : List Int) (d : Int) : Int := if h : ∃ e, a5x l d e then h.choose else d
theorem b5o {l : List Int} {d e : Int} (h : a5x l d e) : a6x l d = e := by
  have k : ∃ e, a5x l d e := ⟨e, h⟩
  unfold a6x
  rw [dif_pos k]
  exact k.choose_spec.uniq h
theorem b5p {l : List Int} (h : a6w l) (d : Int) : a5x l d (a6x l d) ∧ (a6x l d ≤ 36527 ∨ a6x l d ≤ d + 2) := by
  obtain ⟨e, he, h2⟩ := b6v h d
  rw [b5o he]
  exact ⟨he, h2⟩
def a6b (how : Int) : Int := if how = 2 then 3 else 0
noncomputable def a6y (day days how : Int) (l : List Int) : Int × Int :=
  if 0 ≤ day ∧ day ≤ 36524 then
    (if 0 ≤ days ∧ days ≤ 1000 ∧ (how = 1 ∨ how = 2) ∧ holB l = true then
      (if a6x l (day + days + a6b how) ≤ 36524 then (a6x l (day + days + a6b how), 0) else (0, 3)) else (0, 1)) else (0, 3)
theorem b5q {a b : Int} (h : 0 ≤ a) : Int.tmod a b = a % b := Int.tmod_eq_emod_of_nonneg h
theorem valid_eq (d : Int) : a3q.f d = some (decide (0 ≤ d ∧ d ≤ 36524)) := by
  unfold a3q.f
  by_cases h : 0 ≤ d
  · rw [if_pos h]; simp [h]
  · rw [if_neg h]; simp [h]
theorem b3j {d : Int} (h : 0 ≤ d) (h1 : d ≤ 1000000) : a5g.f d = some ((d + 5) % 7) := by
  unfold a5g.f
  rw [w64 (by omega) (by omega), b5q (by omega)]
theorem b5r {l : List Int} {i : Int} (h : a5i l i) (h0 : 0 ≤ i) (hv : 0 ≤ rd l i ∧ rd l i ≤ 36524) (hr : 0 < i → rd l (i - 1) < rd l i) : a5i l (i + 1) := by
  refine ⟨fun j h1 h2 => ?_, fun j h1 h2 => ?_⟩
  · by_cases c : j = i
    · subst c; exact hv
    · exact h.1 j h1 (by omega)
  · by_cases c : j = i
    · subst c; exact hr h1
    · exact h.2 j h1 (by omega)
open Classical in
theorem b8y (l : List Int) (hl : l.length ≤ 1000000) : ∀ (n : Nat) (i : Int), 0 ≤ i → i + n = l.length → a5i l i →
    Ev (fun k => a0k.l0 k l l (l.length : Int) i) (decide (a5i l l.length ∧ l.length ≤ 100)) := by
  intro n
  induction n with
  | zero =>
    intro i h0 hi hp
    obtain rfl : i = l.length := by omega
    refine evUp 0 fun k _ => ?_
    rw [a0k.l0, if_neg (by omega)]
    congr 1
    simp [hp]
    omega
  | succ n ih =>
    intro i h0 hi hp
    by_cases hv : 0 ≤ rd l i ∧ rd l i ≤ 36524
    · by_cases hr : 0 < i → rd l (i - 1) < rd l i
      · obtain ⟨K, hK⟩ := ih (i + 1) (by omega) (by omega) (b5r hp h0 hv hr)
        dsimp only at hK
        refine evUp (K + 1) fun k hk => ?_
        obtain ⟨j, rfl⟩ : ∃ j, k = j + 1 := ⟨k - 1, by omega⟩
        rw [a0k.l0, if_pos (by omega), if_pos h0, if_pos (by omega), valid_eq]
        simp only [Option.bind_some, decide_eq_true_eq]
        rw [if_pos hv]
        by_cases c : i > 0
        · have hr' := hr c
          rw [if_pos c, w64 (x := i - 1) (by omega) (by omega), if_pos (by omega), if_pos (by omega), decide_eq_false (by omega), a0k.j1, if_neg (by simp), w64 (by omega) (by omega)]
          exact hK j (by omega)
        · rw [if_neg c, a0k.j1, if_neg (by simp), w64 (by omega) (by omega)]
          exact hK j (by omega)
      · have hb : ¬ a5i l l.length := fun h => hr (fun c => h.2 i c (by omega))
        have c : 0 < i := by
          rcases Int.lt_or_le 0 i with c | c
          · exact c
          · exact absurd (fun c' => absurd c' (by omega)) hr
        rw [decide_eq_false (fun h => hb h.1)]
        refine evUp 1 fun k hk => ?_
        obtain ⟨j, rfl⟩ : ∃ j, k = j + 1 := ⟨k - 1, by omega⟩
        rw [a0k.l0, if_pos (by omega), if_pos h0, if_pos (by omega), valid_eq]
        simp only [Option.bind_some, decide_eq_true_eq]
        rw [if_pos hv, if_pos c, w64 (x := i - 1) (by omega) (by omega), if_pos (by omega), if_pos (by omega), decide_eq_true (by
          rcases Int.lt_or_le (rd l (i - 1)) (rd l i) with d | d
          · exact absurd (fun _ => d) hr
          · exact d), a0k.j1, if_pos rfl]
    · have hb : ¬ a5i l l.length := fun h => hv (h.1 i h0 (by omega))
      rw [decide_eq_false (fun h => hb h.1)]
      refine evUp 1 fun k hk => ?_
      obtain ⟨j, rfl⟩ : ∃ j, k = j + 1 := ⟨k - 1, by omega⟩
      rw [a0k.l0, if_pos (by omega), if_pos h0, if_pos (by omega), valid_eq]
      simp only [Option.bind_some, decide_eq_true_eq]
      rw [if_neg hv, a0k.j1, if_pos rfl]
open Classical in
theorem b6g (l : List Int) (hl : l.length ≤ 1000000) : Ev (fun k => a0k.f k l) (holB l) := by
  have h := b8y l hl l.length 0 (by omega) (by omega) ⟨fun j h1 h2 => by omega, fun j h1 h2 => by omega⟩
  have e : holB l = decide (a5i l l.length ∧ l.length ≤ 100) := by
    rw [Bool.eq_iff_iff, a6p, decide_eq_true_eq]
    exact ⟨fun h => ⟨h.2, h.1⟩, fun h => ⟨h.2, h.1⟩⟩
  rw [e]
  exact h
open Classical in
open Classical in
theorem a8u (a b : Int) : cmp_Less_int.f a b = some (decide (a < b)) := by
  unfold cmp_Less_int.f cmp_isNaN_int.f
  simp
theorem b8z (l : List Int) (x : Int) (hl : l.length ≤ 1000000) (hp : a5i l l.length) : ∀ (n : Nat) (i j : Int), 0 ≤ i → i ≤ j → j ≤ l.length → j - i ≤ n →
    (∀ t, 0 ≤ t → t < i → rd l t < x) → (∀ t, j ≤ t → t < l.length → x ≤ rd l t) →
    ∃ p b, (b = true ↔ x ∈ l) ∧ Ev (fun k => a1n.l0 k l x (l.length : Int) i j) (p, b) := by
  intro n
  induction n with
  | zero =>
    intro i j h0 hij hj hn hlo hhi
    obtain rfl : i = j := by omega
    by_cases c : i < l.length
    · by_cases d : rd l i = x
      · refine ⟨i, true, ⟨fun _ => d ▸ a9r h0 c, fun _ => rfl⟩, evUp 0 fun k _ => ?_⟩
        rw [a1n.l0, if_neg (by omega), if_pos c, if_pos h0, if_pos c, if_pos d]
      · refine ⟨i, false, ⟨fun h => by simp at h, fun h => ?_⟩, evUp 0 fun k _ => ?_⟩
        · obtain ⟨t, t0, t1, rfl⟩ := a7r h
          rcases Int.lt_trichotomy t i with e | e | e
          · have := hlo t t0 e; omega
          · subst e; exact absurd rfl d
          · have := hhi i (by omega) c
            have := hp.lt h0 e t1
            omega
        · rw [a1n.l0, if_neg (by omega), if_pos c, if_pos h0, if_pos c, if_neg d]
          unfold a2a.f
          simp
    · refine ⟨i, false, ⟨fun h => by simp at h, fun h => ?_⟩, evUp 0 fun k _ => ?_⟩
      · obtain ⟨t, t0, t1, rfl⟩ := a7r h
        have := hlo t t0 (by omega)
        omega
      · rw [a1n.l0, if_neg (by omega), if_neg (by omega)]
  | succ n ih =>
    intro i j h0 hij hj hn hlo hhi
    by_cases e : i = j
    · exact ih i j h0 hij hj (by omega) hlo hhi
    · have hm : wrap64 (IntKind.u64.wrap (wrap64 (i + j)) / 2) = (i + j) / 2 := by
        rw [w64 (x := i + j) (by omega) (by omega), u64w (by omega) (by omega), w64 (by omega) (by omega)]
      by_cases d : rd l ((i + j) / 2) < x
      · obtain ⟨p, b, hb, K, hK⟩ := ih ((i + j) / 2 + 1) j (by omega) (by omega) hj (by omega) (fun t t0 t1 => by
          by_cases q : t = (i + j) / 2
          · subst q; exact d
          · have := hp.lt t0 (show t < (i + j) / 2 by omega) (by omega)
            omega) hhi
        refine ⟨p, b, hb, evUp K fun k hk => ?_⟩
        rw [a1n.l0, if_pos (by omega), hm, if_pos (by omega), if_pos (by omega), a8u]
        simp only [Option.bind_some, decide_eq_true_eq]
        rw [if_pos d, w64 (by omega) (by omega)]
        exact hK k hk
      · obtain ⟨p, b, hb, K, hK⟩ := ih i ((i + j) / 2) h0 (by omega) (by omega) (by omega) hlo (fun t t0 t1 => by
          by_cases q : t = (i + j) / 2
          · subst q; omega
          · have := hp.lt (show 0 ≤ (i + j) / 2 by omega) (show (i + j) / 2 < t by omega) t1
            omega)
        refine ⟨p, b, hb, evUp K fun k hk => ?_⟩
        rw [a1n.l0, if_pos (by omega), hm, if_pos (by omega), if_pos (by omega), a8u]
        simp only [Option.bind_some, decide_eq_true_eq]
        rw [if_neg d]
        exact hK k hk
theorem b0k (l : List Int) (hl : a6w l) (d : Int) (h0 : 0 ≤ d) (h1 : d ≤ 1000000) : Ev (fun k => a2e.f k l d) (a8t l d) := by
  have hlen := hl.1
  obtain ⟨p, b, hb, K, hK⟩ := b8z l d (by omega) hl.2 l.length 0 l.length (by omega) (by omega) (by omega) (by omega) (fun t a b => by omega) (fun t a b => by omega)
  dsimp only at hK
  refine ⟨K, fun k hk => ?_⟩
  show a2e.f k l d = _
  unfold a2e.f a1n.f
  rw [hK k hk]
  simp only [Option.bind_some]
  cases b with
  | true =>
    rw [if_pos rfl]
    congr 1
    exact (a8a.mpr (.inl (hb.mp rfl))).symm
  | false =>
    rw [if_neg (by simp), b3j h0 h1]
    simp only [Option.bind_some]
    congr 1
    have hn : d ∉ l := fun h => by have := hb.mpr h; simp at this
    by_cases c : (d + 5) % 7 > 4
    · rw [decide_eq_true c]; exact (a8a.mpr (.inr c)).symm
    · rw [decide_eq_false c]; exact (a9c.mpr (fun h => h.elim hn c)).symm
theorem b3k (d : Int) (l : List Int) (hl : l.length ≤ 1000000) : Ev (fun k => a3t.f k d l) (a5w d l) := by
  unfold a5w
  by_cases h : 0 ≤ d ∧ d ≤ 36524
  · rw [if_pos h]
    obtain ⟨K, hK⟩ := b6g l hl
    dsimp only at hK
    by_cases c : holB l = true
    · rw [if_pos c]
      obtain ⟨K2, hK2⟩ := b0k l (a6p.mp c) d h.1 (by omega)
      dsimp only at hK2
      refine ⟨K + K2, fun k hk => ?_⟩
      show a3t.f k d l = _
      unfold a3t.f
      rw [valid_eq, hK k (by omega), hK2 k (by omega), c, decide_eq_true h]
      rfl
    · rw [if_neg c]
      refine ⟨K, fun k hk => ?_⟩
      show a3t.f k d l = _
      unfold a3t.f
      rw [valid_eq, hK k (by omega), decide_eq_true h, Bool.eq_false_iff.mpr c]
      rfl
  · rw [if_neg h]
    refine ⟨0, fun k hk => ?_⟩
    show a3t.f k d l = _
    unfold a3t.f
    rw [valid_eq, decide_eq_false h]
    rfl
theorem b9a (l : List Int) (hl : a6w l) (e : Int) (he : e ≤ 900000) : ∀ (n : Nat) (d : Int), 0 ≤ d → d + n = e → a5x l d e →
    Ev (fun k => a0n.l0 k d l) (if e ≤ 36524 then (e, 0) else (0, 3)) := by
  intro n
  induction n with
  | zero =>
    intro d h0 hd hn
    obtain rfl : d = e := by omega
    obtain ⟨K, hK⟩ := b0k l hl d h0 (by omega)
    dsimp only at hK
    refine evUp K fun k hk => ?_
    have hK' := hK k hk
    rw [a0n.l0, hK', a9c.mpr hn.work, valid_eq]
    simp only [Option.bind_some]
    rw [if_neg (by simp)]
    by_cases c : d ≤ 36524
    · rw [if_pos c, decide_eq_true ⟨h0, c⟩, if_pos rfl]
    · rw [if_neg c, decide_eq_false (by omega), if_neg (by simp)]
  | succ n ih =>
    intro d h0 hd hn
    obtain ⟨K2, hK2⟩ := ih (d + 1) (by omega) (by omega) ⟨by omega, hn.work, fun x a b => hn.free x (by omega) b⟩
    dsimp only at hK2
    obtain ⟨K, hK⟩ := b0k l hl d h0 (by omega)
    dsimp only at hK
    refine evUp (K + K2) fun k hk => ?_
    have hK' := hK k (by omega)
    rw [a0n.l0, hK', a8a.mpr (hn.free d (by omega) (by omega))]
    simp only [Option.bind_some]
    rw [if_pos trivial, w64 (by omega) (by omega)]
    exact hK2 k (by omega)
theorem b2l (day days how : Int) (l : List Int) (hl : l.length ≤ 1000000) : Ev (fun k => a0n.f k day days how l) (a6y day days how l) := by
  have bad : ∀ k, a0n.j0 (k + 1) day days how l true = some (0, 1) := fun k => by rw [a0n.j0, if_pos rfl]
  unfold a6y
  by_cases h : 0 ≤ day ∧ day ≤ 36524
  · rw [if_pos h]
    by_cases h1 : days < 0
    · rw [if_neg (by omega)]
      refine evUp 0 fun k _ => ?_
      unfold a0n.f
      rw [valid_eq, decide_eq_true h]
      simp only [Option.bind_some]
      rw [if_pos trivial, if_pos h1, bad]
    by_cases h2 : days > 1000
    · rw [if_neg (by omega)]
      refine evUp 0 fun k _ => ?_
      unfold a0n.f
      rw [valid_eq, decide_eq_true h]
      simp only [Option.bind_some]
      rw [if_pos trivial, if_neg h1, if_pos h2, bad]
    obtain ⟨K, hK⟩ := b6g l hl
    dsimp only at hK
    by_cases c : holB l = true
    · by_cases hw : how = 1 ∨ how = 2
      · rw [if_pos ⟨by omega, by omega, hw, c⟩]
        obtain ⟨hn, hb⟩ := b5p (a6p.mp c) (day + days + a6b how)
        have hpo : 0 ≤ a6b how ∧ a6b how ≤ 3 := by unfold a6b; split <;> omega
        obtain ⟨K2, hK2⟩ := b9a l (a6p.mp c) (a6x l (day + days + a6b how)) (by omega) (a6x l (day + days + a6b how) - (day + days + a6b how)).toNat (day + days + a6b how) (by omega) (by have := hn.le; omega) hn
        dsimp only at hK2
        refine evUp (K + K2 + 1) fun k hk => ?_
        obtain ⟨j, rfl⟩ : ∃ j, k = j + 1 := ⟨k - 1, by omega⟩
        have hK' := hK (j + 1 + 1) (by omega)
        have hK2' := hK2 j (by omega)
        unfold a0n.f
        rw [valid_eq, decide_eq_true h]
        simp only [Option.bind_some]
        rw [if_pos trivial, if_neg h1, if_neg h2, hK', c]
        simp only [Option.bind_some, Bool.not_true]
        rw [a0n.j0, if_neg (by simp)]
        rcases hw with rfl | rfl
        · rw [if_pos rfl, a0n.j1, w64 (by omega) (by omega)]
          rw [show a6b 1 = 0 by rfl, Int.add_zero] at hK2' ⊢
          exact hK2'
        · rw [if_neg (by omega), if_pos rfl, a0n.j1, w64 (x := day + 3) (by omega) (by omega), w64 (by omega) (by omega), show day + 3 + days = day + days + a6b 2 by unfold a6b; simp; omega]
          exact hK2'
      · rw [if_neg (fun x => hw x.2.2.1)]
        refine evUp (K + 1) fun k hk => ?_
        have hK' := hK (k + 1) (by omega)
        unfold a0n.f
        rw [valid_eq, decide_eq_true h]
        simp only [Option.bind_some]
        rw [if_pos trivial, if_neg h1, if_neg h2, hK', c]
        simp only [Option.bind_some, Bool.not_true]
        rw [a0n.j0, if_neg (by simp), if_neg (by omega), if_neg (by omega)]
    · rw [if_neg (fun x => c x.2.2.2)]
      refine evUp K fun k hk => ?_
      have hK' := hK (k + 1) (by omega)
      unfold a0n.f
      rw [valid_eq, decide_eq_true h]
      simp only [Option.bind_some]
      rw [if_pos trivial, if_neg h1, if_neg h2, hK', Bool.eq_false_iff.mpr c]
      simp only [Option.bind_some, Bool.not_false]
      rw [bad]
  · rw [if_neg h]
    refine ⟨0, fun k hk => ?_⟩
    show a0n.f k day days how l = _
    unfold a0n.f
    rw [valid_eq, decide_eq_false h]
    rfl
end Go.Proofs.Ytemnlgefngjliaa.Cal
