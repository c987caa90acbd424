/- What the calendar's functions and the reference's, as far as the meeting's laws come to them, say of holidays, working days and deadlines. Conditions: as each theorem states. -/
import Derived.Test.YtemnlgefngjliaaCalM
import Derived.Test.YtemnlgefngjliaaPx3
import Derived.Test.YtemnlgefngjliaaPx13
import Derived.Test.YtemnlgefngjliaaPx17
import Derived.Test.YtemnlgefngjliaaPx24
import Derived.Test.YtemnlgefngjliaaPx25
namespace Go.Proofs.Ytemnlgefngjliaa.Cal
open Go.RowKit Go.Proofs.YtemnlgefngjliaaW.PrintWords Go.Proofs.Ytemnlgefngjliaa.Given Go.Proofs.Ytemnlgefngjliaa.Px
set_option linter.unusedVariables false
set_option linter.unusedSimpArgs false
theorem tmod_pos {a b : Int} (h : 0 ≤ a) : Int.tmod a b = a % b := Int.tmod_eq_emod_of_nonneg h
theorem valid_eq (d : Int) : calendar_valid.f d = some (decide (0 ≤ d ∧ d ≤ 36524)) := by
 unfold calendar_valid.f
 by_cases h : 0 ≤ d
 ·rw [if_pos h]; simp [h]
 ·rw [if_neg h]; simp [h]
theorem weekday_eq {d : Int} (h : 0 ≤ d) (h1 : d ≤ 1000000) : calendar_weekday.f d = some ((d + 5) % 7) := by
 unfold calendar_weekday.f
 rw [w64 (by omega) (by omega), tmod_pos (by omega)]
/-! ### Lists of holidays -/
theorem pref_all {l : List Int} {i : Int} (h : PrefOK l i) (h0 : 0 ≤ i) (hv : 0 ≤ rd l i ∧ rd l i ≤ 36524) (hr : 0 < i → rd l (i - 1) < rd l i) : PrefOK l (i + 1) := by
 refine ⟨fun j h1 h2 => ?_, fun j h1 h2 => ?_⟩
 ·by_cases c : j = i
  ·subst c; exact hv
  ·exact h.1 j h1 (by omega)
 ·by_cases c : j = i
  ·subst c; exact hr h1
  ·exact h.2 j h1 (by omega)
open Classical in
theorem lv_l0 (l : List Int) (hl : l.length ≤ 1000000) : ∀ (n : Nat) (i : Int), 0 ≤ i → i + n = l.length → PrefOK l i →
  Ev (fun k => calendar_list_valid.l0 k l l (l.length : Int) i) (decide (PrefOK l l.length ∧ l.length ≤ 100)) := by
 intro n
 induction n with
 | zero =>
  intro i h0 hi hp
  obtain rfl : i = l.length := by omega
  refine evUp 0 fun k _ => ?_
  rw [calendar_list_valid.l0, if_neg (by omega)]
  congr 1
  simp [hp]
  omega
 | succ n ih =>
  intro i h0 hi hp
  by_cases hv : 0 ≤ rd l i ∧ rd l i ≤ 36524
  ·by_cases hr : 0 < i → rd l (i - 1) < rd l i
   ·obtain ⟨K, hK⟩ := ih (i + 1) (by omega) (by omega) (pref_all hp h0 hv hr)
    dsimp only at hK
    refine evUp (K + 1) fun k hk => ?_
    obtain ⟨j, rfl⟩ : ∃ j, k = j + 1 := ⟨k - 1, by omega⟩
    rw [calendar_list_valid.l0, if_pos (by omega), if_pos h0, if_pos (by omega), valid_eq]
    simp only [Option.bind_some, decide_eq_true_eq]
    rw [if_pos hv]
    by_cases c : i > 0
    ·have hr' := hr c
     rw [if_pos c, w64 (x := i - 1) (by omega) (by omega), if_pos (by omega), if_pos (by omega), decide_eq_false (by omega), calendar_list_valid.j1, if_neg (by simp), w64 (by omega) (by omega)]
     exact hK j (by omega)
    ·rw [if_neg c, calendar_list_valid.j1, if_neg (by simp), w64 (by omega) (by omega)]
     exact hK j (by omega)
   ·have hb : ¬ PrefOK l l.length := fun h => hr (fun c => h.2 i c (by omega))
    have c : 0 < i := by
     rcases Int.lt_or_le 0 i with c | c
     ·exact c
     ·exact absurd (fun c' => absurd c' (by omega)) hr
    rw [decide_eq_false (fun h => hb h.1)]
    refine evUp 1 fun k hk => ?_
    obtain ⟨j, rfl⟩ : ∃ j, k = j + 1 := ⟨k - 1, by omega⟩
    rw [calendar_list_valid.l0, if_pos (by omega), if_pos h0, if_pos (by omega), valid_eq]
    simp only [Option.bind_some, decide_eq_true_eq]
    rw [if_pos hv, if_pos c, w64 (x := i - 1) (by omega) (by omega), if_pos (by omega), if_pos (by omega), decide_eq_true (by
     rcases Int.lt_or_le (rd l (i - 1)) (rd l i) with d | d
     ·exact absurd (fun _ => d) hr
     ·exact d), calendar_list_valid.j1, if_pos rfl]
  ·have hb : ¬ PrefOK l l.length := fun h => hv (h.1 i h0 (by omega))
   rw [decide_eq_false (fun h => hb h.1)]
   refine evUp 1 fun k hk => ?_
   obtain ⟨j, rfl⟩ : ∃ j, k = j + 1 := ⟨k - 1, by omega⟩
   rw [calendar_list_valid.l0, if_pos (by omega), if_pos h0, if_pos (by omega), valid_eq]
   simp only [Option.bind_some, decide_eq_true_eq]
   rw [if_neg hv, calendar_list_valid.j1, if_pos rfl]
open Classical in
theorem lv_ev (l : List Int) (hl : l.length ≤ 1000000) : Ev (fun k => calendar_list_valid.f k l) (holB l) := by
 have h := lv_l0 l hl l.length 0 (by omega) (by omega) ⟨fun j h1 h2 => by omega, fun j h1 h2 => by omega⟩
 have e : holB l = decide (PrefOK l l.length ∧ l.length ≤ 100) := by
  rw [Bool.eq_iff_iff, holB_true, decide_eq_true_eq]
  exact ⟨fun h => ⟨h.2, h.1⟩, fun h => ⟨h.2, h.1⟩⟩
 rw [e]
 exact h
open Classical in
open Classical in
/-! ### The binary search, the working days -/
theorem less_eq (a b : Int) : cmp_Less_int.f a b = some (decide (a < b)) := by
 unfold cmp_Less_int.f cmp_isNaN_int.f
 simp
theorem bs_l0 (l : List Int) (x : Int) (hl : l.length ≤ 1000000) (hp : PrefOK l l.length) : ∀ (n : Nat) (i j : Int), 0 ≤ i → i ≤ j → j ≤ l.length → j - i ≤ n →
  (∀ t, 0 ≤ t → t < i → rd l t < x) → (∀ t, j ≤ t → t < l.length → x ≤ rd l t) →
  ∃ p b, (b = true ↔ x ∈ l) ∧ Ev (fun k => calendar_list_int.l0 k l x (l.length : Int) i j) (p, b) := by
 intro n
 induction n with
 | zero =>
  intro i j h0 hij hj hn hlo hhi
  obtain rfl : i = j := by omega
  by_cases c : i < l.length
  ·by_cases d : rd l i = x
   ·refine ⟨i, true, ⟨fun _ => d ▸ rd_mem h0 c, fun _ => rfl⟩, evUp 0 fun k _ => ?_⟩
    rw [calendar_list_int.l0, if_neg (by omega), if_pos c, if_pos h0, if_pos c, if_pos d]
   ·refine ⟨i, false, ⟨fun h => by simp at h, fun h => ?_⟩, evUp 0 fun k _ => ?_⟩
    ·obtain ⟨t, t0, t1, rfl⟩ := mem_rd h
     rcases Int.lt_trichotomy t i with e | e | e
     ·have := hlo t t0 e; omega
     ·subst e; exact absurd rfl d
     ·have := hhi i (by omega) c
      have := hp.lt h0 e t1
      omega
    ·rw [calendar_list_int.l0, if_neg (by omega), if_pos c, if_pos h0, if_pos c, if_neg d]
     unfold slices_isNaN_int.f
     simp
  ·refine ⟨i, false, ⟨fun h => by simp at h, fun h => ?_⟩, evUp 0 fun k _ => ?_⟩
   ·obtain ⟨t, t0, t1, rfl⟩ := mem_rd h
    have := hlo t t0 (by omega)
    omega
   ·rw [calendar_list_int.l0, if_neg (by omega), if_neg (by omega)]
 | succ n ih =>
  intro i j h0 hij hj hn hlo hhi
  by_cases e : i = j
  ·exact ih i j h0 hij hj (by omega) hlo hhi
  ·have hm : wrap64 (IntKind.u64.wrap (wrap64 (i + j)) / 2) = (i + j) / 2 := by
    rw [w64 (x := i + j) (by omega) (by omega), u64w (by omega) (by omega), w64 (by omega) (by omega)]
   by_cases d : rd l ((i + j) / 2) < x
   ·obtain ⟨p, b, hb, K, hK⟩ := ih ((i + j) / 2 + 1) j (by omega) (by omega) hj (by omega) (fun t t0 t1 => by
     by_cases q : t = (i + j) / 2
     ·subst q; exact d
     ·have := hp.lt t0 (show t < (i + j) / 2 by omega) (by omega)
      omega) hhi
    refine ⟨p, b, hb, evUp K fun k hk => ?_⟩
    rw [calendar_list_int.l0, if_pos (by omega), hm, if_pos (by omega), if_pos (by omega), less_eq]
    simp only [Option.bind_some, decide_eq_true_eq]
    rw [if_pos d, w64 (by omega) (by omega)]
    exact hK k hk
   ·obtain ⟨p, b, hb, K, hK⟩ := ih i ((i + j) / 2) h0 (by omega) (by omega) (by omega) hlo (fun t t0 t1 => by
     by_cases q : t = (i + j) / 2
     ·subst q; omega
     ·have := hp.lt (show 0 ≤ (i + j) / 2 by omega) (show (i + j) / 2 < t by omega) t1
      omega)
    refine ⟨p, b, hb, evUp K fun k hk => ?_⟩
    rw [calendar_list_int.l0, if_pos (by omega), hm, if_pos (by omega), if_pos (by omega), less_eq]
    simp only [Option.bind_some, decide_eq_true_eq]
    rw [if_neg d]
    exact hK k hk
theorem free_ev (l : List Int) (hl : HolOK l) (d : Int) (h0 : 0 ≤ d) (h1 : d ≤ 1000000) : Ev (fun k => calendar_list_free.f k l d) (freeB l d) := by
 have hlen := hl.1
 obtain ⟨p, b, hb, K, hK⟩ := bs_l0 l d (by omega) hl.2 l.length 0 l.length (by omega) (by omega) (by omega) (by omega) (fun t a b => by omega) (fun t a b => by omega)
 dsimp only at hK
 refine ⟨K, fun k hk => ?_⟩
 show calendar_list_free.f k l d = _
 unfold calendar_list_free.f calendar_list_int.f
 rw [hK k hk]
 simp only [Option.bind_some]
 cases b with
 | true =>
  rw [if_pos rfl]
  congr 1
  exact (freeB_true.mpr (.inl (hb.mp rfl))).symm
 | false =>
  rw [if_neg (by simp), weekday_eq h0 h1]
  simp only [Option.bind_some]
  congr 1
  have hn : d ∉ l := fun h => by have := hb.mpr h; simp at this
  by_cases c : (d + 5) % 7 > 4
  ·rw [decide_eq_true c]; exact (freeB_true.mpr (.inr c)).symm
  ·rw [decide_eq_false c]; exact (freeB_false.mpr (fun h => h.elim hn c)).symm
theorem working_ev (d : Int) (l : List Int) (hl : l.length ≤ 1000000) : Ev (fun k => calendar_Working.f k d l) (workingOf d l) := by
 unfold workingOf
 by_cases h : 0 ≤ d ∧ d ≤ 36524
 ·rw [if_pos h]
  obtain ⟨K, hK⟩ := lv_ev l hl
  dsimp only at hK
  by_cases c : holB l = true
  ·rw [if_pos c]
   obtain ⟨K2, hK2⟩ := free_ev l (holB_true.mp c) d h.1 (by omega)
   dsimp only at hK2
   refine ⟨K + K2, fun k hk => ?_⟩
   show calendar_Working.f k d l = _
   unfold calendar_Working.f
   rw [valid_eq, hK k (by omega), hK2 k (by omega), c, decide_eq_true h]
   rfl
  ·rw [if_neg c]
   refine ⟨K, fun k hk => ?_⟩
   show calendar_Working.f k d l = _
   unfold calendar_Working.f
   rw [valid_eq, hK k (by omega), decide_eq_true h, Bool.eq_false_iff.mpr c]
   rfl
 ·rw [if_neg h]
  refine ⟨0, fun k hk => ?_⟩
  show calendar_Working.f k d l = _
  unfold calendar_Working.f
  rw [valid_eq, decide_eq_false h]
  rfl
theorem dl_l0 (l : List Int) (hl : HolOK l) (e : Int) (he : e ≤ 900000) : ∀ (n : Nat) (d : Int), 0 ≤ d → d + n = e → IsNext l d e →
  Ev (fun k => calendar_Deadline.l0 k d l) (if e ≤ 36524 then (e, 0) else (0, 3)) := by
 intro n
 induction n with
 | zero =>
  intro d h0 hd hn
  obtain rfl : d = e := by omega
  obtain ⟨K, hK⟩ := free_ev l hl d h0 (by omega)
  dsimp only at hK
  refine evUp K fun k hk => ?_
  have hK' := hK k hk
  rw [calendar_Deadline.l0, hK', freeB_false.mpr hn.work, valid_eq]
  simp only [Option.bind_some]
  rw [if_neg (by simp)]
  by_cases c : d ≤ 36524
  ·rw [if_pos c, decide_eq_true ⟨h0, c⟩, if_pos rfl]
  ·rw [if_neg c, decide_eq_false (by omega), if_neg (by simp)]
 | succ n ih =>
  intro d h0 hd hn
  obtain ⟨K2, hK2⟩ := ih (d + 1) (by omega) (by omega) ⟨by omega, hn.work, fun x a b => hn.free x (by omega) b⟩
  dsimp only at hK2
  obtain ⟨K, hK⟩ := free_ev l hl d h0 (by omega)
  dsimp only at hK
  refine evUp (K + K2) fun k hk => ?_
  have hK' := hK k (by omega)
  rw [calendar_Deadline.l0, hK', freeB_true.mpr (hn.free d (by omega) (by omega))]
  simp only [Option.bind_some]
  rw [if_pos trivial, w64 (by omega) (by omega)]
  exact hK2 k (by omega)
theorem deadline_ev (day days how : Int) (l : List Int) (hl : l.length ≤ 1000000) : Ev (fun k => calendar_Deadline.f k day days how l) (deadlineOf day days how l) := by
 have bad : ∀ k, calendar_Deadline.j0 (k + 1) day days how l true = some (0, 1) := fun k => by rw [calendar_Deadline.j0, if_pos rfl]
 unfold deadlineOf
 by_cases h : 0 ≤ day ∧ day ≤ 36524
 ·rw [if_pos h]
  by_cases h1 : days < 0
  ·rw [if_neg (by omega)]
   refine evUp 0 fun k _ => ?_
   unfold calendar_Deadline.f
   rw [valid_eq, decide_eq_true h]
   simp only [Option.bind_some]
   rw [if_pos trivial, if_pos h1, bad]
  by_cases h2 : days > 1000
  ·rw [if_neg (by omega)]
   refine evUp 0 fun k _ => ?_
   unfold calendar_Deadline.f
   rw [valid_eq, decide_eq_true h]
   simp only [Option.bind_some]
   rw [if_pos trivial, if_neg h1, if_pos h2, bad]
  obtain ⟨K, hK⟩ := lv_ev l hl
  dsimp only at hK
  by_cases c : holB l = true
  ·by_cases hw : how = 1 ∨ how = 2
   ·rw [if_pos ⟨by omega, by omega, hw, c⟩]
    obtain ⟨hn, hb⟩ := nextW_is (holB_true.mp c) (day + days + postI how)
    have hpo : 0 ≤ postI how ∧ postI how ≤ 3 := by unfold postI; split <;> omega
    obtain ⟨K2, hK2⟩ := dl_l0 l (holB_true.mp c) (nextW l (day + days + postI how)) (by omega) (nextW l (day + days + postI how) - (day + days + postI how)).toNat (day + days + postI how) (by omega) (by have := hn.le; omega) hn
    dsimp only at hK2
    refine evUp (K + K2 + 1) fun k hk => ?_
    obtain ⟨j, rfl⟩ : ∃ j, k = j + 1 := ⟨k - 1, by omega⟩
    have hK' := hK (j + 1 + 1) (by omega)
    have hK2' := hK2 j (by omega)
    unfold calendar_Deadline.f
    rw [valid_eq, decide_eq_true h]
    simp only [Option.bind_some]
    rw [if_pos trivial, if_neg h1, if_neg h2, hK', c]
    simp only [Option.bind_some, Bool.not_true]
    rw [calendar_Deadline.j0, if_neg (by simp)]
    rcases hw with rfl | rfl
    ·rw [if_pos rfl, calendar_Deadline.j1, w64 (by omega) (by omega)]
     rw [show postI 1 = 0 by rfl, Int.add_zero] at hK2' ⊢
     exact hK2'
    ·rw [if_neg (by omega), if_pos rfl, calendar_Deadline.j1, w64 (x := day + 3) (by omega) (by omega), w64 (by omega) (by omega), show day + 3 + days = day + days + postI 2 by unfold postI; simp; omega]
     exact hK2'
   ·rw [if_neg (fun x => hw x.2.2.1)]
    refine evUp (K + 1) fun k hk => ?_
    have hK' := hK (k + 1) (by omega)
    unfold calendar_Deadline.f
    rw [valid_eq, decide_eq_true h]
    simp only [Option.bind_some]
    rw [if_pos trivial, if_neg h1, if_neg h2, hK', c]
    simp only [Option.bind_some, Bool.not_true]
    rw [calendar_Deadline.j0, if_neg (by simp), if_neg (by omega), if_neg (by omega)]
  ·rw [if_neg (fun x => c x.2.2.2)]
   refine evUp K fun k hk => ?_
   have hK' := hK (k + 1) (by omega)
   unfold calendar_Deadline.f
   rw [valid_eq, decide_eq_true h]
   simp only [Option.bind_some]
   rw [if_pos trivial, if_neg h1, if_neg h2, hK', Bool.eq_false_iff.mpr c]
   simp only [Option.bind_some, Bool.not_false]
   rw [bad]
 ·rw [if_neg h]
  refine ⟨0, fun k hk => ?_⟩
  show calendar_Deadline.f k day days how l = _
  unfold calendar_Deadline.f
  rw [valid_eq, decide_eq_false h]
  rfl
end Go.Proofs.Ytemnlgefngjliaa.Cal
