/- For every seven days in succession and all holidays: five less the number of holidays from Monday to Friday among them are working days; holidays are none (up to 100 holidays). Conditions: none beyond the statement's own. -/
import Derived.Test.YtjkpojedegmciaaDoorCalHead
import Derived.Test.YtjkpojedegmciaaDoorCalW
import Derived.Test.YtjkpojedegmciaaDoorPx16
namespace Go.Proofs.YtjkpojedegmciaaDoor.Pure
open Go.RowKit Go.Proofs.YtjkpojedegmciaaDoorW.PrintWords Go.Proofs.YtjkpojedegmciaaDoor.Given Go.Proofs.YtjkpojedegmciaaDoor.Px Go.Proofs.YtjkpojedegmciaaDoor.Cal
set_option linter.unusedVariables false
set_option linter.unusedSimpArgs false
/-- No holiday from index i on is the day: the inner loop changes nothing. -/
theorem wl1_none (a0 : Int) (l : List Int) (hl : l.length ≤ 1000) (x6 x7 x8 w : Int) (b : Bool) (h8 : 0 ≤ x8) (h81 : x8 ≤ 100000) (r : Bool)
    (hr : Ev (fun k => cohousinglaw03_CalendarWorking.l0 k a0 l true x6 x7 (x8 + 1)) r) :
    ∀ (n : Nat) (i : Int), 0 ≤ i → i + n = l.length → (∀ j, i ≤ j → j < l.length → rd l j ≠ x8) →
    Ev (fun k => cohousinglaw03_CalendarWorking.l1 k a0 l true x6 x7 x8 b w l (l.length : Int) i) r := by
  obtain ⟨K, hK⟩ := hr
  dsimp only at hK
  intro n
  induction n with
  | zero =>
    intro i h0 hi hn
    refine evUp K fun k hk => ?_
    rw [cohousinglaw03_CalendarWorking.l1, if_neg (by omega), w64 (by omega) (by omega)]
    exact hK k hk
  | succ n ih =>
    intro i h0 hi hn
    obtain ⟨K2, hK2⟩ := ih (i + 1) (by omega) (by omega) (fun j a b => hn j (by omega) b)
    dsimp only at hK2
    refine evUp (K2 + 1) fun k hk => ?_
    obtain ⟨j, rfl⟩ : ∃ j, k = j + 1 := ⟨k - 1, by omega⟩
    have hne := hn i (by omega) (by omega)
    rw [cohousinglaw03_CalendarWorking.l1, if_pos (by omega), if_pos h0, if_pos (by omega), if_neg hne, cohousinglaw03_CalendarWorking.j5, if_neg (by simp), if_neg hne, w64 (by omega) (by omega)]
    exact hK2 _ (by omega)
/-- One holiday, at index p, is the day. -/
theorem wl1_one (a0 : Int) (l : List Int) (hl : l.length ≤ 1000) (x6 x7 x8 w : Int) (h8 : 0 ≤ x8) (h81 : x8 ≤ 100000) (h7 : 0 ≤ x7) (h71 : x7 ≤ 100000) (r : Bool) (hp : PrefOK l l.length) (p : Int) (p0 : 0 ≤ p) (p1 : p < l.length) (pe : rd l p = x8)
    (hr : Ev (fun k => cohousinglaw03_CalendarWorking.l0 k a0 l true x6 (x7 + if w < 5 then 1 else 0) (x8 + 1)) r) :
    ∀ (n : Nat) (i : Int), 0 ≤ i → i + n = p →
    Ev (fun k => cohousinglaw03_CalendarWorking.l1 k a0 l true x6 x7 x8 false w l (l.length : Int) i) r := by
  intro n
  induction n with
  | zero =>
    intro i h0 hi
    obtain rfl : i = p := by omega
    obtain ⟨K, hK⟩ := wl1_none a0 l hl x6 (x7 + if w < 5 then 1 else 0) x8 w false h8 h81 r hr (l.length - (i + 1)).toNat (i + 1) (by omega) (by omega) (fun j a b => by
      have := hp.lt h0 (show i < j by omega) b
      omega)
    dsimp only at hK
    refine evUp (K + 1) fun k hk => ?_
    obtain ⟨j, rfl⟩ : ∃ j, k = j + 1 := ⟨k - 1, by omega⟩
    have hK' := hK j (by omega)
    rw [cohousinglaw03_CalendarWorking.l1, if_pos (by omega), if_pos h0, if_pos (by omega), if_pos pe, cohousinglaw03_CalendarWorking.j5, if_neg (by simp), if_pos pe, w64 (x := i + 1) (by omega) (by omega), w64 (x := x7 + 1) (by omega) (by omega)]
    by_cases c : w < 5
    · rw [if_pos c] at hK' ⊢; exact hK'
    · rw [if_neg c] at hK' ⊢; rw [Int.add_zero] at hK'; exact hK'
  | succ n ih =>
    intro i h0 hi
    obtain ⟨K2, hK2⟩ := ih (i + 1) (by omega) (by omega)
    dsimp only at hK2
    refine evUp (K2 + 1) fun k hk => ?_
    obtain ⟨j, rfl⟩ : ∃ j, k = j + 1 := ⟨k - 1, by omega⟩
    have hne : rd l i ≠ x8 := by have := hp.lt h0 (show i < p by omega) p1; omega
    rw [cohousinglaw03_CalendarWorking.l1, if_pos (by omega), if_pos h0, if_pos (by omega), if_neg hne, cohousinglaw03_CalendarWorking.j5, if_neg (by simp), if_neg hne, w64 (by omega) (by omega)]
    exact hK2 _ (by omega)
theorem wl0 (a0 : Int) (l : List Int) (hl : HolOK l) (h0 : 0 ≤ a0) (h1 : a0 ≤ 36518) : ∀ (n t : Nat) (x6 x7 : Int), t + n = 7 → 0 ≤ x6 → 0 ≤ x7 → x6 ≤ t → x7 ≤ t → x6 + x7 = wsum a0 t →
    Ev (fun k => cohousinglaw03_CalendarWorking.l0 k a0 l true x6 x7 (a0 + t)) true := by
  have hlen := hl.1
  intro n
  induction n with
  | zero =>
    intro t x6 x7 ht _ _ _ _ hs
    obtain rfl : t = 7 := by omega
    refine evUp 0 fun k _ => ?_
    have h5 := wsum_weeks a0 1
    rw [show 7 * 1 = 7 by rfl] at h5
    rw [cohousinglaw03_CalendarWorking.l0, w64 (x := a0 + 7) (by omega) (by omega), if_neg (by omega), if_pos rfl, w64 (by omega) (by omega)]
    rw [show (x6 + x7 == 5) = true from beq_iff_eq.mpr (by omega)]
  | succ n ih =>
    intro t x6 x7 ht b6 b7 c6 c7 hs
    have hw := wk_01 (a0 + t)
    have e1 : a0 + ((t + 1 : Nat) : Int) = a0 + t + 1 := by omega
    obtain ⟨K, hK⟩ := working_ev (a0 + t) l (by omega)
    dsimp only at hK
    have hwork : workingOf (a0 + t) l = (!freeB l (a0 + t), 0) := by unfold workingOf; rw [if_pos (by omega), if_pos (holB_true.mpr hl)]
    have hday : weekdayOf (a0 + t) = ((a0 + t + 5) % 7, 0) := by unfold weekdayOf; rw [if_pos (by omega)]
    have go : ∀ (y6 y7 : Int), 0 ≤ y6 → 0 ≤ y7 → y6 ≤ t + 1 → y7 ≤ t + 1 → y6 + y7 = wsum a0 t + wk (a0 + t) → Ev (fun k => cohousinglaw03_CalendarWorking.l0 k a0 l true y6 y7 (a0 + t + 1)) true := by
      intro y6 y7 d1 d2 d3 d4 d5
      have := ih (t + 1) y6 y7 (by omega) d1 d2 (by omega) (by omega) d5
      rw [e1] at this
      exact this
    by_cases hm : a0 + t ∈ l
    · obtain ⟨p, p0, p1, pe⟩ := mem_rd hm
      have hfb : freeB l (a0 + t) = true := freeB_true.mpr (.inl hm)
      have hwe : wk (a0 + t) = if (a0 + t + 5) % 7 < 5 then 1 else 0 := rfl
      obtain ⟨K2, hK2⟩ := wl1_one a0 l (by omega) x6 x7 (a0 + t) ((a0 + t + 5) % 7) (by omega) (by omega) b7 (by omega) true hl.2 p p0 p1 pe (go x6 (x7 + if (a0 + t + 5) % 7 < 5 then 1 else 0) b6 (by omega) (by omega) (by omega) (by omega)) p.toNat 0 (by omega) (by omega)
      dsimp only at hK2
      refine evUp (K + K2 + 2) fun k hk => ?_
      obtain ⟨j, rfl⟩ : ∃ j, k = j + 2 := ⟨k - 2, by omega⟩
      rw [cohousinglaw03_CalendarWorking.l0, w64 (x := a0 + 7) (by omega) (by omega), if_pos (by omega), hK _ (by omega), hwork, Weekday_eq, hday, hfb]
      simp only [Option.bind_some, if_true, Bool.not_true, bne_self_eq_false]
      rw [cohousinglaw03_CalendarWorking.j2, if_neg (by simp), if_neg (by simp), cohousinglaw03_CalendarWorking.j3]
      exact hK2 _ (by omega)
    · by_cases c : (a0 + t + 5) % 7 < 5
      · have hfb : freeB l (a0 + t) = false := freeB_false.mpr (fun h => h.elim hm (by omega))
        have hwe : wk (a0 + t) = 1 := by unfold wk; rw [if_pos c]
        obtain ⟨K2, hK2⟩ := wl1_none a0 l (by omega) (x6 + 1) x7 (a0 + t) ((a0 + t + 5) % 7) true (by omega) (by omega) true (go (x6 + 1) x7 (by omega) b7 (by omega) (by omega) (by omega)) l.length 0 (by omega) (by omega) (fun j a b e => hm (e ▸ rd_mem a b))
        dsimp only at hK2
        refine evUp (K + K2 + 2) fun k hk => ?_
        obtain ⟨j, rfl⟩ : ∃ j, k = j + 2 := ⟨k - 2, by omega⟩
        rw [cohousinglaw03_CalendarWorking.l0, w64 (x := a0 + 7) (by omega) (by omega), if_pos (by omega), hK _ (by omega), hwork, Weekday_eq, hday, hfb]
        simp only [Option.bind_some, if_true, Bool.not_false, bne_self_eq_false]
        rw [cohousinglaw03_CalendarWorking.j2, if_neg (by simp), if_pos rfl, cohousinglaw03_CalendarWorking.j3, w64 (x := x6 + 1) (by omega) (by omega)]
        exact hK2 _ (by omega)
      · have hfb : freeB l (a0 + t) = true := freeB_true.mpr (.inr (by omega))
        have hwe : wk (a0 + t) = 0 := by unfold wk; rw [if_neg c]
        obtain ⟨K2, hK2⟩ := wl1_none a0 l (by omega) x6 x7 (a0 + t) ((a0 + t + 5) % 7) false (by omega) (by omega) true (go x6 x7 b6 b7 (by omega) (by omega) (by omega)) l.length 0 (by omega) (by omega) (fun j a b e => hm (e ▸ rd_mem a b))
        dsimp only at hK2
        refine evUp (K + K2 + 2) fun k hk => ?_
        obtain ⟨j, rfl⟩ : ∃ j, k = j + 2 := ⟨k - 2, by omega⟩
        rw [cohousinglaw03_CalendarWorking.l0, w64 (x := a0 + 7) (by omega) (by omega), if_pos (by omega), hK _ (by omega), hwork, Weekday_eq, hday, hfb]
        simp only [Option.bind_some, if_true, Bool.not_true, bne_self_eq_false]
        rw [cohousinglaw03_CalendarWorking.j2, if_neg (by simp), if_neg (by simp), cohousinglaw03_CalendarWorking.j3]
        exact hK2 _ (by omega)
theorem CalendarWorking : cohousinglaw03_CalendarWorking.Pure := by
  intro a0 l _ _ _ _
  obtain ⟨K0, h0⟩ := head_ev
  dsimp only at h0
  have bad : ∀ k, cohousinglaw03_CalendarWorking.j0 (k + 1) a0 l true true = some true := fun k => by rw [cohousinglaw03_CalendarWorking.j0, if_pos rfl]
  by_cases c : (l.length : Int) ≤ 150
  · obtain ⟨K1, h1⟩ := rh_ev l (by omega)
    dsimp only at h1
    by_cases hh : holB l = true
    · rw [hh] at h1
      by_cases d : 0 ≤ a0 ∧ a0 ≤ 36518
      · obtain ⟨K2, h2⟩ := wl0 a0 l (holB_true.mp hh) d.1 d.2 7 0 0 0 (by omega) (by omega) (by omega) (by omega) (by omega) rfl
        dsimp only at h2
        rw [show a0 + ((0 : Nat) : Int) = a0 by omega] at h2
        refine ⟨K0 + K1 + K2 + 1, ?_⟩
        unfold cohousinglaw03_CalendarWorking.f
        rw [h0 _ (by omega), few_eq, decide_eq_true c]
        simp only [Option.bind_some, if_true]
        rw [h1 _ (by omega)]
        simp only [Option.bind_some, if_true]
        rw [if_neg (by omega), decide_eq_false (by omega), cohousinglaw03_CalendarWorking.j0, if_neg (by simp)]
        exact h2 _ (by omega)
      · refine ⟨K0 + K1 + 1, ?_⟩
        unfold cohousinglaw03_CalendarWorking.f
        rw [h0 _ (by omega), few_eq, decide_eq_true c]
        simp only [Option.bind_some, if_true]
        rw [h1 _ (by omega)]
        simp only [Option.bind_some, if_true]
        by_cases e : a0 < 0
        · rw [if_pos e, bad]
        · rw [if_neg e, decide_eq_true (by omega), bad]
    · rw [Bool.eq_false_iff.mpr hh] at h1
      refine ⟨K0 + K1 + 1, ?_⟩
      unfold cohousinglaw03_CalendarWorking.f
      rw [h0 _ (by omega), few_eq, decide_eq_true c]
      simp only [Option.bind_some, if_true]
      rw [h1 _ (by omega)]
      simp only [Option.bind_some]
      rw [if_neg (by simp), bad]
  · refine ⟨K0 + 1, ?_⟩
    unfold cohousinglaw03_CalendarWorking.f
    rw [h0 _ (by omega), few_eq, decide_eq_false c]
    simp only [Option.bind_some]
    rw [if_neg (by simp), bad]
end Go.Proofs.YtjkpojedegmciaaDoor.Pure
