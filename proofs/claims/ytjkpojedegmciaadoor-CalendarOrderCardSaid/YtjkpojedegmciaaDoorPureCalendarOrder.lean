/- For all days: something that is served later, or gives more days, has no earlier deadline; by post it has that of something served by hand three days later; without one of the holidays it has no later one (up to 100 holidays). Conditions: none beyond the statement's own. -/
import Derived.Test.YtjkpojedegmciaaDoorCalHead
import Derived.Test.YtjkpojedegmciaaDoorCalW
import Derived.Test.YtjkpojedegmciaaDoorPx18
namespace Go.Proofs.YtjkpojedegmciaaDoor.Pure
open Go.RowKit Go.Proofs.YtjkpojedegmciaaDoorW.PrintWords Go.Proofs.YtjkpojedegmciaaDoor.Given Go.Proofs.YtjkpojedegmciaaDoor.Px Go.Proofs.YtjkpojedegmciaaDoor.Cal
set_option linter.unusedVariables false
set_option linter.unusedSimpArgs false
theorem deadlineOf_ok {day days how : Int} {l : List Int} (h1 : 0 ≤ day) (h2 : day ≤ 36524) (h3 : 0 ≤ days) (h4 : days ≤ 1000) (h5 : how = 1 ∨ how = 2) (hh : HolOK l) :
    deadlineOf day days how l = if nextW l (day + days + postI how) ≤ 36524 then (nextW l (day + days + postI how), 0) else (0, 3) := by
  unfold deadlineOf
  rw [if_pos ⟨h1, h2⟩, if_pos ⟨h3, h4, h5, holB_true.mpr hh⟩]
theorem idx_bd (a n : Int) (hn : 0 < n) (hn1 : n ≤ 1000) : 0 ≤ Int.tmod (wrap64 (Int.tmod a n + n)) n ∧ Int.tmod (wrap64 (Int.tmod a n + n)) n < n := by
  have h1 := Int.lt_tmod_of_pos a hn
  have h2 := Int.tmod_lt_of_pos a hn
  rw [w64 (by omega) (by omega), tmod_pos (by omega)]
  exact ⟨Int.emod_nonneg _ (by omega), Int.emod_lt_of_pos _ hn⟩
theorem fits2 {a b : List Int} (h : a.length + b.length ≤ 1000000) : a.length + b.length < 17592186044416 := Nat.lt_of_le_of_lt h (by decide)
theorem order_j3 (a0 a2 a4 a5 : Int) (l : List Int) (hl : HolOK l) (h1 : 0 ≤ a0) (h2 : a0 ≤ 36524) (h3 : 0 ≤ a2) (h4 : a2 ≤ 1000) (h5 : a4 = 1 ∨ a4 = 2) :
    Ev (fun k => cohousinglaw03_CalendarOrder.j3 k a0 a2 a4 a5 l true (deadlineOf a0 a2 a4 l).1 (deadlineOf a0 a2 a4 l).2) true := by
  have hlen := hl.1
  by_cases c : (l.length : Int) = 0
  · refine evUp 0 fun k _ => ?_
    rw [cohousinglaw03_CalendarOrder.j3, if_pos c]
  · have hi := idx_bd a5 l.length (by omega) (by omega)
    generalize hq : Int.tmod (wrap64 (Int.tmod a5 (l.length : Int) + (l.length : Int))) (l.length : Int) = q at hi
    obtain ⟨n, rfl⟩ := Int.eq_ofNat_of_zero_le hi.1
    have HQ := Aside0.mk hq
    clear hq
    have hn : n < l.length := by omega
    have hok := less_ok hl hn
    obtain ⟨K, hK⟩ := deadline_ev a0 a2 a4 (l.take n ++ l.drop (n + 1)) (by have := hok.1; omega)
    rw [deadlineOf_ok h1 h2 h3 h4 h5 hok] at hK
    dsimp only at hK
    have hnx := less_next hl hn (a0 + a2 + postI a4)
    rw [deadlineOf_ok h1 h2 h3 h4 h5 hl]
    refine evUp K fun k hk => ?_
    have hK' := hK k hk
    have e1 : ((n : Int) + 1).toNat = n + 1 := by omega
    have hw : wrap64 ((n : Int) + 1) = (n : Int) + 1 := w64 (by omega) (by omega)
    have ht0 : (l.take n).length + (l.drop (n + 1)).length ≤ 1000000 := by rw [List.length_take, List.length_drop]; omega
    have ht2 : ([] : List Int).length + (l.take n).length ≤ 1000000 := by rw [List.length_nil, List.length_take]; omega
    have i1 : (0 : Int) ≤ n := by omega
    have i2 : (n : Int) ≤ l.length := by omega
    have i3 : (0 : Int) ≤ n + 1 := by omega
    have i4 : (n : Int) + 1 ≤ l.length := by omega
    rw [cohousinglaw03_CalendarOrder.j3, if_neg c, HQ.out, Option.bind_some, if_pos i1, if_pos i2, Int.toNat_natCast, if_pos (fits2 ht2), Option.bind_some, hw, if_pos i3, if_pos i4, e1, List.nil_append, if_pos (fits2 ht0), hK', Option.bind_some, if_pos rfl]
    by_cases e : nextW l (a0 + a2 + postI a4) ≤ 36524
    · have q1 : nextW (l.take n ++ l.drop (n + 1)) (a0 + a2 + postI a4) ≤ 36524 := by omega
      rw [if_pos e, if_pos q1]
      simp only [if_true]
      rw [decide_eq_true hnx]
    · rw [if_neg e]
      rfl
theorem order_j2 (a0 a2 a4 a5 : Int) (l : List Int) (hl : HolOK l) (h1 : 0 ≤ a0) (h2 : a0 ≤ 36524) (h3 : 0 ≤ a2) (h4 : a2 ≤ 1000) (h5 : a4 = 1 ∨ a4 = 2) :
    Ev (fun k => cohousinglaw03_CalendarOrder.j2 k a0 a2 a4 a5 l true (deadlineOf a0 a2 a4 l).1 (deadlineOf a0 a2 a4 l).2 false) true := by
  have hlen := hl.1
  obtain ⟨K, hK⟩ := order_j3 a0 a2 a4 a5 l hl h1 h2 h3 h4 h5
  obtain ⟨K1, hK1⟩ := deadline_ev a0 a2 2 l (by omega)
  obtain ⟨K2, hK2⟩ := deadline_ev (a0 + 3) a2 1 l (by omega)
  dsimp only at hK hK1 hK2
  refine evUp (K + K1 + K2) fun k hk => ?_
  rw [cohousinglaw03_CalendarOrder.j2, if_neg (by simp), w64 (x := a0 + 3) (by omega) (by omega)]
  by_cases c : a0 + 3 ≤ 36524
  · have e : deadlineOf a0 a2 2 l = deadlineOf (a0 + 3) a2 1 l := by
      rw [deadlineOf_ok h1 h2 h3 h4 (.inr rfl) hl, deadlineOf_ok (by omega) c h3 h4 (.inl rfl) hl, show a0 + 3 + a2 + postI 1 = a0 + a2 + postI 2 by unfold postI; simp; omega]
    rw [if_pos c, hK1 k (by omega), hK2 k (by omega), e]
    simp only [Option.bind_some, if_true, beq_self_eq_true]
    exact hK k (by omega)
  · rw [if_neg c]
    exact hK k (by omega)
theorem order_j0 (a0 a1 a2 a3 a4 a5 : Int) (l : List Int) (hl : HolOK l) (h1 : 0 ≤ a0) (h2 : a0 ≤ a1) (h2' : a1 ≤ 36524) (h3 : 0 ≤ a2) (h4 : a2 ≤ a3) (h4' : a3 ≤ 1000) :
    Ev (fun k => cohousinglaw03_CalendarOrder.j0 k a0 a1 a2 a3 a4 a5 l true false) true := by
  have hlen := hl.1
  obtain ⟨K1, hK1⟩ := deadline_ev a0 a2 a4 l (by omega)
  dsimp only at hK1
  by_cases h5 : a4 = 1 ∨ a4 = 2
  · obtain ⟨K2, hK2⟩ := deadline_ev a1 a3 a4 l (by omega)
    obtain ⟨K3, hK3⟩ := order_j2 a0 a2 a4 a5 l hl h1 (by omega) h3 (by omega) h5
    dsimp only at hK2 hK3
    have hj1 : ∀ k, K1 + K2 + K3 ≤ k → cohousinglaw03_CalendarOrder.j1 (k + 1) a0 a1 a2 a3 a4 a5 l true (deadlineOf a0 a2 a4 l).1 (deadlineOf a0 a2 a4 l).2 false = some true := by
      intro k hk
      have h3' := hK3 k (by omega)
      have hmono := nextW_mono hl (d := a0 + a2 + postI a4) (d' := a1 + a3 + postI a4) (by omega)
      rw [deadlineOf_ok h1 (by omega) h3 (by omega) h5 hl] at h3' ⊢
      rw [cohousinglaw03_CalendarOrder.j1, if_neg (by simp), hK2 k (by omega), deadlineOf_ok (by omega) h2' (by omega) h4' h5 hl]
      simp only [Option.bind_some]
      by_cases e : nextW l (a1 + a3 + postI a4) ≤ 36524
      · rw [if_pos e]
        rw [if_pos (show nextW l (a0 + a2 + postI a4) ≤ 36524 by omega)] at h3' ⊢
        simp only [if_true]
        rw [decide_eq_false (by omega)]
        exact h3'
      · rw [if_neg e]
        simp only []
        rw [if_neg (by omega)]
        exact h3'
    refine evUp (K1 + K2 + K3 + 1) fun k hk => ?_
    obtain ⟨j, rfl⟩ : ∃ j, k = j + 1 := ⟨k - 1, by omega⟩
    rw [cohousinglaw03_CalendarOrder.j0, if_neg (by simp), hK1 _ (by omega)]
    simp only [Option.bind_some]
    by_cases q : a4 = 1
    · rw [if_pos q]; exact hj1 j (by omega)
    · rw [if_neg q, show (a4 != 2) = false from bne_eq_false_iff_eq.mpr (by omega)]; exact hj1 j (by omega)
  · have e : deadlineOf a0 a2 a4 l = (0, 1) := by
      unfold deadlineOf
      rw [if_pos (by omega), if_neg (fun h => h5 h.2.2.1)]
    rw [e] at hK1
    refine evUp (K1 + 1) fun k hk => ?_
    obtain ⟨j, rfl⟩ : ∃ j, k = j + 1 := ⟨k - 1, by omega⟩
    rw [cohousinglaw03_CalendarOrder.j0, if_neg (by simp), hK1 _ (by omega)]
    simp only [Option.bind_some]
    rw [if_neg (by omega), show (a4 != 2) = true from bne_iff_ne.mpr (by omega), cohousinglaw03_CalendarOrder.j1, if_pos rfl, if_pos rfl]
    rfl
theorem CalendarOrder : cohousinglaw03_CalendarOrder.Pure := by
  intro a0 a1 a2 a3 a4 a5 l _ _ _ _ _ _ _ _ _
  obtain ⟨K0, h0⟩ := head_ev
  dsimp only at h0
  have bad : ∀ k, cohousinglaw03_CalendarOrder.j0 (k + 1) a0 a1 a2 a3 a4 a5 l true true = some true := fun k => by rw [cohousinglaw03_CalendarOrder.j0, if_pos rfl]
  by_cases c : (l.length : Int) ≤ 150
  · obtain ⟨K1, h1⟩ := rh_ev l (by omega)
    dsimp only at h1
    by_cases hh : holB l = true
    · rw [hh] at h1
      by_cases d : 0 ≤ a0 ∧ a0 ≤ a1 ∧ a1 ≤ 36524 ∧ 0 ≤ a2 ∧ a2 ≤ a3 ∧ a3 ≤ 1000
      · obtain ⟨d1, d2, d3, d4, d5, d6⟩ := d
        obtain ⟨K2, h2⟩ := order_j0 a0 a1 a2 a3 a4 a5 l (holB_true.mp hh) d1 d2 d3 d4 d5 d6
        dsimp only at h2
        refine ⟨K0 + K1 + K2, ?_⟩
        unfold cohousinglaw03_CalendarOrder.f
        rw [h0 _ (by omega), few_eq, decide_eq_true c]
        simp only [Option.bind_some, if_true]
        rw [h1 _ (by omega)]
        simp only [Option.bind_some, if_true]
        rw [if_neg (by omega), if_neg (by omega), if_neg (by omega), if_neg (by omega), if_neg (by omega), decide_eq_false (by omega)]
        exact h2 _ (by omega)
      · refine ⟨K0 + K1 + 1, ?_⟩
        unfold cohousinglaw03_CalendarOrder.f
        rw [h0 _ (by omega), few_eq, decide_eq_true c]
        simp only [Option.bind_some, if_true]
        rw [h1 _ (by omega)]
        simp only [Option.bind_some, if_true]
        by_cases e1 : a0 < 0
        · rw [if_pos e1, bad]
        by_cases e2 : a1 < a0
        · rw [if_neg e1, if_pos e2, bad]
        by_cases e3 : a1 > 36524
        · rw [if_neg e1, if_neg e2, if_pos e3, bad]
        by_cases e4 : a2 < 0
        · rw [if_neg e1, if_neg e2, if_neg e3, if_pos e4, bad]
        by_cases e5 : a3 < a2
        · rw [if_neg e1, if_neg e2, if_neg e3, if_neg e4, if_pos e5, bad]
        · rw [if_neg e1, if_neg e2, if_neg e3, if_neg e4, if_neg e5, decide_eq_true (by omega), bad]
    · rw [Bool.eq_false_iff.mpr hh] at h1
      refine ⟨K0 + K1 + 1, ?_⟩
      unfold cohousinglaw03_CalendarOrder.f
      rw [h0 _ (by omega), few_eq, decide_eq_true c]
      simp only [Option.bind_some, if_true]
      rw [h1 _ (by omega)]
      simp only [Option.bind_some]
      rw [if_neg (by simp), bad]
  · refine ⟨K0 + 1, ?_⟩
    unfold cohousinglaw03_CalendarOrder.f
    rw [h0 _ (by omega), few_eq, decide_eq_false c]
    simp only [Option.bind_some]
    rw [if_neg (by simp), bad]
end Go.Proofs.YtjkpojedegmciaaDoor.Pure
