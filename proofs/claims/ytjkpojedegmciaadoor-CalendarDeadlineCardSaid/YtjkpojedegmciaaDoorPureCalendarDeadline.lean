/- For every day, way of serving and number of days: the deadline is a working day, not before the time is over, and no day from the end of the time to before the deadline is a working day; without a deadline, no day from there to the last one is (up to 100 holidays). Conditions: none beyond the statement's own. -/
import Derived.Test.YtjkpojedegmciaaDoorCalHead
import Derived.Test.YtjkpojedegmciaaDoorCalW
import Derived.Test.YtjkpojedegmciaaDoorPx17
namespace Go.Proofs.YtjkpojedegmciaaDoor.Pure
open Go.RowKit Go.Proofs.YtjkpojedegmciaaDoorW.PrintWords Go.Proofs.YtjkpojedegmciaaDoor.Given Go.Proofs.YtjkpojedegmciaaDoor.Px Go.Proofs.YtjkpojedegmciaaDoor.Cal
set_option linter.unusedVariables false
set_option linter.unusedSimpArgs false
theorem dlaw_l0 (l : List Int) (hl : HolOK l) (till : Int) (h1 : till ≤ 36525) : ∀ (n : Nat) (d : Int), 0 ≤ d → till - d ≤ n → (∀ x, d ≤ x → x < till → Free l x) →
    Ev (fun k => cohousinglaw03_CalendarDeadline.l0 k l true till d) true := by
  have hlen := hl.1
  intro n
  induction n with
  | zero =>
    intro d h0 hd hf
    refine evUp 0 fun k _ => ?_
    rw [cohousinglaw03_CalendarDeadline.l0, if_neg (by omega)]
  | succ n ih =>
    intro d h0 hd hf
    by_cases c : d < till
    · obtain ⟨K, hK⟩ := working_ev d l (by omega)
      have hw : workingOf d l = (false, 0) := by unfold workingOf; rw [if_pos (by omega), if_pos (holB_true.mpr hl), freeB_true.mpr (hf d (by omega) c)]; rfl
      rw [hw] at hK
      obtain ⟨K2, hK2⟩ := ih (d + 1) (by omega) (by omega) (fun x a b => hf x (by omega) b)
      dsimp only at hK hK2
      refine evUp (K + K2) fun k hk => ?_
      rw [cohousinglaw03_CalendarDeadline.l0, if_pos c, hK k (by omega)]
      simp only [Option.bind_some, if_true]
      rw [if_neg (by simp), w64 (by omega) (by omega)]
      exact hK2 k (by omega)
    · refine evUp 0 fun k _ => ?_
      rw [cohousinglaw03_CalendarDeadline.l0, if_neg c]
theorem CalendarDeadline : cohousinglaw03_CalendarDeadline.Pure := by
  intro a0 a1 a2 l _ _ _ _ _ _
  obtain ⟨K0, h0⟩ := head_ev
  dsimp only at h0
  have bad : ∀ k, cohousinglaw03_CalendarDeadline.j0 (k + 1) a0 a1 a2 l true true = some true := fun k => by rw [cohousinglaw03_CalendarDeadline.j0, if_pos rfl]
  by_cases c : (l.length : Int) ≤ 150
  · obtain ⟨K1, h1⟩ := rh_ev l (by omega)
    dsimp only at h1
    by_cases hh : holB l = true
    · rw [hh] at h1
      have hH := holB_true.mp hh
      by_cases d : 0 ≤ a0 ∧ a0 ≤ 36524 ∧ 0 ≤ a1 ∧ a1 ≤ 1000 ∧ (a2 = 1 ∨ a2 = 2)
      · obtain ⟨d1, d2, d3, d4, d5⟩ := d
        have hpo : 0 ≤ postI a2 ∧ postI a2 ≤ 3 := by unfold postI; split <;> omega
        obtain ⟨hn, _⟩ := nextW_is hH (a0 + a1 + postI a2)
        have hnear := next_near hH hn
        have hle := hn.le
        obtain ⟨K2, h2⟩ := deadline_ev a0 a1 a2 l (by omega)
        have hdl : deadlineOf a0 a1 a2 l = if nextW l (a0 + a1 + postI a2) ≤ 36524 then (nextW l (a0 + a1 + postI a2), 0) else (0, 3) := by
          unfold deadlineOf
          rw [if_pos ⟨d1, d2⟩, if_pos ⟨d3, d4, d5, hh⟩]
        rw [hdl] at h2
        dsimp only at h2
        have hj1 : Ev (fun k => cohousinglaw03_CalendarDeadline.j1 k a0 a1 a2 l true (a0 + a1 + postI a2)) true := by
          by_cases e : nextW l (a0 + a1 + postI a2) ≤ 36524
          · rw [if_pos e] at h2
            obtain ⟨K3, h3⟩ := dlaw_l0 l hH (nextW l (a0 + a1 + postI a2)) (by omega) (nextW l (a0 + a1 + postI a2) - (a0 + a1 + postI a2)).toNat (a0 + a1 + postI a2) (by omega) (by omega) (fun x a b => hn.free x a b)
            obtain ⟨K4, h4⟩ := working_ev (nextW l (a0 + a1 + postI a2)) l (by omega)
            have hw : workingOf (nextW l (a0 + a1 + postI a2)) l = (true, 0) := by unfold workingOf; rw [if_pos (by omega), if_pos hh, freeB_false.mpr hn.work]; rfl
            rw [hw] at h4
            dsimp only at h3 h4
            refine evUp (K2 + K3 + K4 + 2) fun k hk => ?_
            obtain ⟨j, rfl⟩ : ∃ j, k = j + 2 := ⟨k - 2, by omega⟩
            rw [cohousinglaw03_CalendarDeadline.j1, h2 _ (by omega)]
            simp only [Option.bind_some, if_true]
            rw [if_neg (by omega), w64 (by omega) (by omega), decide_eq_false (by omega), cohousinglaw03_CalendarDeadline.j2, if_neg (by simp), if_neg (by omega), h4 _ (by omega)]
            simp only [Option.bind_some, if_true]
            rw [cohousinglaw03_CalendarDeadline.j3]
            exact h3 _ (by omega)
          · rw [if_neg e] at h2
            obtain ⟨K3, h3⟩ := dlaw_l0 l hH 36525 (by omega) 40000 (a0 + a1 + postI a2) (by omega) (by omega) (fun x a b => hn.free x a (by omega))
            dsimp only at h3
            refine evUp (K2 + K3 + 2) fun k hk => ?_
            obtain ⟨j, rfl⟩ : ∃ j, k = j + 2 := ⟨k - 2, by omega⟩
            rw [cohousinglaw03_CalendarDeadline.j1, h2 _ (by omega)]
            simp only [Option.bind_some]
            rw [if_neg (by omega)]
            simp only [if_true]
            rw [cohousinglaw03_CalendarDeadline.j2, if_neg (by simp), if_pos rfl, cohousinglaw03_CalendarDeadline.j3]
            exact h3 _ (by omega)
        obtain ⟨K5, h5⟩ := hj1
        dsimp only at h5
        have hj0 : cohousinglaw03_CalendarDeadline.j0 (K0 + K1 + K5 + 1) a0 a1 a2 l true false = some true := by
          rw [cohousinglaw03_CalendarDeadline.j0, if_neg (by simp), w64 (x := a0 + a1) (by omega) (by omega)]
          rcases d5 with rfl | rfl
          · rw [if_neg (by omega), show a0 + a1 = a0 + a1 + postI 1 by unfold postI; simp]
            exact h5 _ (by omega)
          · rw [if_pos rfl, w64 (by omega) (by omega), show a0 + a1 + 3 = a0 + a1 + postI 2 by rfl]
            exact h5 _ (by omega)
        refine ⟨K0 + K1 + K5 + 1, ?_⟩
        unfold cohousinglaw03_CalendarDeadline.f
        rw [h0 _ (by omega), few_eq, decide_eq_true c]
        simp only [Option.bind_some, if_true]
        rw [h1 _ (by omega)]
        simp only [Option.bind_some, if_true]
        rw [if_neg (by omega), if_neg (by omega), if_neg (by omega), if_neg (by omega)]
        by_cases q : a2 = 1
        · rw [if_pos q]; exact hj0
        · rw [if_neg q, show (a2 != 2) = false from bne_eq_false_iff_eq.mpr (by omega)]; exact hj0
      · refine ⟨K0 + K1 + 1, ?_⟩
        unfold cohousinglaw03_CalendarDeadline.f
        rw [h0 _ (by omega), few_eq, decide_eq_true c]
        simp only [Option.bind_some, if_true]
        rw [h1 _ (by omega)]
        simp only [Option.bind_some, if_true]
        by_cases e1 : a0 < 0
        · rw [if_pos e1, bad]
        by_cases e2 : a0 > 36524
        · rw [if_neg e1, if_pos e2, bad]
        by_cases e3 : a1 < 0
        · rw [if_neg e1, if_neg e2, if_pos e3, bad]
        by_cases e4 : a1 > 1000
        · rw [if_neg e1, if_neg e2, if_neg e3, if_pos e4, bad]
        · rw [if_neg e1, if_neg e2, if_neg e3, if_neg e4, if_neg (by omega), show (a2 != 2) = true from bne_iff_ne.mpr (by omega), bad]
    · rw [Bool.eq_false_iff.mpr hh] at h1
      refine ⟨K0 + K1 + 1, ?_⟩
      unfold cohousinglaw03_CalendarDeadline.f
      rw [h0 _ (by omega), few_eq, decide_eq_true c]
      simp only [Option.bind_some, if_true]
      rw [h1 _ (by omega)]
      simp only [Option.bind_some]
      rw [if_neg (by simp), bad]
  · refine ⟨K0 + 1, ?_⟩
    unfold cohousinglaw03_CalendarDeadline.f
    rw [h0 _ (by omega), few_eq, decide_eq_false c]
    simp only [Option.bind_some]
    rw [if_neg (by simp), bad]
end Go.Proofs.YtjkpojedegmciaaDoor.Pure
