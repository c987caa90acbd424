/- For all terms, meetings and two acts: the second flaw is there exactly if the act is not on the agenda; all others are there for both acts or for none. Conditions: the numbers are those of their types. -/
import Derived.Test.YtemnlgefngjliaaMtF
import Derived.Test.YtemnlgefngjliaaPx35
namespace Go.Proofs.Ytemnlgefngjliaa.Pure
open Go.RowKit Go.Proofs.YtemnlgefngjliaaW.PrintWords Go.Proofs.Ytemnlgefngjliaa.Given Go.Proofs.Ytemnlgefngjliaa.Px Go.Proofs.Ytemnlgefngjliaa.Meet
set_option linter.unusedVariables false
set_option linter.unusedSimpArgs false
section
variable (t0 t1 t2 t3 : Int) (t4 : Bool) (m0 m1 m2 : Int) (ag : List ByteArray) (vs : List S43) (here : List Int) (one two : ByteArray)
noncomputable def L (act : ByteArray) : List Int := flawL (lateB t0 m0 m1 m2 []) 1 ++ flawL (!hasB ag act) 2 ++ flawL (fewB t1 t2 vs here) 3 ++ flawL (crowdB t3 (wgt (fun _ => 1) vs here)) 4
theorem mem_L (act : ByteArray) (x : Int) : x ∈ L t0 t1 t2 t3 m0 m1 m2 ag vs here act ↔ (lateB t0 m0 m1 m2 [] = true ∧ x = 1) ∨ ((!hasB ag act) = true ∧ x = 2) ∨ (fewB t1 t2 vs here = true ∧ x = 3) ∨ (crowdB t3 (wgt (fun _ => 1) vs here) = true ∧ x = 4) := by
  unfold L
  rw [List.mem_append, List.mem_append, List.mem_append, mem_flawL, mem_flawL, mem_flawL, mem_flawL, or_assoc, or_assoc]
theorem flaw_at (act : ByteArray) (hf : Small ag ∧ ag.length ≤ 30 ∧ vs.length ≤ 70 ∧ here.length ≤ 70) (ht : termsB t0 t1 t2 t3 = true) (hv : validM m0 m1 m2 ag vs here = true) (hn : nameB act = true) (x : Int) :
    Ev (fun k => Lwflaw.f k t0 t1 t2 t3 t4 m0 m1 m2 ag vs here act [] x) (decide (x ∈ L t0 t1 t2 t3 m0 m1 m2 ag vs here act), true) := by
  have h := flaw_ev t0 t1 t2 t3 t4 m0 m1 m2 ag vs here act [] hf.1 (by omega) (by omega) (by omega) (by simp) (by have := nameB_size hn; omega) x
  have e : flawsOf t0 t1 t2 t3 m0 m1 m2 ag vs here act [] = (L t0 t1 t2 t3 m0 m1 m2 ag vs here act, 0) := by
    unfold flawsOf
    rw [if_pos ⟨working_nil, ht, hv, hn⟩]
    rfl
  rw [e] at h
  exact h
theorem ag_l1 (up : Bool) (hf : Small ag ∧ ag.length ≤ 30 ∧ vs.length ≤ 70 ∧ here.length ≤ 70) (ht : termsB t0 t1 t2 t3 = true) (hv : validM m0 m1 m2 ag vs here = true) (h1 : nameB one = true) (h2 : nameB two = true) : ∀ (n : Nat) (i : Int), 0 ≤ i → i + n = 3 →
    Ev (fun k => LwMeetingAgenda.l1 k one two up [1, 3, 4] 3 i t0 t1 t2 t3 t4 m0 m1 m2 ag vs here) up := by
  intro n
  induction n with
  | zero =>
    intro i h0 hi
    refine evUp 0 fun k _ => ?_
    rw [LwMeetingAgenda.l1, if_neg (by omega)]
  | succ n ih =>
    intro i h0 hi
    obtain ⟨K, hK⟩ := ih (i + 1) (by omega) (by omega)
    obtain ⟨K1, hK1⟩ := flaw_at t0 t1 t2 t3 t4 m0 m1 m2 ag vs here one hf ht hv h1 (rd [1, 3, 4] i)
    obtain ⟨K2, hK2⟩ := flaw_at t0 t1 t2 t3 t4 m0 m1 m2 ag vs here two hf ht hv h2 (rd [1, 3, 4] i)
    dsimp only at hK hK1 hK2
    have hr : rd [1, 3, 4] i ≠ 2 := by
      have : i = 0 ∨ i = 1 ∨ i = 2 := by omega
      rcases this with rfl | rfl | rfl <;> decide
    have e : decide (rd [1, 3, 4] i ∈ L t0 t1 t2 t3 m0 m1 m2 ag vs here one) = decide (rd [1, 3, 4] i ∈ L t0 t1 t2 t3 m0 m1 m2 ag vs here two) := by
      rw [decide_eq_decide, mem_L, mem_L]
      simp only [hr, and_false, false_or]
    refine evUp (K + K1 + K2 + 1) fun k hk => ?_
    obtain ⟨j, rfl⟩ : ∃ j, k = j + 1 := ⟨k - 1, by omega⟩
    rw [LwMeetingAgenda.l1, if_pos (by omega), if_pos h0, if_pos (by simp only [List.length_cons, List.length_nil]; omega), hK1 (j + 1) (by omega), Option.bind_some, hK2 (j + 1) (by omega), Option.bind_some, e, if_neg (by simp), if_pos rfl]
    rw [LwMeetingAgenda.j3, if_neg (by simp), w64 (by omega) (by omega)]
    exact hK j (by omega)
theorem ag_l0 (up : Bool) (hf : Small ag ∧ ag.length ≤ 30 ∧ vs.length ≤ 70 ∧ here.length ≤ 70) (ht : termsB t0 t1 t2 t3 = true) (hv : validM m0 m1 m2 ag vs here = true) (h1 : nameB one = true) (h2 : nameB two = true) : ∀ (n : Nat) (i : Int), 0 ≤ i → i + n = 2 →
    Ev (fun k => LwMeetingAgenda.l0 k one two up [one, two] 2 i t0 t1 t2 t3 t4 m0 m1 m2 ag vs here) up := by
  intro n
  induction n with
  | zero =>
    intro i h0 hi
    obtain ⟨K, hK⟩ := ag_l1 t0 t1 t2 t3 t4 m0 m1 m2 ag vs here one two up hf ht hv h1 h2 3 0 (by omega) (by omega)
    dsimp only at hK
    refine evUp K fun k hk => ?_
    rw [LwMeetingAgenda.l0, if_neg (by omega), Option.bind_some]
    exact hK k hk
  | succ n ih =>
    intro i h0 hi
    obtain ⟨K, hK⟩ := ih (i + 1) (by omega) (by omega)
    have hn : nameB (rdOf ByteArray.empty [one, two] i) = true := by
      have : i = 0 ∨ i = 1 := by omega
      rcases this with rfl | rfl
      · exact h1
      · exact h2
    obtain ⟨K1, hK1⟩ := flaw_at t0 t1 t2 t3 t4 m0 m1 m2 ag vs here (rdOf ByteArray.empty [one, two] i) hf ht hv hn 2
    obtain ⟨K2, hK2⟩ := has_ev ag (rdOf ByteArray.empty [one, two] i) (by omega)
    dsimp only at hK hK1 hK2
    have e : decide (2 ∈ L t0 t1 t2 t3 m0 m1 m2 ag vs here (rdOf ByteArray.empty [one, two] i)) = !hasB ag (rdOf ByteArray.empty [one, two] i) := by
      rw [Bool.eq_iff_iff, decide_eq_true_eq, mem_L]
      simp
    refine evUp (K + K1 + K2) fun k hk => ?_
    rw [LwMeetingAgenda.l0, if_pos (by omega), if_pos h0, if_pos (by simp only [List.length_cons, List.length_nil]; omega), hK1 k (by omega), Option.bind_some, if_pos rfl, hK2 k (by omega), Option.bind_some, e, if_neg (by simp), w64 (by omega) (by omega)]
    exact hK k (by omega)
theorem j0_true (k : Nat) : LwMeetingAgenda.j0 (k + 1) one two true true t0 t1 t2 t3 t4 m0 m1 m2 ag vs here = some true := by
  rw [LwMeetingAgenda.j0, if_pos rfl]
theorem MeetingAgenda (hp : -9223372036854775808 ≤ t1) (hp2 : t1 ≤ 9223372036854775807) (hq2 : t2 ≤ 9223372036854775807) :
    Ev (fun k => LwMeetingAgenda.f k t0 t1 t2 t3 t4 m0 m1 m2 ag vs here one two) true := by
  obtain ⟨K1, hK1⟩ := head_ev
  obtain ⟨r, hr, K2, hK2⟩ := usable_ev t0 t1 t2 t3 t4 m0 m1 m2 ag vs here hp hp2 hq2
  obtain ⟨K3, hK3⟩ := name_ev one
  obtain ⟨K4, hK4⟩ := name_ev two
  dsimp only at hK1 hK2 hK3 hK4
  by_cases c : r = true ∧ nameB one = true ∧ nameB two = true
  · obtain ⟨hf, ht, hv⟩ := hr c.1
    obtain ⟨K, hK⟩ := ag_l0 t0 t1 t2 t3 t4 m0 m1 m2 ag vs here one two true hf ht hv c.2.1 c.2.2 2 0 (by omega) (by omega)
    dsimp only at hK
    refine evUp (K1 + K2 + K3 + K4 + K) fun k hk => ?_
    unfold LwMeetingAgenda.f
    rw [hK1 (k + 1) (by omega), Option.bind_some, hK2 (k + 1) (by omega), Option.bind_some, if_pos c.1, hK3 (k + 1) (by omega), Option.bind_some, if_pos c.2.1, hK4 (k + 1) (by omega), Option.bind_some, c.2.2, LwMeetingAgenda.j0, if_neg (by simp), Option.bind_some]
    exact hK k (by omega)
  · refine evUp (K1 + K2 + K3 + K4) fun k hk => ?_
    unfold LwMeetingAgenda.f
    rw [hK1 (k + 1) (by omega), Option.bind_some, hK2 (k + 1) (by omega), Option.bind_some, hK3 (k + 1) (by omega), Option.bind_some, hK4 (k + 1) (by omega), Option.bind_some, j0_true]
    by_cases c1 : r = true
    · rw [if_pos c1]
      by_cases c2 : nameB one = true
      · rw [if_pos c2, Bool.eq_false_iff.mpr (fun c3 => c ⟨c1, c2, c3⟩)]
        exact j0_true t0 t1 t2 t3 t4 m0 m1 m2 ag vs here one two k
      · rw [if_neg c2]
    · rw [if_neg c1]
end
end Go.Proofs.Ytemnlgefngjliaa.Pure
