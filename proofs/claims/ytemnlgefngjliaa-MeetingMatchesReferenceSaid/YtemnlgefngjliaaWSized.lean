/- Words that the kit's print.sh printed, in a copy without what is not used. Conditions: as each theorem states. -/
import Derived.Test.YtemnlgefngjliaaMtE
import Derived.Test.YtemnlgefngjliaaPx30
import Derived.SizedLaws
import Derived.ChangeSlices
namespace Go.Proofs.Ytemnlgefngjliaa.Pure
open Go.RowKit Go.Proofs.YtemnlgefngjliaaW.PrintWords Go.Proofs.Ytemnlgefngjliaa.Given Go.Proofs.Ytemnlgefngjliaa.Px Go.Proofs.Ytemnlgefngjliaa.Meet
set_option linter.unusedVariables false
set_option linter.unusedSimpArgs false
section
variable (t0 t1 t2 t3 : Int) (t4 : Bool) (m0 m1 m2 : Int) (ag : List ByteArray) (vs : List S43) (here : List Int) (act : ByteArray) (hol : List Int) (y n p q : Int)
theorem weightsOf_len : (weightsOf t0 t1 t2 t3 t4 m0 m1 m2 ag vs here).1.length ≤ vs.length := by
  unfold weightsOf
  split
  · show (wgt (ownT t4) vs here).length ≤ vs.length
    rw [wgt_len]
    exact Nat.le_refl _
  · exact Nat.zero_le _
theorem mr_j2 (hp : -9223372036854775808 ≤ p) (hp2 : p ≤ 9223372036854775807) (hq2 : q ≤ 9223372036854775807) : Ev (fun k => LwMeetingMatchesReference.j2 k y n true p q) true := by
  obtain ⟨K, hK⟩ := rpassed_ev (y := y) (n := n) hp hp2 hq2
  dsimp only at hK
  refine evUp (K + 1) fun k hk => ?_
  obtain ⟨j, rfl⟩ : ∃ j, k = j + 1 := ⟨k - 1, by omega⟩
  rw [LwMeetingMatchesReference.j2, passed_eq, Option.bind_some, hK _ (by omega), Option.bind_some, if_pos rfl, if_pos (by simp)]
  simp
theorem mr_j1 (hf : Small ag ∧ ag.length ≤ 30 ∧ vs.length ≤ 70 ∧ here.length ≤ 70) (hc : act.size ≤ 100) (hd : hol.length ≤ 150) (h1 : -9223372036854775808 ≤ t1) (h2 : t1 ≤ 9223372036854775807) (h3 : t2 ≤ 9223372036854775807)
    (hp : -9223372036854775808 ≤ p) (hp2 : p ≤ 9223372036854775807) (hq2 : q ≤ 9223372036854775807) : Ev (fun k => LwMeetingMatchesReference.j1 k act hol y n true t0 t1 t2 t3 t4 m0 m1 m2 ag vs here p q) true := by
  obtain ⟨K, hK⟩ := mr_j2 y n p q hp hp2 hq2
  obtain ⟨K1, hK1⟩ := flaws_ev t0 t1 t2 t3 t4 m0 m1 m2 ag vs here act hol hf.1 (by omega) (by omega) (by omega) (by omega) (by omega)
  obtain ⟨K2, hK2⟩ := rflaws_ev t0 t1 t2 t3 t4 m0 m1 m2 ag vs here act hol h1 h2 h3 (by omega) (by omega) (by omega) (by omega)
  obtain ⟨K3, hK3⟩ := same_ev (flawsOf t0 t1 t2 t3 m0 m1 m2 ag vs here act hol).1 (by have := flawsOf_len t0 t1 t2 t3 m0 m1 m2 ag vs here act hol; omega)
  dsimp only at hK hK1 hK2 hK3
  refine evUp (K + K1 + K2 + K3) fun k hk => ?_
  rw [LwMeetingMatchesReference.j1, hK1 _ (by omega), Option.bind_some, hK2 _ (by omega), Option.bind_some, if_pos rfl, hK3 _ (by omega), Option.bind_some, if_pos rfl, beq_self_eq_true, hK _ (by omega)]
theorem mr_j0 (hf : Small ag ∧ ag.length ≤ 30 ∧ vs.length ≤ 70 ∧ here.length ≤ 70) (hc : act.size ≤ 100) (hd : hol.length ≤ 150) (h1 : -9223372036854775808 ≤ t1) (h2 : t1 ≤ 9223372036854775807) (h3 : t2 ≤ 9223372036854775807)
    (hp : -9223372036854775808 ≤ p) (hp2 : p ≤ 9223372036854775807) (hq2 : q ≤ 9223372036854775807) : Ev (fun k => LwMeetingMatchesReference.j0 k act hol y n true false t0 t1 t2 t3 t4 m0 m1 m2 ag vs here p q) true := by
  obtain ⟨K, hK⟩ := mr_j1 t0 t1 t2 t3 t4 m0 m1 m2 ag vs here act hol y n p q hf hc hd h1 h2 h3 hp hp2 hq2
  obtain ⟨K1, hK1⟩ := weights_ev t0 t1 t2 t3 t4 m0 m1 m2 ag vs here hf.1 (by omega) (by omega) (by omega)
  obtain ⟨K2, hK2⟩ := rweights_ev t0 t1 t2 t3 t4 m0 m1 m2 ag vs here h1 h2 h3 (by omega) (by omega) (by omega)
  obtain ⟨K3, hK3⟩ := same_ev (weightsOf t0 t1 t2 t3 t4 m0 m1 m2 ag vs here).1 (by have := weightsOf_len t0 t1 t2 t3 t4 m0 m1 m2 ag vs here; omega)
  obtain ⟨K4, hK4⟩ := Valid_ev m0 m1 m2 ag vs here hf.1 (by omega) (by omega) (by omega)
  obtain ⟨K5, hK5⟩ := rvalid_ev m0 m1 m2 ag vs here (by omega) (by omega) (by omega)
  dsimp only at hK hK1 hK2 hK3 hK4 hK5
  refine evUp (K + K1 + K2 + K3 + K4 + K5) fun k hk => ?_
  rw [LwMeetingMatchesReference.j0, if_neg (by simp), hK1 _ (by omega), Option.bind_some, hK2 _ (by omega), Option.bind_some, if_pos rfl, hK4 _ (by omega), Option.bind_some, hK5 _ (by omega), Option.bind_some, if_pos (beq_self_eq_true _), hK3 _ (by omega), Option.bind_some, if_pos rfl, beq_self_eq_true, hK _ (by omega)]
theorem MeetingMatchesReference (h1 : -9223372036854775808 ≤ t1) (h2 : t1 ≤ 9223372036854775807) (h3 : t2 ≤ 9223372036854775807) (hp : -9223372036854775808 ≤ p) (hp2 : p ≤ 9223372036854775807) (hq2 : q ≤ 9223372036854775807) :
    Ev (fun k => LwMeetingMatchesReference.f k t0 t1 t2 t3 t4 m0 m1 m2 ag vs here act hol y n p q) true := by
  obtain ⟨K1, hK1⟩ := head_ev
  obtain ⟨r, hr, K2, hK2⟩ := few_ev m0 m1 m2 ag vs here
  dsimp only at hK1 hK2
  have e : ∀ k, LwMeetingMatchesReference.j0 (k + 1) act hol y n true true t0 t1 t2 t3 t4 m0 m1 m2 ag vs here p q = some true := fun k => by rw [LwMeetingMatchesReference.j0, if_pos rfl]
  by_cases c : r = true ∧ act.size ≤ 100 ∧ hol.length ≤ 150
  · obtain ⟨K, hK⟩ := mr_j0 t0 t1 t2 t3 t4 m0 m1 m2 ag vs here act hol y n p q (hr c.1) c.2.1 c.2.2 h1 h2 h3 hp hp2 hq2
    dsimp only at hK
    refine evUp (K + K1 + K2) fun k hk => ?_
    unfold LwMeetingMatchesReference.f
    rw [hK1 _ (by omega), Option.bind_some, hK2 _ (by omega), Option.bind_some, if_pos c.1, if_neg (by omega), decide_eq_false (by omega), hK _ (by omega)]
  · refine evUp (K1 + K2) fun k hk => ?_
    unfold LwMeetingMatchesReference.f
    rw [hK1 _ (by omega), Option.bind_some, hK2 _ (by omega), Option.bind_some, e]
    by_cases c1 : r = true
    · rw [if_pos c1]
      by_cases c2 : (act.size : Int) > 100
      · rw [if_pos c2]
      · rw [if_neg c2, decide_eq_true (show (hol.length : Int) > 150 by
          rcases Nat.lt_or_ge 150 hol.length with d | d
          · omega
          · exact absurd ⟨c1, by omega, d⟩ c), e]
    · rw [if_neg c1]
end
end Go.Proofs.Ytemnlgefngjliaa.Pure
namespace Go.Proofs.YtemnlgefngjliaaW.PrintWords
open Go.ChangeShapes Go.WideShapes
end Go.Proofs.YtemnlgefngjliaaW.PrintWords
