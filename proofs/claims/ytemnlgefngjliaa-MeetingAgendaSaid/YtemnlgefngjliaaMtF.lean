/- What the laws' own small functions about meetings say: usable, flaw. Conditions: as each theorem states. -/
import Derived.Test.YtemnlgefngjliaaMtD
import Derived.Test.YtemnlgefngjliaaPx34
import Derived.Test.YtemnlgefngjliaaPx31
namespace Go.Proofs.Ytemnlgefngjliaa.Meet
open Go.RowKit Go.Proofs.YtemnlgefngjliaaW.PrintWords Go.Proofs.Ytemnlgefngjliaa.Given Go.Proofs.Ytemnlgefngjliaa.Px
open Go.Proofs.Ytemnlgefngjliaa.Cal
set_option linter.unusedVariables false
set_option linter.unusedSimpArgs false
theorem drop_cons_int (l : List Int) (i : Int) (h0 : 0 ≤ i) (h1 : i < l.length) : l.drop i.toNat = rd l i :: l.drop (i + 1).toNat := drop_cons 0 l i h0 h1
theorem flaw_l0 (l : List Int) (hl : l.length ≤ 1000000) (x e : Int) : ∀ (n : Nat) (i : Int), 0 ≤ i → i + n = l.length →
    Ev (fun k => Lwflaw.l0 k x e l (l.length : Int) i) (decide (x ∈ l.drop i.toNat), (e == 0)) := by
  intro n
  induction n with
  | zero =>
    intro i h0 hi
    refine evUp 0 fun k _ => ?_
    rw [Lwflaw.l0, if_neg (by omega), List.drop_eq_nil_of_le (by omega)]
    simp
  | succ n ih =>
    intro i h0 hi
    obtain ⟨K, hK⟩ := ih (i + 1) (by omega) (by omega)
    dsimp only at hK
    refine evUp K fun k hk => ?_
    rw [Lwflaw.l0, if_pos (by omega), if_pos h0, if_pos (by omega), drop_cons_int l i h0 (by omega)]
    by_cases c : rd l i = x
    · rw [if_pos c, decide_eq_true (by rw [c]; exact List.mem_cons_self)]
    · rw [if_neg c, w64 (by omega) (by omega), hK k hk]
      congr 2
      rw [decide_eq_decide, List.mem_cons]
      constructor
      · exact .inr
      · rintro (h | h)
        · exact absurd h.symm c
        · exact h
theorem flawL_len (b : Bool) (n : Int) : (flawL b n).length ≤ 1 := by
  unfold flawL
  split <;> simp
section
variable (t0 t1 t2 t3 : Int) (t4 : Bool) (m0 m1 m2 : Int) (ag : List ByteArray) (vs : List S43) (here : List Int) (act : ByteArray) (hol : List Int)
theorem flawsOf_len : (flawsOf t0 t1 t2 t3 m0 m1 m2 ag vs here act hol).1.length ≤ 4 := by
  unfold flawsOf
  split
  · simp only [List.length_append]
    have h1 := flawL_len (lateB t0 m0 m1 m2 hol) 1
    have h2 := flawL_len (!hasB ag act) 2
    have h3 := flawL_len (fewB t1 t2 vs here) 3
    have h4 := flawL_len (crowdB t3 (wgt (fun _ => 1) vs here)) 4
    omega
  · simp
theorem flaw_ev (hs : Small ag) (ha : ag.length ≤ 1000000) (hl : vs.length ≤ 1000000) (hh : here.length ≤ 1000000) (hd : hol.length ≤ 1000000) (hc : act.size ≤ 1000000) (x : Int) :
    Ev (fun k => Lwflaw.f k t0 t1 t2 t3 t4 m0 m1 m2 ag vs here act hol x) (decide (x ∈ (flawsOf t0 t1 t2 t3 m0 m1 m2 ag vs here act hol).1), ((flawsOf t0 t1 t2 t3 m0 m1 m2 ag vs here act hol).2 == 0)) := by
  obtain ⟨K, hK⟩ := flaws_ev t0 t1 t2 t3 t4 m0 m1 m2 ag vs here act hol hs ha hl hh hd hc
  have hlen := flawsOf_len t0 t1 t2 t3 m0 m1 m2 ag vs here act hol
  obtain ⟨K2, hK2⟩ := flaw_l0 (flawsOf t0 t1 t2 t3 m0 m1 m2 ag vs here act hol).1 (by omega) x (flawsOf t0 t1 t2 t3 m0 m1 m2 ag vs here act hol).2 _ 0 (by omega) (Int.zero_add _)
  dsimp only at hK hK2
  refine ⟨K + K2, fun k hk => ?_⟩
  show Lwflaw.f k t0 t1 t2 t3 t4 m0 m1 m2 ag vs here act hol x = _
  unfold Lwflaw.f
  rw [hK k (by omega), Option.bind_some, hK2 k (by omega)]
  rfl
theorem usable_ev (hp : -9223372036854775808 ≤ t1) (hp2 : t1 ≤ 9223372036854775807) (hq2 : t2 ≤ 9223372036854775807) :
    ∃ r, (r = true → (Small ag ∧ ag.length ≤ 30 ∧ vs.length ≤ 70 ∧ here.length ≤ 70) ∧ termsB t0 t1 t2 t3 = true ∧ validM m0 m1 m2 ag vs here = true) ∧ Ev (fun k => Lwusable.f k t0 t1 t2 t3 t4 m0 m1 m2 ag vs here) r := by
  obtain ⟨r, hr, K, hK⟩ := few_ev m0 m1 m2 ag vs here
  obtain ⟨K2, hK2⟩ := rterms_ev (n := t0) (x := t3) t4 hp hp2 hq2
  dsimp only at hK hK2
  cases r with
  | false =>
    refine ⟨false, fun h => by simp at h, K, fun k hk => ?_⟩
    show Lwusable.f k t0 t1 t2 t3 t4 m0 m1 m2 ag vs here = _
    unfold Lwusable.f
    rw [hK k hk, Option.bind_some, if_neg (by simp)]
  | true =>
    have q := hr rfl
    obtain ⟨K3, hK3⟩ := rvalid_ev m0 m1 m2 ag vs here (by omega) (by omega) (by omega)
    dsimp only at hK3
    refine ⟨termsB t0 t1 t2 t3 && validM m0 m1 m2 ag vs here, fun h => ?_, K + K2 + K3, fun k hk => ?_⟩
    · rw [Bool.and_eq_true] at h
      exact ⟨q, h⟩
    · show Lwusable.f k t0 t1 t2 t3 t4 m0 m1 m2 ag vs here = _
      unfold Lwusable.f
      rw [hK k (by omega), Option.bind_some, if_pos rfl, hK2 k (by omega), Option.bind_some]
      cases termsB t0 t1 t2 t3 with
      | false => rw [if_neg (by simp)]; rfl
      | true => rw [if_pos rfl, hK3 k (by omega), Option.bind_some]; rfl
end
theorem holB_nil : holB [] = true := by
  rw [holB_true]
  exact ⟨by simp, fun j j0 j1 => by simp at j1; omega, fun j j0 j1 => by simp at j1; omega⟩
theorem working_nil : (workingOf 0 []).2 = 0 := by
  unfold workingOf
  rw [if_pos (by decide), holB_nil, if_pos rfl]
theorem mem_flawL {b : Bool} {n x : Int} : x ∈ flawL b n ↔ b = true ∧ x = n := by
  unfold flawL
  cases b <;> simp
end Go.Proofs.Ytemnlgefngjliaa.Meet
