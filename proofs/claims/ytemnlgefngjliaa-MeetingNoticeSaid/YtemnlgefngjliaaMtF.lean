/- What the laws' own small functions about meetings say: usable, flaw. Conditions: as each theorem states. -/
import Derived.Test.YtemnlgefngjliaaMtD
import Derived.Test.YtemnlgefngjliaaPx35
import Derived.Test.YtemnlgefngjliaaPx31
namespace Go.Proofs.Ytemnlgefngjliaa.Meet
open Go.RowKit Go.Proofs.YtemnlgefngjliaaW.PrintWords Go.Proofs.Ytemnlgefngjliaa.Given Go.Proofs.Ytemnlgefngjliaa.Px
open Go.Proofs.Ytemnlgefngjliaa.Cal
set_option linter.unusedVariables false
set_option linter.unusedSimpArgs false
theorem a9p (l : List Int) (i : Int) (h0 : 0 ≤ i) (h1 : i < l.length) : l.drop i.toNat = rd l i :: l.drop (i + 1).toNat := a6j 0 l i h0 h1
theorem b4u (l : List Int) (hl : l.length ≤ 1000000) (x e : Int) : ∀ (n : Nat) (i : Int), 0 ≤ i → i + n = l.length →
    Ev (fun k => a1p.l0 k x e l (l.length : Int) i) (decide (x ∈ l.drop i.toNat), (e == 0)) := by
  intro n
  induction n with
  | zero =>
    intro i h0 hi
    refine evUp 0 fun k _ => ?_
    rw [a1p.l0, if_neg (by omega), List.drop_eq_nil_of_le (by omega)]
    simp
  | succ n ih =>
    intro i h0 hi
    obtain ⟨K, hK⟩ := ih (i + 1) (by omega) (by omega)
    dsimp only at hK
    refine evUp K fun k hk => ?_
    rw [a1p.l0, if_pos (by omega), if_pos h0, if_pos (by omega), a9p l i h0 (by omega)]
    by_cases c : rd l i = x
    · rw [if_pos c, decide_eq_true (by rw [c]; exact List.mem_cons_self)]
    · rw [if_neg c, w64 (by omega) (by omega), hK k hk]
      congr 2
      rw [decide_eq_decide, List.mem_cons]
      constructor
      · exact .inr
      · rintro (h | h)
        · exact absurd h.symm c
        · exact h
theorem a6l (b : Bool) (n : Int) : (a3a b n).length ≤ 1 := by
  unfold a3a
  split <;> simp
section
variable (t0 t1 t2 t3 : Int) (t4 : Bool) (m0 m1 m2 : Int) (ag : List ByteArray) (vs : List S43) (here : List Int) (act : ByteArray) (hol : List Int)
theorem b0v : (a5c t0 t1 t2 t3 m0 m1 m2 ag vs here act hol).1.length ≤ 4 := by
  unfold a5c
  split
  · simp only [List.length_append]
    have h1 := a6l (a6k t0 m0 m1 m2 hol) 1
    have h2 := a6l (!hasB ag act) 2
    have h3 := a6l (fewB t1 t2 vs here) 3
    have h4 := a6l (a5k t3 (wgt (fun _ => 1) vs here)) 4
    omega
  · simp
theorem b4v (hs : Small ag) (ha : ag.length ≤ 1000000) (hl : vs.length ≤ 1000000) (hh : here.length ≤ 1000000) (hd : hol.length ≤ 1000000) (hc : act.size ≤ 1000000) (x : Int) :
    Ev (fun k => a1p.f k t0 t1 t2 t3 t4 m0 m1 m2 ag vs here act hol x) (decide (x ∈ (a5c t0 t1 t2 t3 m0 m1 m2 ag vs here act hol).1), ((a5c t0 t1 t2 t3 m0 m1 m2 ag vs here act hol).2 == 0)) := by
  obtain ⟨K, hK⟩ := b3t t0 t1 t2 t3 t4 m0 m1 m2 ag vs here act hol hs ha hl hh hd hc
  have hlen := b0v t0 t1 t2 t3 m0 m1 m2 ag vs here act hol
  obtain ⟨K2, hK2⟩ := b4u (a5c t0 t1 t2 t3 m0 m1 m2 ag vs here act hol).1 (by omega) x (a5c t0 t1 t2 t3 m0 m1 m2 ag vs here act hol).2 _ 0 (by omega) (Int.zero_add _)
  dsimp only at hK hK2
  refine ⟨K + K2, fun k hk => ?_⟩
  show a1p.f k t0 t1 t2 t3 t4 m0 m1 m2 ag vs here act hol x = _
  unfold a1p.f
  rw [hK k (by omega), Option.bind_some, hK2 k (by omega)]
  rfl
theorem b3c (hp : -9223372036854775808 ≤ t1) (hp2 : t1 ≤ 9223372036854775807) (hq2 : t2 ≤ 9223372036854775807) :
    ∃ r, (r = true → (Small ag ∧ ag.length ≤ 30 ∧ vs.length ≤ 70 ∧ here.length ≤ 70) ∧ a4w t0 t1 t2 t3 = true ∧ a4h m0 m1 m2 ag vs here = true) ∧ Ev (fun k => a3d.f k t0 t1 t2 t3 t4 m0 m1 m2 ag vs here) r := by
  obtain ⟨r, hr, K, hK⟩ := b5k m0 m1 m2 ag vs here
  obtain ⟨K2, hK2⟩ := b2t (n := t0) (x := t3) t4 hp hp2 hq2
  dsimp only at hK hK2
  cases r with
  | false =>
    refine ⟨false, fun h => by simp at h, K, fun k hk => ?_⟩
    show a3d.f k t0 t1 t2 t3 t4 m0 m1 m2 ag vs here = _
    unfold a3d.f
    rw [hK k hk, Option.bind_some, if_neg (by simp)]
  | true =>
    have q := hr rfl
    obtain ⟨K3, hK3⟩ := b2v m0 m1 m2 ag vs here (by omega) (by omega) (by omega)
    dsimp only at hK3
    refine ⟨a4w t0 t1 t2 t3 && a4h m0 m1 m2 ag vs here, fun h => ?_, K + K2 + K3, fun k hk => ?_⟩
    · rw [Bool.and_eq_true] at h
      exact ⟨q, h⟩
    · show a3d.f k t0 t1 t2 t3 t4 m0 m1 m2 ag vs here = _
      unfold a3d.f
      rw [hK k (by omega), Option.bind_some, if_pos rfl, hK2 k (by omega), Option.bind_some]
      cases a4w t0 t1 t2 t3 with
      | false => rw [if_neg (by simp)]; rfl
      | true => rw [if_pos rfl, hK3 k (by omega), Option.bind_some]; rfl
end
theorem a6m {b : Bool} {n x : Int} : x ∈ a3a b n ↔ b = true ∧ x = n := by
  unfold a3a
  cases b <;> simp
end Go.Proofs.Ytemnlgefngjliaa.Meet
