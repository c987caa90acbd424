/- Words that the kit's print.sh printed, in a copy without what is not used. Conditions: as_ each theorem states. -/
import Derived.Test.YtemnlgefngjliaaMtH
import Derived.Test.YtemnlgefngjliaaPx37
import Derived.SizedLaws
import Derived.ChangeSlices
namespace Go.Proofs.Ytemnlgefngjliaa.Pure
open Go.RowKit Go.Proofs.YtemnlgefngjliaaW.PrintWords Go.Proofs.Ytemnlgefngjliaa.Given Go.Proofs.Ytemnlgefngjliaa.Px Go.Proofs.Ytemnlgefngjliaa.Meet
set_option linter.unusedVariables false
set_option linter.unusedSimpArgs false
theorem b2a {a b c d : Int} (h : a4r a b c d = true) : 0 ≤ b ∧ b ≤ c ∧ c ≤ 1000000000 := by
  unfold a4r partOf ratB at h
  simp only [Bool.and_eq_true, decide_eq_true_eq] at h
  omega
theorem b3n {a b c d : Int} (h : a4r a b c d = true) : a4r a 0 1 d = true := by
  unfold a4r at h ⊢
  simp only [Bool.and_eq_true] at h ⊢
  exact ⟨h.1, by decide, h.2.2⟩
section
variable (t0 t1 t2 t3 : Int) (t4 : Bool) (m0 m1 m2 : Int) (ag : List ByteArray) (vs : List S43) (here : List Int) (act : ByteArray)
theorem a7b (hs : Small ag) (ha : ag.length ≤ 30) (hl : vs.length ≤ 70) (hh : here.length ≤ 70) (ht : a4r t0 t1 t2 t3 = true) (hv : a4v m0 m1 m2 ag vs here = true) (hn : a4w act = true) :
    Ev (fun k => a2k.f k t0 t1 t2 t3 t4 m0 m1 m2 ag vs here act [] 3) (fewB t1 t2 vs here, true) := by
  have h := b7b t0 t1 t2 t3 t4 m0 m1 m2 ag vs here act [] hs (by omega) (by omega) (by omega) (by simp) (by have := b3h hn; omega) 3
  have e : a5p t0 t1 t2 t3 m0 m1 m2 ag vs here act [] = (a3j (a8w t0 m0 m1 m2 []) 1 ++ a3j (!hasB ag act) 2 ++ a3j (fewB t1 t2 vs here) 3 ++ a3j (a6d t3 (wgt (fun _ => 1) vs here)) 4, 0) := by
    unfold a5p
    rw [if_pos ⟨b2n, ht, hv, hn⟩]
  rw [e] at h
  have q : decide ((3 : Int) ∈ (a3j (a8w t0 m0 m1 m2 []) 1 ++ a3j (!hasB ag act) 2 ++ a3j (fewB t1 t2 vs here) 3 ++ a3j (a6d t3 (wgt (fun _ => 1) vs here)) 4)) = fewB t1 t2 vs here := by
    rw [Bool.eq_iff_iff, decide_eq_true_eq, List.mem_append, List.mem_append, List.mem_append, a7j, a7j, a7j, a7j]
    simp
  dsimp only at h
  rw [q] at h
  exact h
theorem b4x (x3 : Int) (b0 : 0 ≤ x3) (b1 : x3 ≤ 255) (hf : Small ag ∧ ag.length ≤ 30 ∧ vs.length ≤ 70 ∧ here.length ≤ 70) (ht : a4r t0 t1 t2 t3 = true) (hv : a4v m0 m1 m2 ag vs here = true) (hn : a4w act = true) : ∀ (n : Nat) (i : Int) (o : List Int), 0 ≤ i → i + n = vs.length → o.length ≤ i → o ++ selF (fun _ => true) vs n i = sel (fun _ => true) vs →
    Ev (fun k => a0j.l0 k act x3 true (fewB t1 t2 vs here) true vs (vs.length : Int) i t0 t1 t2 t3 t4 m0 m1 m2 ag vs here m0 m1 m2 ag vs o) true := by
  have g := a9d hv
  have hlv := g.lv
  have tq := b2a ht
  intro n
  induction n with
  | zero =>
    intro i o h0 hi ho e
    rw [selF, List.append_nil] at e
    subst e
    have ga := b1y g (fun _ => true)
    have gl : (sel (fun _ => true) vs).length ≤ 70 := by have := a9h (fun _ => true) vs vs.length 0; unfold sel; omega
    obtain ⟨K1, hK1⟩ := a7b t0 t1 t2 t3 t4 m0 m1 m2 ag vs _ act hf.1 hf.2.1 hf.2.2.1 gl ht (a9u hv ga) hn
    obtain ⟨K2, hK2⟩ := a7b t0 0 1 t3 t4 m0 m1 m2 ag vs here act hf.1 hf.2.1 hf.2.2.1 hf.2.2.2 (b3n ht) hv hn
    obtain ⟨r, ⟨K3, hK3⟩, hr⟩ := b7k m0 m1 m2 ag vs here (by omega) (by omega) x3 b0 b1
    have e1 : fewB t1 t2 vs (sel (fun _ => true) vs) = false := b7l ga (fun j j0 j1 => b0m.mpr ⟨a9g ⟨j0, j1, rfl⟩, rfl⟩) tq.1 tq.2.1 tq.2.2
    have e2 : fewB 0 1 vs here = false := b5y g
    rw [e1] at hK1
    rw [e2] at hK2
    rcases hr with hr | ⟨k, k0, k1, hk, hr⟩
    · subst hr
      obtain ⟨K4, hK4⟩ := a7b t0 t1 t2 t3 t4 m0 m1 m2 ag vs here act hf.1 hf.2.1 hf.2.2.1 hf.2.2.2 ht hv hn
      dsimp only at hK1 hK2 hK3 hK4
      refine evUp (K1 + K2 + K3 + K4) fun k hk => ?_
      rw [a0j.l0, if_neg (by omega), hK1 k (by omega), Option.bind_some, hK2 k (by omega), Option.bind_some, hK3 k (by omega), Option.bind_some]
      dsimp only
      rw [hK4 k (by omega), Option.bind_some]
      simp
    · subst hr
      have gc : Meet.Good vs (come vs here (a0a vs k).f0) := b1y g _
      have gl2 : (come vs here (a0a vs k).f0).length ≤ 70 := by have := a9h (fun x => decide (x ∈ here ∨ x = (a0a vs k).f0)) vs vs.length 0; unfold come sel; omega
      obtain ⟨K4, hK4⟩ := a7b t0 t1 t2 t3 t4 m0 m1 m2 ag vs _ act hf.1 hf.2.1 hf.2.2.1 gl2 ht (a9u hv gc) hn
      have hm := b5x (h1 := here) g gc (fun x hx => (b5w g k0 k1).mpr (.inl hx)) (p := t1) (q := t2) tq.1 (by omega) (by omega) tq.2.2
      dsimp only at hK1 hK2 hK3 hK4
      refine evUp (K1 + K2 + K3 + K4) fun kk hkk => ?_
      rw [a0j.l0, if_neg (by omega), hK1 kk (by omega), Option.bind_some, hK2 kk (by omega), Option.bind_some, hK3 kk (by omega), Option.bind_some]
      dsimp only
      rw [hK4 kk (by omega), Option.bind_some]
      cases hc : fewB t1 t2 vs here with
      | true => simp
      | false => rw [hm hc]; simp
  | succ n ih =>
    intro i o h0 hi ho e
    obtain ⟨K, hK⟩ := ih (i + 1) (o ++ [(a0a vs i).f0]) (by omega) (by omega) (by rw [List.length_append, List.length_singleton]; omega) (by
      rw [← e, List.append_assoc, List.singleton_append]
      congr 1)
    dsimp only at hK
    refine evUp K fun k hk => ?_
    rw [a0j.l0, if_pos (by omega), if_pos h0, if_pos (by omega), if_pos (by omega), w64 (x := i + 1) (by omega) (by omega)]
    exact hK k hk
theorem MeetingQuorum (which : Int) (hp : -9223372036854775808 ≤ t1) (hp2 : t1 ≤ 9223372036854775807) (hq2 : t2 ≤ 9223372036854775807) (b0 : 0 ≤ which) (b1 : which ≤ 255) :
    Ev (fun k => a0j.f k t0 t1 t2 t3 t4 m0 m1 m2 ag vs here act which) true := by
  obtain ⟨K1, hK1⟩ := b6t
  obtain ⟨r, hr, K2, hK2⟩ := b4v t0 t1 t2 t3 t4 m0 m1 m2 ag vs here hp hp2 hq2
  obtain ⟨K3, hK3⟩ := b2v act
  dsimp only at hK1 hK2 hK3
  have jt : ∀ k, a0j.j0 (k + 1) act which true true t0 t1 t2 t3 t4 m0 m1 m2 ag vs here = some true := fun k => by
    rw [a0j.j0, if_pos rfl]
  by_cases c1 : r = true
  · obtain ⟨hf, ht, hv⟩ := hr c1
    by_cases c2 : a4w act = true
    · obtain ⟨K4, hK4⟩ := a7b t0 t1 t2 t3 t4 m0 m1 m2 ag vs here act hf.1 hf.2.1 hf.2.2.1 hf.2.2.2 ht hv c2
      obtain ⟨K5, hK5⟩ := b4x t0 t1 t2 t3 t4 m0 m1 m2 ag vs here act which b0 b1 hf ht hv c2 vs.length 0 [] (by omega) (by omega) (by simp) rfl
      dsimp only at hK4 hK5
      refine evUp (K1 + K2 + K3 + K4 + K5) fun k hk => ?_
      unfold a0j.f
      rw [hK1 (k + 1) (by omega), Option.bind_some, hK2 (k + 1) (by omega), Option.bind_some, if_pos c1, hK3 (k + 1) (by omega), Option.bind_some, c2, a0j.j0, if_neg (by simp), hK4 k (by omega), Option.bind_some]
      exact hK5 k (by omega)
    · refine evUp (K1 + K2 + K3) fun k hk => ?_
      unfold a0j.f
      rw [hK1 (k + 1) (by omega), Option.bind_some, hK2 (k + 1) (by omega), Option.bind_some, if_pos c1, hK3 (k + 1) (by omega), Option.bind_some, Bool.eq_false_iff.mpr c2]
      exact jt k
  · refine evUp (K1 + K2) fun k hk => ?_
    unfold a0j.f
    rw [hK1 (k + 1) (by omega), Option.bind_some, hK2 (k + 1) (by omega), Option.bind_some, if_neg c1, jt]
end
end Go.Proofs.Ytemnlgefngjliaa.Pure
namespace Go.Proofs.YtemnlgefngjliaaW.PrintWords
open Go.ChangeShapes Go.WideShapes
end Go.Proofs.YtemnlgefngjliaaW.PrintWords
