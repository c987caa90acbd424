/- Words that the kit's print.sh printed, in a copy without what is not used. Conditions: as_ each theorem states. -/
import Derived.Test.YtemnlgefngjliaaMtH
import Derived.Test.YtemnlgefngjliaaPx34
import Derived.SizedLaws
import Derived.ChangeSlices
namespace Go.Proofs.Ytemnlgefngjliaa.Pure
open Go.RowKit Go.Proofs.YtemnlgefngjliaaW.PrintWords Go.Proofs.Ytemnlgefngjliaa.Given Go.Proofs.Ytemnlgefngjliaa.Px Go.Proofs.Ytemnlgefngjliaa.Meet
set_option linter.unusedVariables false
set_option linter.unusedSimpArgs false
section
variable (t0 t1 t2 t3 : Int) (t4 : Bool) (m0 m1 m2 : Int) (ag : List ByteArray) (vs : List S43) (here : List Int)
theorem b4j (hh : here.length ≤ 1000000) (g : Meet.Good vs here) {k : Int} (k0 : 0 ≤ k) (k1 : k < vs.length) (hk : ¬ (a0a vs k).f0 ∈ here) : ∀ (n : Nat) (i x17 x18 : Int), 0 ≤ i → i + n = vs.length →
    0 ≤ x17 → x17 ≤ 64000 * i → 0 ≤ x18 → x18 ≤ 64000 * i → x17 + sm ((wgt (ownT t4) vs here).drop i.toNat) = sm (wgt (ownT t4) vs here) → x18 + sm ((wgt (ownT t4) vs (come vs here (a0a vs k).f0)).drop i.toNat) = sm (wgt (ownT t4) vs (come vs here (a0a vs k).f0)) →
    Ev (fun kk => a0b.l0 kk true k (wgt (ownT t4) vs here) (wgt (ownT t4) vs (come vs here (a0a vs k).f0)) (ownT t4 (a0a vs k)) x17 x18 vs (vs.length : Int) i m0 m1 m2 ag vs here (a0a vs k).f0 (a0a vs k).f1 (a0a vs k).f2) true := by
  have gc : Meet.Good vs (come vs here (a0a vs k).f0) := b1o g _
  have hlv := g.lv
  obtain ⟨sa, ba⟩ := b4i g t4
  obtain ⟨sb, bb⟩ := b4i gc t4
  have la : (wgt (ownT t4) vs here).length = vs.length := a8s _ _ _
  have lb : (wgt (ownT t4) vs (come vs here (a0a vs k).f0)).length = vs.length := a8s _ _ _
  have hown := b2l g t4
  have mono : sm (wgt (ownT t4) vs here) ≤ sm (wgt (ownT t4) vs (come vs here (a0a vs k).f0)) := by
    rw [sa, sb]
    exact b0k (fun j j0 j1 => (hown j j0 j1).1) (fun j j0 j1 hj => by
      rw [b2m g j0 j1] at hj
      rw [b2m gc j0 j1]
      exact hj.elim (fun a => .inl ((a6i g k0 k1).mpr (.inl a))) (fun a => .inr ⟨a.1, (a6i g k0 k1).mpr (.inl a.2)⟩)) vs.length 0 (by omega) (by omega)
  intro n
  induction n with
  | zero =>
    intro i x17 x18 h0 hi _ _ _ _ e1 e2
    rw [List.drop_eq_nil_of_le (by omega)] at e1 e2
    simp only [sm] at e1 e2
    refine evUp 0 fun kk _ => ?_
    rw [a0b.l0, if_neg (by omega), if_pos rfl, decide_eq_true (by omega)]
  | succ n ih =>
    intro i x17 x18 h0 hi a0 a1 b0 b1 e1 e2
    have hi1 : i < vs.length := by omega
    have va := ba i h0 (by omega)
    have vb := bb i h0 (by omega)
    rw [a7z _ i h0 (by omega)] at e1 e2
    simp only [sm] at e1 e2
    obtain ⟨K, hK⟩ := ih (i + 1) (x17 + rd (wgt (ownT t4) vs here) i) (x18 + rd (wgt (ownT t4) vs (come vs here (a0a vs k).f0)) i) (by omega) (by omega) (by omega) (by omega) (by omega) (by omega) (by omega) (by omega)
    obtain ⟨K1, hK1⟩ := b0b m0 m1 m2 ag vs here (a0a vs i).f0 hh
    dsimp only at hK hK1
    have ca := b1p (own := ownT t4) (here := here) hlv hown h0 hi1
    have cb := b1p (own := ownT t4) (here := come vs here (a0a vs k).f0) hlv hown h0 hi1
    have vk := hown k k0 k1
    have s5 : ∀ kk, K ≤ kk → a0b.j5 (kk + 1) true k (wgt (ownT t4) vs here) (wgt (ownT t4) vs (come vs here (a0a vs k).f0)) (ownT t4 (a0a vs k)) (x17 + rd (wgt (ownT t4) vs here) i) (x18 + rd (wgt (ownT t4) vs (come vs here (a0a vs k).f0)) i) vs (vs.length : Int) i false m0 m1 m2 ag vs here (a0a vs k).f0 (a0a vs k).f1 (a0a vs k).f2 = some true := fun kk hkk => by
      rw [a0b.j5, if_neg (by simp), w64 (x := i + 1) (by omega) (by omega)]
      exact hK kk hkk
    have s4 : ∀ kk, K ≤ kk → ∀ x21 : Int, x21 = (if (a0a vs k).f2 = (a0a vs i).f0 ∧ (a0a vs i).f0 ∈ here then ownT t4 (a0a vs k) else 0) → a0b.j4 (kk + 2) true k (wgt (ownT t4) vs here) (wgt (ownT t4) vs (come vs here (a0a vs k).f0)) (ownT t4 (a0a vs k)) (x17 + rd (wgt (ownT t4) vs here) i) (x18 + rd (wgt (ownT t4) vs (come vs here (a0a vs k).f0)) i) i x21 vs (vs.length : Int) i m0 m1 m2 ag vs here (a0a vs k).f0 (a0a vs k).f1 (a0a vs k).f2 = some true := fun kk hkk x21 hx => by
      rw [a0b.j4]
      by_cases c : i = k
      · have hge := (b1r (own := ownT t4) (h := come vs here (a0a vs k).f0) (fun j j0 j1 => (hown j j0 j1).1) k0 (b0j g k0 k1) vs.length 0 (by omega) (by omega)).2 k0 k1
        subst c
        rw [if_pos rfl, if_pos h0, if_pos (by rw [lb]; exact hi1), if_neg (by rw [cb]; omega)]
        exact s5 kk hkk
      · have hc := b1q g (ownT t4) k0 k1 hk h0 c vs.length 0 (by omega) (by omega)
        have hx2 : rd (wgt (ownT t4) vs (come vs here (a0a vs k).f0)) i = rd (wgt (ownT t4) vs here) i - x21 := by
          rw [ca, cb, hc, hx]
          congr 1
          by_cases d : (a0a vs k).f2 = (a0a vs i).f0 ∧ (a0a vs i).f0 ∈ here
          · rw [if_pos d, if_pos ⟨k0, (b2o g k0 k1 hk h0 hi1).mpr d⟩]
          · rw [if_neg d, if_neg (fun q => d ((b2o g k0 k1 hk h0 hi1).mp q.2))]
        rw [if_neg c, if_pos h0, if_pos (by rw [lb]; exact hi1), if_pos (by rw [la]; exact hi1), w64 (x := rd (wgt (ownT t4) vs here) i - x21) (by omega) (by omega), hx2, bne_self_eq_false]
        rw [← hx2]
        exact s5 kk hkk
    refine evUp (K + K1 + 3) fun kk hkk => ?_
    obtain ⟨j, rfl⟩ : ∃ j, kk = j + 3 := ⟨kk - 3, by omega⟩
    rw [a0b.l0, if_pos (by omega), if_pos h0, if_pos (by omega), if_pos (by rw [la]; exact hi1), if_pos (by rw [lb]; exact hi1), w64 (x := x17 + rd (wgt (ownT t4) vs here) i) (by omega) (by omega), w64 (x := x18 + rd (wgt (ownT t4) vs (come vs here (a0a vs k).f0)) i) (by omega) (by omega)]
    by_cases c : (a0a vs k).f2 = (a0a vs i).f0
    · rw [if_pos c, hK1 _ (by omega), Option.bind_some, a0b.j3]
      by_cases d : (a0a vs i).f0 ∈ here
      · rw [if_pos (decide_eq_true d)]
        exact s4 j (by omega) _ (by rw [if_pos ⟨c, d⟩])
      · rw [if_neg (by simpa using d)]
        exact s4 j (by omega) _ (by rw [if_neg (fun q => d q.2)])
    · rw [if_neg c, a0b.j3, if_neg (by simp)]
      exact s4 j (by omega) _ (by rw [if_neg (fun q => c q.1)])
theorem MeetingComing (which : Int) (hp : -9223372036854775808 ≤ t1) (hp2 : t1 ≤ 9223372036854775807) (hq2 : t2 ≤ 9223372036854775807) (b0 : 0 ≤ which) (b1 : which ≤ 255) :
    Ev (fun k => a0b.f k t0 t1 t2 t3 t4 m0 m1 m2 ag vs here which) true := by
  obtain ⟨K1, hK1⟩ := b5y
  obtain ⟨r, hr, K2, hK2⟩ := b4f t0 t1 t2 t3 t4 m0 m1 m2 ag vs here hp hp2 hq2
  dsimp only at hK1 hK2
  by_cases c1 : r = true
  · obtain ⟨hf, ht, hv⟩ := hr c1
    have g := a8x hv
    obtain ⟨w, ⟨K3, hK3⟩, hw⟩ := b6h m0 m1 m2 ag vs here (by omega) (by omega) which b0 b1
    dsimp only at hK3
    rcases hw with hw | ⟨k, k0, k1, hk, hw⟩
    · subst hw
      refine evUp (K1 + K2 + K3) fun kk hkk => ?_
      unfold a0b.f
      rw [hK1 (kk + 1) (by omega), Option.bind_some, hK2 (kk + 1) (by omega), Option.bind_some, if_pos c1, hK3 (kk + 1) (by omega), Option.bind_some]
      rfl
    · subst hw
      have gc : Meet.Good vs (come vs here (a0a vs k).f0) := b1o g _
      have gl2 : (come vs here (a0a vs k).f0).length ≤ 70 := by have := b1n (fun x => decide (x ∈ here ∨ x = (a0a vs k).f0)) vs vs.length 0; unfold come sel; omega
      obtain ⟨K4, hK4⟩ := a9n t0 t1 t2 t3 t4 m0 m1 m2 ag vs here hf.1 (by omega) (by omega) (by omega)
      obtain ⟨K5, hK5⟩ := a9n t0 t1 t2 t3 t4 m0 m1 m2 ag vs (come vs here (a0a vs k).f0) hf.1 (by omega) (by omega) (by omega)
      have ew1 : a5x t0 t1 t2 t3 t4 m0 m1 m2 ag vs here = (wgt (ownT t4) vs here, 0) := by
        unfold a5x
        rw [if_pos ⟨ht, hv⟩]
      have ew2 : a5x t0 t1 t2 t3 t4 m0 m1 m2 ag vs (come vs here (a0a vs k).f0) = (wgt (ownT t4) vs (come vs here (a0a vs k).f0), 0) := by
        unfold a5x
        rw [if_pos ⟨ht, b2w hv gc⟩]
      rw [ew1] at hK4
      rw [ew2] at hK5
      obtain ⟨K, hK⟩ := b4j t4 m0 m1 m2 ag vs here (by omega) g k0 k1 hk vs.length 0 0 0 (by omega) (by omega) (by omega) (by omega) (by omega) (by omega) (by simp) (by simp)
      dsimp only at hK hK4 hK5
      refine evUp (K1 + K2 + K3 + K4 + K5 + K + 2) fun kk hkk => ?_
      obtain ⟨j, rfl⟩ : ∃ j, kk = j + 2 := ⟨kk - 2, by omega⟩
      unfold a0b.f
      rw [hK1 _ (by omega), Option.bind_some, hK2 _ (by omega), Option.bind_some, if_pos c1, hK3 _ (by omega), Option.bind_some]
      dsimp only
      rw [if_pos rfl, hK4 _ (by omega), Option.bind_some, hK5 _ (by omega), Option.bind_some]
      dsimp only
      rw [if_pos rfl, if_pos rfl, a8s, a8s, if_pos rfl, bne_self_eq_false, a0b.j0, if_neg (by simp), if_pos k0, if_pos k1]
      cases t4 with
      | true =>
        rw [if_pos rfl, a0b.j1]
        exact hK (j + 1) (by omega)
      | false =>
        rw [if_neg (by simp), a0b.j1]
        exact hK (j + 1) (by omega)
  · refine evUp (K1 + K2) fun k hk => ?_
    unfold a0b.f
    rw [hK1 (k + 1) (by omega), Option.bind_some, hK2 (k + 1) (by omega), Option.bind_some, if_neg c1]
end
end Go.Proofs.Ytemnlgefngjliaa.Pure
namespace Go.Proofs.YtemnlgefngjliaaW.PrintWords
open Go.ChangeShapes Go.WideShapes
end Go.Proofs.YtemnlgefngjliaaW.PrintWords
