/- Words that the kit's print.sh printed, in a copy without what is not used. Conditions: as each theorem states. -/
import Derived.Test.YtemnlgefngjliaaMtG
import Derived.Test.YtemnlgefngjliaaPx32
import Derived.SizedLaws
import Derived.ChangeSlices
namespace Go.Proofs.Ytemnlgefngjliaa.Pure
open Go.RowKit Go.Proofs.YtemnlgefngjliaaW.PrintWords Go.Proofs.Ytemnlgefngjliaa.Given Go.Proofs.Ytemnlgefngjliaa.Px Go.Proofs.Ytemnlgefngjliaa.Meet
set_option linter.unusedVariables false
set_option linter.unusedSimpArgs false
section
variable (t0 t1 t2 t3 : Int) (t4 : Bool) (m0 m1 m2 : Int) (ag : List ByteArray) (vs : List S43) (here : List Int)
theorem b7h (hs : Small ag) (ha : ag.length ≤ 1000000) (hh : here.length ≤ 1000000) (ht : a5j t0 t1 t2 t3 = true) (hv : a5a m0 m1 m2 ag vs here = true) : ∀ (n : Nat) (i x8 x9 : Int) (o : List S43), 0 ≤ i → i + n = vs.length → Mir vs i o →
    0 ≤ x8 → x8 ≤ 64000 * i → 0 ≤ x9 → x9 ≤ 1000 * i → x8 + sm ((wgt (ownT t4) vs here).drop i.toNat) = sm (wgt (ownT t4) vs here) → x9 + a6a (ownT t4) vs here n i = a6a (ownT t4) vs here vs.length 0 →
    Ev (fun k => a0b.l0 k true (wgt (ownT t4) vs here) x8 x9 vs (vs.length : Int) i t0 t1 t2 t3 t4 m0 m1 m2 ag vs here m0 m1 m2 ag o here) true := by
  have g := a6e hv
  have hlv := g.lv
  obtain ⟨hsum, hbd⟩ := b6l g t4
  have hwl : (wgt (ownT t4) vs here).length = vs.length := b1s _ _ _
  intro n
  induction n with
  | zero =>
    intro i x8 x9 o h0 hi ho b0 b1 b2 b3 e8 e9
    obtain rfl : i = vs.length := by omega
    obtain ⟨K, hK⟩ := a8y t0 t1 t2 t3 t4 m0 m1 m2 ag o here hs ha (by rw [ho.1]; omega) hh
    obtain ⟨K2, hK2⟩ := b5m (wgt (ownT t4) vs here) (by omega)
    dsimp only at hK hK2
    have ew : a5k t0 t1 t2 t3 t4 m0 m1 m2 ag o here = (wgt (ownT t4) o here, 0) := by
      unfold a5k
      rw [if_pos ⟨ht, b3r ho hv⟩]
    have e : x8 = x9 := by
      rw [List.drop_eq_nil_of_le (by omega)] at e8
      simp only [sm, a6a] at e8 e9
      omega
    refine evUp (K + K2) fun k hk => ?_
    rw [a0b.l0, if_neg (by omega), hK k (by omega), Option.bind_some, if_pos rfl, if_pos e, ew, if_pos rfl]
    cases t4 with
    | true =>
      rw [if_pos rfl, b5p ho g.sv, hK2 k (by omega)]
      rfl
    | false => rw [if_neg (by simp)]
  | succ n ih =>
    intro i x8 x9 o h0 hi ho b0 b1 b2 b3 e8 e9
    obtain ⟨K1, hK1⟩ := b1t m0 m1 m2 ag vs here (a0a vs i).f0 hh
    obtain ⟨K2, hK2⟩ := b1t m0 m1 m2 ag vs here (a0a vs i).f2 hh
    dsimp only at hK1 hK2
    have hw := hbd i h0 (by omega)
    have hv1 := of_decide_eq_true (g.ok i h0 (by omega))
    rw [a7p _ i h0 (by omega)] at e8
    rw [a6a] at e9
    simp only [sm] at e8
    have hpos := b5n g h0 (show i < vs.length by omega)
    obtain ⟨K, hK⟩ := ih (i + 1) (x8 + rd (wgt (ownT t4) vs here) i) (x9 + if 0 ≤ byI vs here i then ownT t4 (a0a vs i) else 0) _ (by omega) (by omega) (ho.step h0 (by omega)) (by omega) (by omega)
      (by have := a9o g t4 i h0 (by omega); split <;> omega) (by have := a9o g t4 i h0 (by omega); split <;> omega) (by omega) (by omega)
    dsimp only at hK
    refine evUp (K + K1 + K2 + 2) fun k hk => ?_
    obtain ⟨j, rfl⟩ : ∃ j, k = j + 2 := ⟨k - 2, by omega⟩
    have s3 : ∀ b : Bool, b = decide (0 ≤ byI vs here i) → a0b.j3 (j + 1) true (wgt (ownT t4) vs here) (x8 + rd (wgt (ownT t4) vs here) i) x9 i vs (vs.length : Int) i b t0 t1 t2 t3 t4 m0 m1 m2 ag vs here m0 m1 m2 ag o here (a0a vs i).f0 (a0a vs i).f1 (a0a vs i).f2 = some true := by
      intro b hb
      have h := hK j (by omega)
      rw [a0b.j3, w64 (x := i + 1) (by omega) (by omega), w64 (x := 1000 - (a0a vs i).f1) (by omega) (by omega), w64 (x := x9 + (a0a vs i).f1) (by omega) (by omega), w64 (x := 1 - (a0a vs i).f1) (by omega) (by omega), w64 (x := x9 + (a0a vs i).f1 + (1 - (a0a vs i).f1)) (by omega) (by omega),
        if_pos (show i < (o.length : Int) by rw [ho.1]; omega), if_pos h0]
      by_cases c : 0 ≤ byI vs here i
      · rw [if_pos c] at h
        rw [if_pos (by rw [hb]; exact decide_eq_true c)]
        cases t4 with
        | true =>
          rw [if_pos rfl]
          refine Eq.trans ?_ h
          congr 1
          show x9 + (a0a vs i).f1 + (1 - (a0a vs i).f1) = x9 + 1
          omega
        | false =>
          rw [if_neg (by simp), if_pos h0, if_pos (show i < (o.length : Int) by rw [ho.1]; omega)]
          exact h
      · rw [if_neg c, Int.add_zero] at h
        rw [if_neg (by rw [hb]; simpa using c), if_pos h0, if_pos (show i < (o.length : Int) by rw [ho.1]; omega)]
        exact h
    have s2 : a0b.j2 (j + 2) true (wgt (ownT t4) vs here) (x8 + rd (wgt (ownT t4) vs here) i) x9 i vs (vs.length : Int) i false t0 t1 t2 t3 t4 m0 m1 m2 ag vs here m0 m1 m2 ag o here (a0a vs i).f0 (a0a vs i).f1 (a0a vs i).f2 = some true := by
      rw [a0b.j2, if_neg (by simp), hK1 _ (by omega), Option.bind_some, hK2 _ (by omega), Option.bind_some]
      by_cases c1 : (a0a vs i).f0 ∈ here
      · rw [if_pos (decide_eq_true c1), s3 true (decide_eq_true (hpos.mpr (.inl c1))).symm]
      · rw [if_neg (by simpa using c1)]
        by_cases c2 : (a0a vs i).f2 = 0
        · rw [if_pos c2, s3 false (decide_eq_false (fun h => by
            rcases hpos.mp h with q | q
            · exact c1 q
            · exact q.1 c2)).symm]
        · rw [if_neg c2, s3 _ (by
            rw [decide_eq_decide, hpos]
            exact ⟨fun q => .inr ⟨c2, q⟩, fun q => q.elim (fun q => absurd q c1) (fun q => q.2)⟩)]
    rw [a0b.l0, if_pos (by omega), if_pos h0, if_pos (by omega), if_pos (by omega), hK1 _ (by omega), Option.bind_some, w64 (x := x8 + rd (wgt (ownT t4) vs here) i) (by omega) (by omega), decide_eq_false (show ¬ rd (wgt (ownT t4) vs here) i < 0 by omega), s2]
    by_cases c1 : (a0a vs i).f0 ∈ here
    · rw [if_pos (decide_eq_true c1)]
    · rw [if_neg (by simpa using c1), if_pos (b4k h0 c1)]
theorem MeetingWeights (h1 : -9223372036854775808 ≤ t1) (h2 : t1 ≤ 9223372036854775807) (h3 : t2 ≤ 9223372036854775807) : Ev (fun k => a0b.f k t0 t1 t2 t3 t4 m0 m1 m2 ag vs here) true := by
  obtain ⟨K1, hK1⟩ := b5f
  obtain ⟨r, hr, K2, hK2⟩ := b3n t0 t1 t2 t3 t4 m0 m1 m2 ag vs here h1 h2 h3
  dsimp only at hK1 hK2
  cases r with
  | false =>
    refine evUp (K1 + K2) fun k hk => ?_
    unfold a0b.f
    rw [hK1 _ (by omega), Option.bind_some, hK2 _ (by omega), Option.bind_some, if_neg (by simp)]
  | true =>
    obtain ⟨hf, ht, hv⟩ := hr rfl
    have g := a6e hv
    obtain ⟨K3, hK3⟩ := a8y t0 t1 t2 t3 t4 m0 m1 m2 ag vs here hf.1 (by omega) (by omega) (by omega)
    have ew : a5k t0 t1 t2 t3 t4 m0 m1 m2 ag vs here = (wgt (ownT t4) vs here, 0) := by
      unfold a5k
      rw [if_pos ⟨ht, hv⟩]
    rw [ew] at hK3
    obtain ⟨K, hK⟩ := b7h t0 t1 t2 t3 t4 m0 m1 m2 ag vs here hf.1 (by omega) (by omega) ht hv vs.length 0 0 0 vs (by omega) (by omega) ⟨rfl, fun j j0 j1 => by rw [if_neg (by omega)]⟩ (by omega) (by omega) (by omega) (by omega) (by simp) (by omega)
    dsimp only at hK hK3
    refine evUp (K1 + K2 + K3 + K) fun k hk => ?_
    unfold a0b.f
    rw [hK1 _ (by omega), Option.bind_some, hK2 _ (by omega), Option.bind_some, if_pos rfl, hK3 _ (by omega), Option.bind_some, if_pos rfl, b1s]
    rw [show ((vs.length : Int) != (vs.length : Int)) = false by simp, a0b.j0, if_neg (by simp), Option.bind_some, if_pos (by simp only [List.length_nil]; omega), List.nil_append]
    exact hK k (by omega)
end
end Go.Proofs.Ytemnlgefngjliaa.Pure
namespace Go.Proofs.YtemnlgefngjliaaW.PrintWords
open Go.ChangeShapes Go.WideShapes
end Go.Proofs.YtemnlgefngjliaaW.PrintWords
