/- For all weights, households and days: one more of need, of hours, and of persons adds its weight; the points with one weight alone add up to those with all; without weights there are none. Conditions: none. -/
import Derived.Test.YtfhmbfadbfnnaaaDoorPtA
import Derived.Test.YtfhmbfadbfnnaaaDoorPx13
namespace Go.Proofs.YtfhmbfadbfnnaaaDoor.Pure
open Go.RowKit Go.Proofs.YtfhmbfadbfnnaaaDoorW.PrintWords Go.Proofs.YtfhmbfadbfnnaaaDoor.Given Go.Proofs.YtfhmbfadbfnnaaaDoor.Px Go.Proofs.YtfhmbfadbfnnaaaDoor.Cal Go.Proofs.YtfhmbfadbfnnaaaDoor.Pts
set_option linter.unusedVariables false
set_option linter.unusedSimpArgs false
section
variable (a b c d h s n l p day : Int)
theorem validW_iff : validW a b c d = true ↔ (0 ≤ a ∧ a ≤ 1000000) ∧ (0 ≤ b ∧ b ≤ 1000000) ∧ (0 ≤ c ∧ c ≤ 1000000) ∧ (0 ≤ d ∧ d ≤ 1000000) := by
  unfold validW
  rw [decide_eq_true_eq]
theorem validH_iff : validH h s n l p = true ↔ (1 ≤ h ∧ h ≤ 64) ∧ (0 ≤ s ∧ s ≤ 36524) ∧ (0 ≤ n ∧ n ≤ 10) ∧ (0 ≤ l ∧ l ≤ 100000) ∧ (0 ≤ p ∧ p ≤ 1000) := by
  unfold validH
  rw [decide_eq_true_eq]
/-- One round of the last loop: a household with one more of something. -/
theorem more_ok {x y z : Int} (hw : validW a b c d = true) (hh : validH h s n l p = true) (hd : 0 ≤ day ∧ day ≤ 36524) (hs : s ≤ day) (hp : ptsOf a b c d s n l p day ≤ 1000000000) (w : Int) (w0 : 0 ≤ w) (w1 : w ≤ 1000000)
    (e : ptsOf a b c d s x y z day = ptsOf a b c d s n l p day + w) :
    ((countOf 21 a b c d h s x y z day).2 = 0 → (countOf 21 a b c d h s x y z day).1 = wrap64 (ptsOf a b c d s n l p day + w)) ∧
    (¬ (countOf 21 a b c d h s x y z day).2 = 0 → validH h s x y z = true → ¬ wrap64 (ptsOf a b c d s n l p day + w) ≤ 1000000000) := by
  obtain ⟨q0, q1, q2, q3, q4⟩ := pts_bd hw hh hs hd.2
  have hq : 0 ≤ ptsOf a b c d s n l p day := by unfold ptsOf; omega
  rw [w64 (by omega) (by omega)]
  refine ⟨fun h0 => ?_, fun h0 hv => ?_⟩
  · obtain ⟨_, _, _, _, hc⟩ := countOf_ok (by decide) h0
    rw [hc]
    exact e
  · rw [countOf_in hw hv hd hs] at h0
    by_cases cc : ptsOf a b c d s x y z day > 1000000000
    · omega
    · rw [if_neg cc] at h0
      exact absurd rfl h0
end
theorem pts_one (a b c d s n l p day : Int) : ptsOf a 0 0 0 s n l p day = monthsOf s day * a ∧ ptsOf 0 b 0 0 s n l p day = n * b ∧ ptsOf 0 0 c 0 s n l p day = l * c ∧ ptsOf 0 0 0 d s n l p day = p * d := by
  unfold ptsOf
  simp
theorem parts_l1 (a b c d h s n l p day none_ sum : Int) (l119 : List S25) (l18 : List Int) (up : Bool) (hl : l119.length = 3) (hl8 : l18.length = 3)
    (hr : ∀ i : Int, 0 ≤ i → i < 3 → ((countOf 21 a b c d (rd_T25 l119 i).f0 (rd_T25 l119 i).f1 (rd_T25 l119 i).f2 (rd_T25 l119 i).f3 (rd_T25 l119 i).f4 day).2 = 0 → (countOf 21 a b c d (rd_T25 l119 i).f0 (rd_T25 l119 i).f1 (rd_T25 l119 i).f2 (rd_T25 l119 i).f3 (rd_T25 l119 i).f4 day).1 = wrap64 (n + rd l18 i)) ∧
      (¬ (countOf 21 a b c d (rd_T25 l119 i).f0 (rd_T25 l119 i).f1 (rd_T25 l119 i).f2 (rd_T25 l119 i).f3 (rd_T25 l119 i).f4 day).2 = 0 → validH (rd_T25 l119 i).f0 (rd_T25 l119 i).f1 (rd_T25 l119 i).f2 (rd_T25 l119 i).f3 (rd_T25 l119 i).f4 = true → ¬ wrap64 (n + rd l18 i) ≤ 1000000000))
    (hfin : up = true ∧ none_ = 0 ∧ sum = n) : ∀ (m : Nat) (i : Int), 0 ≤ i → i + m = 3 →
    Ev (fun k => cohousinglaw21_PointsParts.l1 k day up n none_ 0 sum l18 l119 (l119.length : Int) i a b c d) true := by
  intro m
  induction m with
  | zero =>
    intro i h0 hi
    obtain ⟨rfl, rfl, rfl⟩ := hfin
    refine evUp 0 fun k _ => ?_
    rw [cohousinglaw21_PointsParts.l1, if_neg (by omega), if_pos rfl, if_pos rfl, if_pos rfl]
    simp
  | succ m ih =>
    intro i h0 hi
    obtain ⟨K, hK⟩ := ih (i + 1) (by omega) (by omega)
    obtain ⟨K1, h1⟩ := count_ev a b c d (rd_T25 l119 i).f0 (rd_T25 l119 i).f1 (rd_T25 l119 i).f2 (rd_T25 l119 i).f3 (rd_T25 l119 i).f4 day
    dsimp only at hK h1
    obtain ⟨r1, r2⟩ := hr i h0 (by omega)
    have hgo : ∀ k, K ≤ k → cohousinglaw21_PointsParts.j2 (k + 1) day up n none_ 0 sum l18 l119 (l119.length : Int) i false a b c d = some true := fun k hk => by
      rw [cohousinglaw21_PointsParts.j2, if_neg (by decide), w64 (by omega) (by omega)]
      exact hK k hk
    refine evUp (K + K1 + 1) fun k hk => ?_
    obtain ⟨k, rfl⟩ : ∃ j, k = j + 1 := ⟨k - 1, by omega⟩
    rw [cohousinglaw21_PointsParts.l1, if_pos (by omega), if_pos h0, if_pos (by omega), h1 _ (by omega), Option.bind_some]
    by_cases e : (countOf 21 a b c d (rd_T25 l119 i).f0 (rd_T25 l119 i).f1 (rd_T25 l119 i).f2 (rd_T25 l119 i).f3 (rd_T25 l119 i).f4 day).2 = 0
    · rw [if_pos e, if_pos (by omega), if_pos (r1 e), hgo k (by omega)]
    · rw [if_neg e, wait_eq, Option.bind_some]
      by_cases v : validH (rd_T25 l119 i).f0 (rd_T25 l119 i).f1 (rd_T25 l119 i).f2 (rd_T25 l119 i).f3 (rd_T25 l119 i).f4 = true
      · rw [if_pos v, if_pos (by omega), decide_eq_false (r2 e v), hgo k (by omega)]
      · rw [if_neg v, hgo k (by omega)]
theorem PointsParts (a b c d h s n l p day : Int) : Ev (fun k => cohousinglaw21_PointsParts.f k a b c d h s n l p day) true := by
  obtain ⟨K0, h0⟩ := head_ev
  obtain ⟨K1, h1⟩ := count_ev a b c d h s n l p day
  obtain ⟨K2, h2⟩ := count_ev 0 0 0 0 h s n l p day
  dsimp only at h0 h1 h2
  by_cases e : (countOf 21 a b c d h s n l p day).2 = 0
  case neg =>
    refine evUp (K0 + K1 + K2) fun k hk => ?_
    show cohousinglaw21_PointsParts.f (k + 1) a b c d h s n l p day = _
    unfold cohousinglaw21_PointsParts.f
    rw [h0 _ (by omega), Option.bind_some, h1 _ (by omega), Option.bind_some, h2 _ (by omega), Option.bind_some, if_neg e, if_pos rfl]
    by_cases z : (countOf 21 0 0 0 0 h s n l p day).2 = 0
    · rw [if_pos z]
      obtain ⟨_, _, _, _, hc⟩ := countOf_ok (by decide) z
      rw [hc]
      simp [ptsOf]
    · rw [if_neg z]
  obtain ⟨⟨hw, hh⟩, hd, hs, hp, hc⟩ := countOf_ok (by decide) e
  have hw' := (validW_iff a b c d).1 hw
  have hh' := (validH_iff h s n l p).1 hh
  obtain ⟨q0, q1, q2, q3, q4⟩ := pts_bd hw hh hs hd.2
  have hpd : ptsOf a b c d s n l p day = monthsOf s day * a + n * b + l * c + p * d := rfl
  obtain ⟨o1, o2, o3, o4⟩ := pts_one a b c d s n l p day
  have hz : countOf 21 0 0 0 0 h s n l p day = (0, 0) := by
    rw [countOf_in (by rw [validW_iff]; omega) hh hd hs, if_neg (by simp [ptsOf])]
    simp [ptsOf]
  have g1 : countOf 21 a 0 0 0 h s n l p day = (monthsOf s day * a, 0) := by
    rw [countOf_in (by rw [validW_iff]; omega) hh hd hs, o1, if_neg (by omega)]
  have g2 : countOf 21 0 b 0 0 h s n l p day = (n * b, 0) := by
    rw [countOf_in (by rw [validW_iff]; omega) hh hd hs, o2, if_neg (by omega)]
  have g3 : countOf 21 0 0 c 0 h s n l p day = (l * c, 0) := by
    rw [countOf_in (by rw [validW_iff]; omega) hh hd hs, o3, if_neg (by omega)]
  have g4 : countOf 21 0 0 0 d h s n l p day = (p * d, 0) := by
    rw [countOf_in (by rw [validW_iff]; omega) hh hd hs, o4, if_neg (by omega)]
  obtain ⟨K3, h3⟩ := count_ev a 0 0 0 h s n l p day
  obtain ⟨K4, h4⟩ := count_ev 0 b 0 0 h s n l p day
  obtain ⟨K5, h5⟩ := count_ev 0 0 c 0 h s n l p day
  obtain ⟨K6, h6⟩ := count_ev 0 0 0 d h s n l p day
  dsimp only at h3 h4 h5 h6
  rw [g1] at h3
  rw [g2] at h4
  rw [g3] at h5
  rw [g4] at h6
  obtain ⟨K7, h7⟩ := parts_l1 a b c d h s (ptsOf a b c d s n l p day) l p day 0 (ptsOf a b c d s n l p day) [(⟨h, s, n + 1, l, p⟩ : S25), (⟨h, s, n, l + 1, p⟩ : S25), (⟨h, s, n, l, p + 1⟩ : S25)] [b, c, d] true rfl rfl (fun i i0 i1 => by
      have hi : i = 0 ∨ i = 1 ∨ i = 2 := by omega
      rcases hi with rfl | rfl | rfl
      · exact more_ok a b c d h s n l p day (x := n + 1) (y := l) (z := p) hw hh hd hs hp b (by omega) (by omega) (by unfold ptsOf; rw [Int.add_mul]; omega)
      · exact more_ok a b c d h s n l p day (x := n) (y := l + 1) (z := p) hw hh hd hs hp c (by omega) (by omega) (by unfold ptsOf; rw [Int.add_mul]; omega)
      · exact more_ok a b c d h s n l p day (x := n) (y := l) (z := p + 1) hw hh hd hs hp d (by omega) (by omega) (by unfold ptsOf; rw [Int.add_mul]; omega)) ⟨rfl, rfl, rfl⟩ 3 0 (by omega) (by omega)
  dsimp only at h7
  have w1 : wrap64 (0 + 1) = 1 := by unfold wrap64; omega
  have w2 : wrap64 (1 + 1) = 2 := by unfold wrap64; omega
  have w3 : wrap64 (2 + 1) = 3 := by unfold wrap64; omega
  have w4 : wrap64 (3 + 1) = 4 := by unfold wrap64; omega
  refine evUp (K0 + K1 + K2 + K3 + K4 + K5 + K6 + K7 + 6) fun k hk => ?_
  show cohousinglaw21_PointsParts.f (k + 1) a b c d h s n l p day = _
  unfold cohousinglaw21_PointsParts.f
  rw [h0 _ (by omega), Option.bind_some, h1 _ (by omega), Option.bind_some, h2 _ (by omega), Option.bind_some, if_pos e, Option.bind_some, hz, hc]
  obtain ⟨k, rfl⟩ : ∃ j, k = j + 4 := ⟨k - 4, by omega⟩
  dsimp only
  rw [cohousinglaw21_PointsParts.l0, if_pos (by simp), if_pos (by simp), if_pos (by simp)]
  have rd0 : rd_T23 [(⟨a, 0, 0, 0⟩ : S23), ⟨0, b, 0, 0⟩, ⟨0, 0, c, 0⟩, ⟨0, 0, 0, d⟩] 0 = ⟨a, 0, 0, 0⟩ := rfl
  have rd1 : rd_T23 [(⟨a, 0, 0, 0⟩ : S23), ⟨0, b, 0, 0⟩, ⟨0, 0, c, 0⟩, ⟨0, 0, 0, d⟩] 1 = ⟨0, b, 0, 0⟩ := rfl
  have rd2 : rd_T23 [(⟨a, 0, 0, 0⟩ : S23), ⟨0, b, 0, 0⟩, ⟨0, 0, c, 0⟩, ⟨0, 0, 0, d⟩] 2 = ⟨0, 0, c, 0⟩ := rfl
  have rd3 : rd_T23 [(⟨a, 0, 0, 0⟩ : S23), ⟨0, b, 0, 0⟩, ⟨0, 0, c, 0⟩, ⟨0, 0, 0, d⟩] 3 = ⟨0, 0, 0, d⟩ := rfl
  rw [rd0]
  dsimp only
  rw [h3 _ (by omega), Option.bind_some, if_pos rfl]
  dsimp only
  rw [if_pos rfl, w64 (by omega) (by omega), decide_eq_true (show monthsOf s day * a ≥ 0 by omega), w1]
  rw [cohousinglaw21_PointsParts.l0, if_pos (by simp), if_pos (by simp), if_pos (by simp), rd1]
  dsimp only
  rw [h4 _ (by omega), Option.bind_some, if_pos rfl]
  dsimp only
  rw [if_pos rfl, w64 (by omega) (by omega), decide_eq_true (show n * b ≥ 0 by omega), w2]
  rw [cohousinglaw21_PointsParts.l0, if_pos (by simp), if_pos (by simp), if_pos (by simp), rd2]
  dsimp only
  rw [h5 _ (by omega), Option.bind_some, if_pos rfl]
  dsimp only
  rw [if_pos rfl, w64 (by omega) (by omega), decide_eq_true (show l * c ≥ 0 by omega), w3]
  rw [cohousinglaw21_PointsParts.l0, if_pos (by simp), if_pos (by simp), if_pos (by simp), rd3]
  dsimp only
  rw [h6 _ (by omega), Option.bind_some, if_pos rfl]
  dsimp only
  rw [if_pos rfl, w64 (by omega) (by omega), decide_eq_true (show p * d ≥ 0 by omega), w4]
  rw [cohousinglaw21_PointsParts.l0, if_neg (by simp), Option.bind_some, if_pos (by simp), Option.bind_some, if_pos (by simp), Option.bind_some, if_pos (by simp)]
  have hS : (0 + monthsOf s day * a + n * b + l * c + p * d) = ptsOf a b c d s n l p day := by rw [hpd]; omega
  have W1 : wrap64 (n + 1) = n + 1 := w64 (by omega) (by omega)
  have W2 : wrap64 (l + 1) = l + 1 := w64 (by omega) (by omega)
  have W3 : wrap64 (p + 1) = p + 1 := w64 (by omega) (by omega)
  have hL : (((([(⟨h, s, n, l, p⟩ : S25), ⟨h, s, n, l, p⟩, ⟨h, s, n, l, p⟩] : List S25).set (0 : Int).toNat ⟨h, s, n + 1, l, p⟩).set (1 : Int).toNat ⟨h, s, n, l + 1, p⟩).set (2 : Int).toNat ⟨h, s, n, l, p + 1⟩) = [(⟨h, s, n + 1, l, p⟩ : S25), (⟨h, s, n, l + 1, p⟩ : S25), (⟨h, s, n, l, p + 1⟩ : S25)] := rfl
  have R1 : rd_T25 [(⟨h, s, n, l, p⟩ : S25), ⟨h, s, n, l, p⟩, ⟨h, s, n, l, p⟩] 0 = ⟨h, s, n, l, p⟩ := rfl
  have R2 : rd_T25 ([(⟨h, s, n, l, p⟩ : S25), ⟨h, s, n, l, p⟩, ⟨h, s, n, l, p⟩].set (0 : Int).toNat ⟨h, s, n + 1, l, p⟩) 1 = ⟨h, s, n, l, p⟩ := rfl
  have R3 : rd_T25 (([(⟨h, s, n, l, p⟩ : S25), ⟨h, s, n, l, p⟩, ⟨h, s, n, l, p⟩].set (0 : Int).toNat ⟨h, s, n + 1, l, p⟩).set (1 : Int).toNat ⟨h, s, n, l + 1, p⟩) 2 = ⟨h, s, n, l, p⟩ := rfl
  rw [R1]
  dsimp only
  rw [W1, R2]
  dsimp only
  rw [W2, R3]
  dsimp only
  rw [W3, hS]
  exact h7 _ (by omega)
end Go.Proofs.YtfhmbfadbfnnaaaDoor.Pure
