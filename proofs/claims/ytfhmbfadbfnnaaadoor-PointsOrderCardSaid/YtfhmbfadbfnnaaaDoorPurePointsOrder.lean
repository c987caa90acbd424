/- For all weights, households, days and lots that can be ordered: the order has every index once; of two neighbours the first one has more points, or as many and an earlier lot (up to 64 households). Conditions: none. -/
import Derived.Test.YtfhmbfadbfnnaaaDoorPtF
import Derived.Test.YtfhmbfadbfnnaaaDoorPx15
namespace Go.Proofs.YtfhmbfadbfnnaaaDoor.Pure
open Go.RowKit Go.Proofs.YtfhmbfadbfnnaaaDoorW.PrintWords Go.Proofs.YtfhmbfadbfnnaaaDoor.Given Go.Proofs.YtfhmbfadbfnnaaaDoor.Px Go.Proofs.YtfhmbfadbfnnaaaDoor.Cal Go.Proofs.YtfhmbfadbfnnaaaDoor.Pts
set_option linter.unusedVariables false
set_option linter.unusedSimpArgs false
theorem order_loop (l : List S25) (lots pts out : List Int) (hl : l.length ≤ 64) (hL : LotsOk lots l.length) (hp : pts.length = l.length) (h : IsOrd pts lots l.length out) : ∀ (n : Nat) (i : Int) (M : List (Int × Bool)), 0 ≤ i → i + n = out.length → Has M (rd out) i →
    Ev (fun k => cohousinglaw21_PointsOrder.l0 k l lots true pts out out (out.length : Int) i M) true := by
  have hlen := h.length
  have hnd := h.nodup
  have hln := lots_nodup hL
  have hlL := hL.1
  intro n
  induction n with
  | zero =>
    intro i M i0 hi hM
    exact evUp 0 fun k _ => by rw [cohousinglaw21_PointsOrder.l0, if_neg (by omega)]
  | succ n ih =>
    intro i M i0 hi hM
    obtain ⟨K, hK⟩ := ih (i + 1) (mput M (rd out i) true) (by omega) (by omega) (hM.succ i0)
    dsimp only at hK
    have hr := h.mem.1 (Pts.rd_mem i0 (by omega : i < out.length))
    have hno : ¬ mgetB M (rd out i) = true := fun q => by
      obtain ⟨j, j0, j1, e⟩ := (hM _).1 q
      exact nodup_apart.1 hnd j i j0 j1 (by omega) e
    have hno' : mgetB M (rd out i) = false := by rwa [Bool.not_eq_true] at hno
    have hgo : ∀ k, K ≤ k → cohousinglaw21_PointsOrder.j3 (k + 1) l lots true pts out out (out.length : Int) i false (mput M (rd out i) true) = some true := fun k hk => by
      rw [cohousinglaw21_PointsOrder.j3, if_neg (by decide), w64 (by omega) (by omega)]
      exact hK k hk
    have hstep : ∀ k, cohousinglaw21_PointsOrder.l0 (k + 2) l lots true pts out out (out.length : Int) i M = (if i = 0 then cohousinglaw21_PointsOrder.l0 k l lots true pts out out (out.length : Int) (i + 1) (mput M (rd out i) true) else cohousinglaw21_PointsOrder.j2 (k + 1) l lots true pts out i (rd out i) out (out.length : Int) i false M) := fun k => by
      rw [cohousinglaw21_PointsOrder.l0, if_pos (by omega), if_pos i0, if_pos (by omega), if_neg (by omega), if_neg (by omega), hno']
      by_cases c : i = 0
      · rw [if_pos c, cohousinglaw21_PointsOrder.j2, if_neg (by decide), if_pos c, w64 (by omega) (by omega)]
      · rw [if_neg c]
    by_cases c : i = 0
    · refine evUp (K + 1) fun k hk => ?_
      obtain ⟨k, rfl⟩ : ∃ j, k = j + 1 := ⟨k - 1, by omega⟩
      rw [hstep, if_pos c]
      exact hK k (by omega)
    · have hb := h.at (i := i - 1) (j := i) (by omega) (by omega) (by omega)
      have hj := h.mem.1 (Pts.rd_mem (l := out) (i := i - 1) (by omega) (by omega))
      have hw : wrap64 (i - 1) = i - 1 := w64 (by omega) (by omega)
      have hm1 : rd out (i - 1) + 1 ∈ lots := hL.2 _ (by omega) (by omega)
      have hm2 : rd out i + 1 ∈ lots := hL.2 _ (by omega) (by omega)
      obtain ⟨K1, h1⟩ := at_ev lots _ hln (by omega) hm1
      obtain ⟨K2, h2⟩ := at_ev lots _ hln (by omega) hm2
      dsimp only at h1 h2
      have w1 : wrap64 (rd out (i - 1) + 1) = rd out (i - 1) + 1 := w64 (by omega) (by omega)
      have w2 : wrap64 (rd out i + 1) = rd out i + 1 := w64 (by omega) (by omega)
      refine evUp (K + K1 + K2 + 2) fun k hk => ?_
      obtain ⟨k, rfl⟩ : ∃ j, k = j + 2 := ⟨k - 2, by omega⟩
      rw [show k + 2 + 1 = (k + 1) + 2 by omega, hstep, if_neg c, cohousinglaw21_PointsOrder.j2, if_neg (by decide), if_neg c, hw, if_pos (by omega), if_pos (by omega), if_pos (by omega), if_pos (by omega), if_pos (by omega), if_pos (by omega)]
      unfold bef lotI at hb
      rw [if_neg (by omega)]
      by_cases e : rd pts (rd out (i - 1)) = rd pts (rd out i)
      · rw [if_pos e, w1, h1 _ (by omega), Option.bind_some, w2, h2 _ (by omega), Option.bind_some, decide_eq_false (by omega), hgo k (by omega)]
      · rw [if_neg e, hgo k (by omega)]
theorem PointsOrder (a b c d : Int) (l : List S25) (day : Int) (lots : List Int) : Ev (fun k => cohousinglaw21_PointsOrder.f k a b c d l day lots) true := by
  obtain ⟨K0, h0⟩ := head_ev
  obtain ⟨u, ⟨K1, h1⟩, hu, hu2⟩ := usable_ev a b c d l day lots (.inr trivial)
  dsimp only at h0 h1
  by_cases hU : u.2 = true
  case neg =>
    refine evUp (K0 + K1) fun k hk => ?_
    show cohousinglaw21_PointsOrder.f (k + 1) a b c d l day lots = _
    unfold cohousinglaw21_PointsOrder.f
    rw [h0 _ (by omega), Option.bind_some, h1 _ (by omega), Option.bind_some, if_neg hU]
  have hg := hu.1 hU
  have hlen := hg.len
  have hlots := hg.good.lots.1
  obtain ⟨r, ⟨K2, h2⟩, hr⟩ := order_ev a b c d l day lots (by omega) (by omega)
  dsimp only at h2
  obtain ⟨hr0, hord⟩ := hg.order hr
  obtain ⟨K3, h3⟩ := order_loop l lots u.1 r.1 hlen hg.good.lots (by rw [hu2 hU, ptsL_length]) (by rw [hu2 hU]; exact hord) r.1.length 0 [] (by omega) (by omega) (Has.zero _)
  dsimp only at h3
  have hol := hord.length
  refine evUp (K0 + K1 + K2 + K3 + 1) fun k hk => ?_
  show cohousinglaw21_PointsOrder.f (k + 1) a b c d l day lots = _
  unfold cohousinglaw21_PointsOrder.f
  rw [h0 _ (by omega), Option.bind_some, h1 _ (by omega), Option.bind_some, if_pos hU, h2 _ (by omega), Option.bind_some, if_pos hr0, cohousinglaw21_PointsOrder.j0, if_neg (by rw [hol]; simp)]
  exact h3 k (by omega)
end Go.Proofs.YtfhmbfadbfnnaaaDoor.Pure
