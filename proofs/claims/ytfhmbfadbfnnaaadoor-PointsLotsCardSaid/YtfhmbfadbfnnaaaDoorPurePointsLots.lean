/- For all households that can be ordered with two kinds of lots: the points along both orders are the same (up to 64 households). Conditions: none. -/
import Derived.Test.YtfhmbfadbfnnaaaDoorPtF
import Derived.Test.YtfhmbfadbfnnaaaDoorPx18
namespace Go.Proofs.YtfhmbfadbfnnaaaDoor.Pure
open Go.RowKit Go.Proofs.YtfhmbfadbfnnaaaDoorW.PrintWords Go.Proofs.YtfhmbfadbfnnaaaDoor.Given Go.Proofs.YtfhmbfadbfnnaaaDoor.Px Go.Proofs.YtfhmbfadbfnnaaaDoor.Cal Go.Proofs.YtfhmbfadbfnnaaaDoor.Pts
set_option linter.unusedVariables false
set_option linter.unusedSimpArgs false
theorem along {pts lots other x y : List Int} {n : Nat} (h : IsOrd pts lots n x) (k : IsOrd pts other n y) : x.map (rd pts) = y.map (rd pts) := by
  refine List.Perm.eq_of_pairwise (le := fun a b => b ≤ a) (fun a b _ _ h1 h2 => by omega) ?_ ?_ ((h.perm.trans k.perm.symm).map _)
  · rw [List.pairwise_map]
    exact h.pair.imp (fun hb => by unfold bef at hb; omega)
  · rw [List.pairwise_map]
    exact k.pair.imp (fun hb => by unfold bef at hb; omega)
theorem lots_loop (pts x y : List Int) (n : Nat) (hp : pts.length = n) (hn : n ≤ 64) (hx : x.length = n) (hy : y.length = n) (rx : ∀ i ∈ x, 0 ≤ i ∧ i < n) (ry : ∀ i ∈ y, 0 ≤ i ∧ i < n) (he : x.map (rd pts) = y.map (rd pts)) : ∀ (m : Nat) (i : Int), 0 ≤ i → i + m = x.length →
    Ev (fun k => cohousinglaw21_PointsLots.l0 k true pts x y (x.length : Int) i) true := by
  intro m
  induction m with
  | zero =>
    intro i i0 hi
    exact evUp 0 fun k _ => by rw [cohousinglaw21_PointsLots.l0, if_neg (by omega)]
  | succ m ih =>
    intro i i0 hi
    obtain ⟨K, hK⟩ := ih (i + 1) (by omega) (by omega)
    dsimp only at hK
    have a1 := rx _ (Pts.rd_mem i0 (by omega : i < x.length))
    have a2 := ry _ (Pts.rd_mem i0 (by omega : i < y.length))
    have e : rd pts (rd x i) = rd pts (rd y i) := by
      have b1 := rd_map (rd pts) x i i0 (by omega)
      have b2 := rd_map (rd pts) y i i0 (by omega)
      have c1 := rd_nat x i.toNat (by omega)
      have c2 := rd_nat y i.toNat (by omega)
      rw [show ((i.toNat : Nat) : Int) = i by omega] at c1 c2
      rw [← c1] at b1
      rw [← c2] at b2
      rw [← b1, ← b2, he]
    refine evUp (K + 1) fun k hk => ?_
    obtain ⟨k, rfl⟩ : ∃ j, k = j + 1 := ⟨k - 1, by omega⟩
    rw [cohousinglaw21_PointsLots.l0, if_pos (by omega), if_pos i0, if_pos (by omega), if_neg (by omega), if_neg (by omega), if_pos (by omega), if_neg (by omega), if_neg (by omega), if_pos (by omega), if_pos (by omega), if_pos (by omega), if_pos (by omega), e, bne_self_eq_false,
      cohousinglaw21_PointsLots.j3, if_neg (by decide), w64 (by omega) (by omega)]
    exact hK k (by omega)
theorem PointsLots (a b c d : Int) (l : List S25) (day : Int) (lots other : List Int) : Ev (fun k => cohousinglaw21_PointsLots.f k a b c d l day lots other) true := by
  obtain ⟨K0, h0⟩ := head_ev
  obtain ⟨u, ⟨K1, h1⟩, hu, hu2⟩ := usable_ev a b c d l day lots (.inr trivial)
  dsimp only at h0 h1
  have hend : ∀ k x12, cohousinglaw21_PointsLots.j0 (k + 1) l day lots other true x12 true a b c d = some true := fun k x12 => by rw [cohousinglaw21_PointsLots.j0, if_pos rfl]
  by_cases hU : u.2 = true
  case neg =>
    refine evUp (K0 + K1) fun k hk => ?_
    show cohousinglaw21_PointsLots.f (k + 1) a b c d l day lots other = _
    unfold cohousinglaw21_PointsLots.f
    rw [h0 _ (by omega), Option.bind_some, h1 _ (by omega), Option.bind_some, if_neg hU, hend]
  have hg := hu.1 hU
  have hlen := hg.len
  have hlots := hg.good.lots.1
  by_cases hol : other.length = l.length
  case neg =>
    refine evUp (K0 + K1) fun k hk => ?_
    show cohousinglaw21_PointsLots.f (k + 1) a b c d l day lots other = _
    unfold cohousinglaw21_PointsLots.f cohousingref21_Lots.f
    rw [h0 _ (by omega), Option.bind_some, h1 _ (by omega), Option.bind_some, if_pos hU, if_neg (by omega), Option.bind_some]
    exact hend k _
  obtain ⟨q, ⟨K2, h2⟩, hq⟩ := lots_ev other l.length (by omega) (by omega)
  dsimp only at h2
  cases q with
  | false =>
    refine evUp (K0 + K1 + K2) fun k hk => ?_
    show cohousinglaw21_PointsLots.f (k + 1) a b c d l day lots other = _
    unfold cohousinglaw21_PointsLots.f
    rw [h0 _ (by omega), Option.bind_some, h1 _ (by omega), Option.bind_some, if_pos hU, h2 _ (by omega), Option.bind_some]
    exact hend k _
  | true =>
    have hU2 : Usable a b c d l day other := ⟨hg.w, hg.len, ⟨hg.good.val, hg.good.apart, hq.1 rfl⟩, hg.err⟩
    obtain ⟨r, ⟨K3, h3⟩, hr⟩ := order_ev a b c d l day lots (by omega) (by omega)
    obtain ⟨r2, ⟨K4, h4⟩, hr2⟩ := order_ev a b c d l day other (by omega) (by omega)
    dsimp only at h3 h4
    obtain ⟨e1, o1⟩ := hg.order hr
    obtain ⟨e2, o2⟩ := hU2.order hr2
    have l1 := o1.length
    have l2 := o2.length
    have hpt := hu2 hU
    obtain ⟨K5, h5⟩ := lots_loop u.1 r.1 r2.1 l.length (by rw [hpt, ptsL_length]) hlen l1 l2 (fun i hi => o1.mem.1 hi) (fun i hi => o2.mem.1 hi) (by rw [hpt]; exact along o1 o2) r.1.length 0 (by omega) (by omega)
    dsimp only at h5
    refine evUp (K0 + K1 + K2 + K3 + K4 + K5 + 2) fun k hk => ?_
    obtain ⟨k, rfl⟩ : ∃ j, k = j + 1 := ⟨k - 1, by omega⟩
    show cohousinglaw21_PointsLots.f (k + 1 + 1) a b c d l day lots other = _
    unfold cohousinglaw21_PointsLots.f
    rw [h0 _ (by omega), Option.bind_some, h1 _ (by omega), Option.bind_some, if_pos hU, h2 _ (by omega), Option.bind_some, cohousinglaw21_PointsLots.j0, if_neg (by decide), h3 _ (by omega), Option.bind_some, h4 _ (by omega), Option.bind_some, if_pos e1, if_pos e2,
      cohousinglaw21_PointsLots.j1, if_neg (by rw [l1, l2]; simp)]
    exact h5 k (by omega)
end Go.Proofs.YtfhmbfadbfnnaaaDoor.Pure
