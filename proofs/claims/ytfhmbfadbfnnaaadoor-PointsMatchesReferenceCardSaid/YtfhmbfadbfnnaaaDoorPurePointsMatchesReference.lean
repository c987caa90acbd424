/- For any weights, households, day and lots, both functions return what the reference implementation returns (up to 70 households). Conditions: none. -/
import Derived.Test.YtfhmbfadbfnnaaaDoorPtE
import Derived.Test.YtfhmbfadbfnnaaaDoorPx12
namespace Go.Proofs.YtfhmbfadbfnnaaaDoor.Pure
open Go.RowKit Go.Proofs.YtfhmbfadbfnnaaaDoorW.PrintWords Go.Proofs.YtfhmbfadbfnnaaaDoor.Given Go.Proofs.YtfhmbfadbfnnaaaDoor.Px Go.Proofs.YtfhmbfadbfnnaaaDoor.Cal Go.Proofs.YtfhmbfadbfnnaaaDoor.Pts
set_option linter.unusedVariables false
set_option linter.unusedSimpArgs false
theorem res_len {a b c d : Int} {l : List S25} {day : Int} {lots : List Int} {r : List Int × Int} (h : OrderRes a b c d l day lots r) : r.1.length ≤ l.length := by
  by_cases g : validW a b c d = true ∧ l.length ≤ 64 ∧ GoodL l lots
  · by_cases e : errs (cntF a b c d day) l = 0
    · have := (h.ord g e).2.length
      omega
    · rw [h.err g e]; simp
  · rw [h.bad g]; simp
theorem PointsMatchesReference (a b c d h s n l p : Int) (ls : List S25) (day : Int) (lots : List Int) : Ev (fun k => cohousinglaw21_PointsMatchesReference.f k a b c d h s n l p ls day lots) true := by
  obtain ⟨K0, h0⟩ := head_ev
  dsimp only at h0
  have hend : ∀ k, cohousinglaw21_PointsMatchesReference.j0 (k + 1) ls day lots true true a b c d h s n l p = some true := fun k => by rw [cohousinglaw21_PointsMatchesReference.j0, if_pos rfl]
  by_cases c1 : (ls.length : Int) > 70
  · refine evUp K0 fun k hk => ?_
    show cohousinglaw21_PointsMatchesReference.f (k + 1) a b c d h s n l p ls day lots = _
    unfold cohousinglaw21_PointsMatchesReference.f
    rw [h0 _ (by omega), Option.bind_some, if_pos c1, hend]
  by_cases c2 : (lots.length : Int) > 70
  · refine evUp K0 fun k hk => ?_
    show cohousinglaw21_PointsMatchesReference.f (k + 1) a b c d h s n l p ls day lots = _
    unfold cohousinglaw21_PointsMatchesReference.f
    rw [h0 _ (by omega), Option.bind_some, if_neg c1, decide_eq_true c2, hend]
  obtain ⟨K1, h1⟩ := count_ev a b c d h s n l p day
  obtain ⟨K2, h2⟩ := rcount_ev a b c d h s n l p day
  obtain ⟨r, ⟨K3, h3⟩, hr⟩ := order_ev a b c d ls day lots (by omega) (by omega)
  obtain ⟨r2, ⟨K4, h4⟩, hr2⟩ := rorder_ev a b c d ls day lots (by omega) (by omega)
  obtain rfl := hr.unique hr2
  have := res_len hr
  obtain ⟨q, ⟨K5, h5⟩, hq⟩ := same_ev r.1 r.1 (by omega)
  obtain rfl := hq.2 rfl
  dsimp only at h1 h2 h3 h4 h5
  refine evUp (K0 + K1 + K2 + K3 + K4 + K5 + 2) fun k hk => ?_
  obtain ⟨k, rfl⟩ : ∃ j, k = j + 1 := ⟨k - 1, by omega⟩
  show cohousinglaw21_PointsMatchesReference.f (k + 1 + 1) a b c d h s n l p ls day lots = _
  unfold cohousinglaw21_PointsMatchesReference.f
  rw [h0 _ (by omega), Option.bind_some, if_neg c1, decide_eq_false c2, cohousinglaw21_PointsMatchesReference.j0, if_neg (by decide), h1 _ (by omega), Option.bind_some, h2 _ (by omega), Option.bind_some, if_pos rfl, if_pos rfl, beq_self_eq_true,
    cohousinglaw21_PointsMatchesReference.j1, h3 _ (by omega), Option.bind_some, h4 _ (by omega), Option.bind_some, if_pos rfl, h5 _ (by omega), Option.bind_some, if_pos rfl, beq_self_eq_true]
end Go.Proofs.YtfhmbfadbfnnaaaDoor.Pure
