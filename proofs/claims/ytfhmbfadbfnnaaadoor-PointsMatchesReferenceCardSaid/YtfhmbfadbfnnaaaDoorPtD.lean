/- What the program's Order returns. Conditions: as each theorem states. -/
import Derived.Test.YtfhmbfadbfnnaaaDoorPtC
namespace Go.Proofs.YtfhmbfadbfnnaaaDoor.Pts
open Go.RowKit Go.Proofs.YtfhmbfadbfnnaaaDoorW.PrintWords Go.Proofs.YtfhmbfadbfnnaaaDoor.Given Go.Proofs.YtfhmbfadbfnnaaaDoor.Cal Go.Proofs.YtfhmbfadbfnnaaaDoor.Px
set_option linter.unusedVariables false
set_option linter.unusedSimpArgs false
set_option linter.unusedSectionVars false
theorem errs_at {cnt : S25 → Int × Int} : ∀ (l : List S25) (i : Nat) (hi : i < l.length), (∀ j (hj : j < i), (cnt (l[j]'(by omega))).2 = 0) → (cnt l[i]).2 ≠ 0 → errs cnt l = (cnt l[i]).2
  | [], i, hi, _, _ => by simp at hi
  | x :: t, 0, hi, _, h => by
    unfold errs
    rw [if_neg (by simpa using h)]
    rfl
  | x :: t, i + 1, hi, hb, h => by
    unfold errs
    have h0 := hb 0 (by omega)
    rw [if_pos (by simpa using h0)]
    have := errs_at t i (by simpa using hi) (fun j hj => by
      have := hb (j + 1) (by omega)
      simpa using this) (by simpa using h)
    rw [this]
    rfl
theorem errs_first {cnt : S25 → Int × Int} {l : List S25} {i : Int} (h0 : 0 ≤ i) (h1 : i < l.length) (hb : ∀ j : Int, 0 ≤ j → j < i → (cnt (rd_T25 l j)).2 = 0) (h : (cnt (rd_T25 l i)).2 ≠ 0) : errs cnt l = (cnt (rd_T25 l i)).2 := by
  have e := rd25_nat l i.toNat (by omega)
  rw [show ((i.toNat : Nat) : Int) = i by omega] at e
  rw [e] at h ⊢
  refine errs_at l i.toNat (by omega) (fun j hj => ?_) h
  have := hb (j : Int) (by omega) (by omega)
  rw [rd25_nat l j (by omega)] at this
  exact this
/-! ### The sort -/
def full (pts lots : List Int) (l : List S25) (j : Int) : S63 := ⟨⟨rd_T25 l j⟩, j, rd pts j, lotI lots j⟩
theorem lotI_inj {lots : List Int} {n : Nat} (h : LotsOk lots n) {i j : Int} (i0 : 0 ≤ i) (i1 : i < n) (j0 : 0 ≤ j) (j1 : j < n) (e : lotI lots i = lotI lots j) : i = j := by
  obtain ⟨_, _, a⟩ := idx_in (h.2 (i + 1) (by omega) (by omega))
  obtain ⟨_, _, b⟩ := idx_in (h.2 (j + 1) (by omega) (by omega))
  unfold lotI at e
  rw [e, b] at a
  omega
theorem apart_of : ∀ {P : List S63}, (P.map (fun x => x.f3)).Nodup → apartBy cfS P = true
  | [], _ => rfl
  | x :: t, h => by
    simp only [List.map_cons] at h
    obtain ⟨h1, h2⟩ := List.nodup_cons.1 h
    unfold apartBy
    rw [apart_of h2, Bool.and_true, List.all_eq_true]
    intro y hy
    rw [bne_iff_ne]
    intro e
    have a := (cfS_le x y).1 (by omega)
    have b := cfS_lt x y
    have c : x.f3 = y.f3 := by
      have d := (cfS_lt x y).2
      omega
    exact h1 (List.mem_map.2 ⟨y, hy, c.symm⟩)
theorem full_map (pts lots : List Int) (l : List S25) : ((upI l.length).map (full pts lots l)).map (fun x => x.f1) = upI l.length := by
  rw [List.map_map]
  exact List.map_id' _
theorem sorted_ord {pts lots : List Int} {l : List S25} (h : LotsOk lots l.length) :
    apartBy cfS ((upI l.length).map (full pts lots l)) = true ∧ IsOrd pts lots l.length ((sortBy cfS ((upI l.length).map (full pts lots l))).map (fun x => x.f1)) := by
  have hnd : (((upI l.length).map (full pts lots l)).map (fun x => x.f3)).Nodup := by
    rw [List.map_map, List.nodup_iff_pairwise_ne, List.pairwise_map]
    refine (List.nodup_iff_pairwise_ne.1 (upI_nodup l.length)).imp_of_mem ?_
    intro a b ha hb hne e
    have a1 := mem_upI.1 ha
    have b1 := mem_upI.1 hb
    exact hne (lotI_inj h a1.1 a1.2 b1.1 b1.2 e)
  have hp := sortBy_perm cfS ((upI l.length).map (full pts lots l))
  refine ⟨apart_of hnd, ?_, ?_⟩
  · have := hp.map (fun x => x.f1)
    rw [full_map] at this
    exact this
  · rw [List.pairwise_map]
    have hnd2 : ((sortBy cfS ((upI l.length).map (full pts lots l))).map (fun x => x.f3)).Nodup := (hp.map (fun x => x.f3)).nodup_iff.2 hnd
    rw [List.nodup_iff_pairwise_ne, List.pairwise_map] at hnd2
    have hs := sortBy_sorted compS ((upI l.length).map (full pts lots l))
    refine (hs.and hnd2).imp_of_mem ?_
    intro a b ha hb hab
    obtain ⟨i, _, rfl⟩ := List.mem_map.1 (hp.subset ha)
    obtain ⟨j, _, rfl⟩ := List.mem_map.1 (hp.subset hb)
    have h1 := (cfS_le _ _).1 hab.1
    have h2 := hab.2
    unfold bef
    simp only [full] at h1 h2 ⊢
    omega
/-! ### The loops -/
section
variable (a b c d : Int) (l : List S25) (day : Int) (lots : List Int) (hl : l.length ≤ 64) (hL : lots.length ≤ 100000) (hw : validW a b c d = true) (hg : GoodL l lots)
include hl hL hw hg
theorem order_l1 (q : List S63) (hq : q.length = l.length) : ∀ (n : Nat) (i : Int) (x : List Int), 0 ≤ i → i + n = l.length → x.length = l.length → (∀ j : Int, 0 ≤ j → j < i → rd x j = (rd_T63 q j).f1) →
    Ev (fun k => points_Order.l1 k x q (q.length : Int) i) (q.map (fun x => x.f1), 0) := by
  intro n
  induction n with
  | zero =>
    intro i x i0 hi hx hj
    refine evUp 0 fun k _ => ?_
    rw [points_Order.l1, if_neg (by omega)]
    congr 2
    refine ext_rd (by simp [hx, hq]) (fun j j0 j1 => ?_)
    rw [hj j j0 (by omega), rd_map _ _ _ j0 (by omega)]
    have := rd63_nat q j.toNat (by omega)
    rw [show ((j.toNat : Nat) : Int) = j by omega] at this
    rw [this]
  | succ n ih =>
    intro i x i0 hi hx hj
    obtain ⟨K, hK⟩ := ih (i + 1) (x.set i.toNat (rd_T63 q i).f1) (by omega) (by omega) (by rw [List.length_set]; exact hx) (fun j j0 j1 => by
      rw [rd_set i0 j0 (by omega)]
      by_cases c : j = i
      · rw [if_pos c, c]
      · rw [if_neg c]; exact hj j j0 (by omega))
    dsimp only at hK
    refine evUp K fun k hk => ?_
    rw [points_Order.l1, if_pos (by omega), if_pos i0, if_pos (by omega), if_pos (by omega), w64 (by omega) (by omega)]
    exact hK k hk
theorem order_l0 : ∀ (n : Nat) (i : Int) (x : List S63), 0 ≤ i → i + n = l.length → x.length = l.length → (∀ j : Int, 0 ≤ j → j < i → (cntF a b c d day (rd_T25 l j)).2 = 0) →
    (∀ j : Int, 0 ≤ j → j < l.length → rd_T63 x j = ⟨⟨rd_T25 l j⟩, j, if j < i then (cntF a b c d day (rd_T25 l j)).1 else 0, lotI lots j⟩) →
    ∃ r, Ev (fun k => points_Order.l0 k day x (l.length : Int) i a b c d) r ∧ OrderRes a b c d l day lots r := by
  intro n
  induction n with
  | zero =>
    intro i x i0 hi hx he hj
    have hie : i = l.length := by omega
    have he0 : errs (cntF a b c d day) l = 0 := errs_ok.2 fun y hy => by
      obtain ⟨j, j0, j1, rfl⟩ := mem_rd25 hy
      exact he j j0 (by omega)
    have hxe : x = (upI l.length).map (full (l.map (fun x => (cntF a b c d day x).1)) lots l) := by
      refine ext63 (by simp [hx, upI_length]) (fun j j0 j1 => ?_)
      rw [hx] at j1
      rw [hj j j0 j1, rd_upmap (α := Int) _ j0 j1, if_pos (by omega)]
      unfold full
      rw [rd_mapS _ l j0 j1]
    obtain ⟨h1, h2⟩ := sorted_ord (pts := l.map (fun x => (cntF a b c d day x).1)) (l := l) hg.lots
    rw [← hxe] at h1 h2
    have hlen : (sortBy cfS x).length = l.length := by rw [sortBy_length, hx]
    obtain ⟨K, hK⟩ := order_l1 a b c d l lots hl hL hw hg (sortBy cfS x) hlen l.length 0 (List.replicate ((x.length : Int) : Int).toNat 0) (by omega) (by omega) (by simp [hx]) (fun j j0 j1 => by omega)
    dsimp only at hK
    refine ⟨((sortBy cfS x).map (fun x => x.f1), 0), evUp K fun k hk => ?_, ⟨fun hb => absurd ⟨hw, hl, hg⟩ hb, fun _ hne => absurd he0 hne, fun _ _ => ⟨rfl, h2⟩⟩⟩
    rw [points_Order.l0, if_neg (by omega)]
    unfold points_place_29__points_Order_1.f
    rw [if_pos (by rw [h1, Bool.true_and, decide_eq_true_eq]; omega), Option.bind_some, if_pos (by omega), if_pos (by omega)]
    have := hK k hk
    rw [hlen] at this
    rw [hx] at this ⊢
    exact this
  | succ n ih =>
    intro i x i0 hi hx he hj
    have hxi := hj i i0 (by omega)
    rw [if_neg (by omega)] at hxi
    have hv := hg.val _ (rd25_mem i0 (by omega : i < l.length))
    obtain ⟨K1, h1⟩ := hcount_ev (day := day) hw hv
    dsimp only at h1
    have hstep : ∀ k, K1 ≤ k → points_Order.l0 (k + 1) day x (l.length : Int) i a b c d = (if (cntF a b c d day (rd_T25 l i)).2 = 0 then (points_Order.l0 k day (x.set i.toNat (⟨⟨rd_T25 l i⟩, i, (cntF a b c d day (rd_T25 l i)).1, lotI lots i⟩ : S63)) (l.length : Int) (i + 1) a b c d) else some ([], (cntF a b c d day (rd_T25 l i)).2)) := fun k hk => by
      rw [points_Order.l0, if_pos (by omega), if_pos i0, if_pos (by omega), hxi]
      dsimp only
      rw [h1 k hk, Option.bind_some, w64 (by omega) (by omega)]
      rfl
    by_cases c1 : (cntF a b c d day (rd_T25 l i)).2 = 0
    · obtain ⟨r, ⟨K, hK⟩, hr⟩ := ih (i + 1) (x.set i.toNat (⟨⟨rd_T25 l i⟩, i, (cntF a b c d day (rd_T25 l i)).1, lotI lots i⟩ : S63)) (by omega) (by omega) (by rw [List.length_set]; exact hx) (fun j j0 j1 => by
          by_cases e : j = i
          · rw [e]; exact c1
          · exact he j j0 (by omega)) (fun j j0 j1 => by
          rw [rd63_set i0 j0 (by omega)]
          by_cases e : j = i
          · rw [if_pos e, e, if_pos (by omega)]
          · rw [if_neg e, hj j j0 j1]
            by_cases f : j < i
            · rw [if_pos f, if_pos (by omega)]
            · rw [if_neg f, if_neg (by omega)])
      dsimp only at hK
      exact ⟨r, evUp (K + K1) fun k hk => by rw [hstep k (by omega), if_pos c1]; exact hK k (by omega), hr⟩
    · have hf := errs_first (cnt := cntF a b c d day) i0 (by omega : i < l.length) he c1
      refine ⟨([], (cntF a b c d day (rd_T25 l i)).2), evUp K1 fun k hk => by rw [hstep k hk, if_neg c1], ⟨fun hb => absurd ⟨hw, hl, hg⟩ hb, fun _ _ => by rw [hf], fun _ h0 => absurd (hf ▸ h0) c1⟩⟩
end
theorem order_ev (a b c d : Int) (l : List S25) (day : Int) (lots : List Int) (hl : l.length ≤ 100000) (hL : lots.length ≤ 100000) : ∃ r, Ev (fun k => points_Order.f k a b c d l day lots) r ∧ OrderRes a b c d l day lots r := by
  obtain ⟨K0, h0⟩ := weights_ev a b c d
  dsimp only at h0
  have hbad : ∀ k, points_Order.j0 (k + 1) l day lots true a b c d = some ([], 1) := fun k => by rw [points_Order.j0, if_pos rfl]
  have res : ¬ (validW a b c d = true ∧ l.length ≤ 64 ∧ GoodL l lots) → OrderRes a b c d l day lots ([], 1) := fun h => ⟨fun _ => rfl, fun g => absurd g h, fun g => absurd g h⟩
  by_cases hw : validW a b c d = true
  case neg =>
    refine ⟨([], 1), evUp (K0 + 1) fun k hk => ?_, res (fun h => hw h.1)⟩
    show points_Order.f (k + 1) a b c d l day lots = _
    unfold points_Order.f
    rw [h0 _ (by omega), Option.bind_some, if_neg hw, hbad]
  by_cases h64 : (l.length : Int) > 64
  · refine ⟨([], 1), evUp (K0 + 1) fun k hk => ?_, res (fun h => by omega)⟩
    show points_Order.f (k + 1) a b c d l day lots = _
    unfold points_Order.f
    rw [h0 _ (by omega), Option.bind_some, if_pos hw, decide_eq_true h64, hbad]
  obtain ⟨p, ⟨K1, h1⟩, hp, hp2⟩ := places_ev l lots hl hL
  dsimp only at h1
  have hgo : ∀ k, K0 + K1 ≤ k → points_Order.f (k + 1) a b c d l day lots = (if p.2 = true then (points_Order.l0 k day p.1 (p.1.length : Int) 0 a b c d) else some ([], 1)) := fun k hk => by
    unfold points_Order.f
    rw [h0 _ (by omega), Option.bind_some, if_pos hw, decide_eq_false h64, points_Order.j0, if_neg (by decide), h1 _ (by omega), Option.bind_some]
  by_cases hg : GoodL l lots
  · have hpt := hp.2 hg
    have hpl := hp2 hpt
    have hlen : p.1.length = l.length := by rw [hpl]; simp [placeList, upI_length]
    obtain ⟨r, ⟨K2, h2⟩, hr⟩ := order_l0 a b c d l day lots (by omega) hL hw hg l.length 0 p.1 (by omega) (by omega) hlen (fun j j0 j1 => by omega) (fun j j0 j1 => by
      rw [if_neg (by omega), hpl]
      unfold placeList
      rw [rd_upmap (α := Int) _ j0 j1]
      rfl)
    dsimp only at h2
    refine ⟨r, evUp (K0 + K1 + K2) fun k hk => ?_, hr⟩
    rw [hgo k (by omega), if_pos hpt, hlen]
    exact h2 k (by omega)
  · refine ⟨([], 1), evUp (K0 + K1) fun k hk => ?_, res (fun h => hg h.2.2)⟩
    rw [hgo k hk, if_neg (fun h => hg (hp.1 h))]
end Go.Proofs.YtfhmbfadbfnnaaaDoor.Pts
