/- For all households that can be ordered: without one of them, and its lot, the others have the same order (up to 64 households). Conditions: the numbers are those of their kinds. -/
import Derived.Test.YtfhmbfadbfnnaaaDoorPtF
import Derived.Test.YtfhmbfadbfnnaaaDoorPx16
namespace Go.Proofs.YtfhmbfadbfnnaaaDoor.Pure
open Go.RowKit Go.Proofs.YtfhmbfadbfnnaaaDoorW.PrintWords Go.Proofs.YtfhmbfadbfnnaaaDoor.Given Go.Proofs.YtfhmbfadbfnnaaaDoor.Px Go.Proofs.YtfhmbfadbfnnaaaDoor.Cal Go.Proofs.YtfhmbfadbfnnaaaDoor.Pts
set_option linter.unusedVariables false
set_option linter.unusedSimpArgs false
theorem rd_mid (P : List Int) (y : Int) (M : List Int) : rd (P ++ y :: M) (P.length : Int) = y := by
  unfold rd
  rw [List.getD_eq_getElem?_getD, List.getElem?_append_right (by omega)]
  simp
theorem sub_of_idx {x y : Int} : ∀ {L : List Int}, y ∈ L → idxI L x < idxI L y → [x, y].Sublist L
  | [], hy, _ => by simp at hy
  | z :: t, hy, h => by
    unfold idxI at h
    rw [List.idxOf_cons, List.idxOf_cons] at h
    by_cases c : z = y
    · rw [show (z == y) = true from beq_iff_eq.2 c] at h
      simp only [cond_true] at h
      omega
    · have hy' : y ∈ t := by
        rcases List.mem_cons.1 hy with e | e
        · exact absurd e.symm c
        · exact e
      by_cases d : z = x
      · rw [d]
        exact List.Sublist.cons_cons x (List.singleton_sublist.2 hy')
      · rw [show (z == y) = false from beq_eq_false_iff_ne.2 c, show (z == x) = false from beq_eq_false_iff_ne.2 d] at h
        simp only [cond_false] at h
        exact List.Sublist.cons z (sub_of_idx hy' (by unfold idxI; omega))
theorem idx_of_sub {x y : Int} : ∀ {L : List Int}, L.Nodup → [x, y].Sublist L → idxI L x < idxI L y
  | [], _, h => by simp at h
  | z :: t, hn, h => by
    obtain ⟨h1, h2⟩ := List.nodup_cons.1 hn
    unfold idxI
    rw [List.idxOf_cons, List.idxOf_cons]
    cases h with
    | cons _ h3 =>
      have hx : x ∈ t := h3.subset (by simp)
      have hy : y ∈ t := h3.subset (by simp)
      have cx : (z == x) = false := beq_eq_false_iff_ne.2 (fun e => h1 (e ▸ hx))
      have cy : (z == y) = false := beq_eq_false_iff_ne.2 (fun e => h1 (e ▸ hy))
      rw [cx, cy]
      have := idx_of_sub h2 h3
      unfold idxI at this
      simp only [cond_false]
      omega
    | cons_cons _ h3 =>
      have hy : y ∈ t := h3.subset (by simp)
      have cy : (x == y) = false := beq_eq_false_iff_ne.2 (fun e => h1 (e ▸ hy))
      rw [cy]
      simp
def shT (k y : Int) : Int := if y > k then y - 1 else y
def cutL (k : Int) (l : List Int) : List Int := (l.filter (fun y => y != k)).map (shT k)
theorem cutL_nil (k : Int) : cutL k [] = [] := rfl
theorem cutL_cons (k y : Int) (t : List Int) : cutL k (y :: t) = if y = k then cutL k t else shT k y :: cutL k t := by
  unfold cutL
  by_cases c : y = k
  · rw [if_pos c, List.filter_cons_of_neg (by simp [c])]
  · rw [if_neg c, List.filter_cons_of_pos (by simpa using c), List.map_cons]
theorem mem_cutL {k j : Int} {l : List Int} : j ∈ cutL k l ↔ ∃ y, y ∈ l ∧ y ≠ k ∧ shT k y = j := by
  unfold cutL
  rw [List.mem_map]
  constructor
  · rintro ⟨y, h1, h2⟩
    rw [List.mem_filter, bne_iff_ne] at h1
    exact ⟨y, h1.1, h1.2, h2⟩
  · rintro ⟨y, h1, h2, h3⟩
    exact ⟨y, List.mem_filter.2 ⟨h1, bne_iff_ne.2 h2⟩, h3⟩
theorem cutL_length {k : Int} {l : List Int} (hn : l.Nodup) (h : k ∈ l) : (cutL k l).length + 1 = l.length := by
  obtain ⟨A, B, e⟩ := List.append_of_mem h
  subst e
  rw [List.nodup_append] at hn
  have hA : ∀ x ∈ A, (x != k) = true := fun x hx => bne_iff_ne.2 (fun e => hn.2.2 k (e ▸ hx) k (by simp) rfl)
  have hB : ∀ x ∈ B, (x != k) = true := fun x hx => bne_iff_ne.2 (fun e => (List.nodup_cons.1 hn.2.1).1 (e ▸ hx))
  unfold cutL
  rw [List.length_map, List.filter_append, List.filter_eq_self.2 hA, List.filter_cons_of_neg (by simp), List.filter_eq_self.2 hB]
  simp
  omega
theorem shT_inj {k x y : Int} (hx : x ≠ k) (hy : y ≠ k) (e : shT k x = shT k y) : x = y := by
  unfold shT at e
  split at e <;> split at e <;> omega
theorem cutL_nodup {k : Int} {l : List Int} (hn : l.Nodup) : (cutL k l).Nodup := by
  unfold cutL
  rw [List.nodup_iff_pairwise_ne, List.pairwise_map]
  refine ((List.nodup_iff_pairwise_ne.1 hn).filter _).imp_of_mem ?_
  intro a b ha hb hne e
  rw [List.mem_filter, bne_iff_ne] at ha hb
  exact hne (shT_inj ha.2 hb.2 e)
theorem cutL_lots {lots : List Int} {n : Nat} {k : Int} (h : LotsOk lots (n + 1)) (k0 : 0 ≤ k) (k1 : k < n + 1) : LotsOk (cutL (k + 1) lots) n := by
  have hm := h.2 (k + 1) (by omega) (by omega)
  refine ⟨by have := cutL_length (lots_nodup h) hm; have := h.1; omega, fun i i0 i1 => mem_cutL.2 ?_⟩
  by_cases c : i ≤ k
  · refine ⟨i, h.2 i (by omega) (by omega), by omega, ?_⟩
    unfold shT
    rw [if_neg (by omega)]
  · refine ⟨i + 1, h.2 (i + 1) (by omega) (by omega), by omega, ?_⟩
    unfold shT
    rw [if_pos (by omega)]
    omega
theorem cutL_before {k : Int} {lots : List Int} (hn : lots.Nodup) {i j : Int} (hi : i ≠ k) (hj : j ≠ k) (hmi : i + 1 ∈ lots) (hmj : j + 1 ∈ lots) (h : lotI lots i < lotI lots j) : lotI (cutL (k + 1) lots) (shT k i) < lotI (cutL (k + 1) lots) (shT k j) := by
  unfold lotI at h ⊢
  have h1 := sub_of_idx hmj h
  have h2 := (h1.filter (fun y => y != k + 1)).map (shT (k + 1))
  rw [List.filter_cons_of_pos (by simpa using hi), List.filter_cons_of_pos (by simpa using hj), List.filter_nil] at h2
  have e : ∀ z : Int, shT (k + 1) (z + 1) = shT k z + 1 := fun z => by
    unfold shT
    by_cases c : z > k
    · rw [if_pos (by omega), if_pos c]; omega
    · rw [if_neg (by omega), if_neg c]
  simp only [List.map_cons, List.map_nil, e] at h2
  exact idx_of_sub (cutL_nodup hn) h2
/-- A list without its element k. -/
theorem rd_out {l : List Int} {k i : Int} (k0 : 0 ≤ k) (k1 : k < l.length) (i0 : 0 ≤ i) (hne : i ≠ k) : rd (l.take k.toNat ++ l.drop (k + 1).toNat) (shT k i) = rd l i := by
  unfold rd shT
  rw [List.getD_eq_getElem?_getD, List.getD_eq_getElem?_getD]
  by_cases c : i > k
  · rw [if_pos c, List.getElem?_append_right (by rw [List.length_take]; omega), List.length_take, List.getElem?_drop, show (k + 1).toNat + ((i - 1).toNat - min k.toNat l.length) = i.toNat by omega]
  · rw [if_neg c, List.getElem?_append_left (by rw [List.length_take]; omega), List.getElem?_take_of_lt (by omega)]
theorem without_ord {pts lots a : List Int} {n : Nat} {k : Int} (hL : LotsOk lots (n + 1)) (k0 : 0 ≤ k) (k1 : k < n + 1) (hp : pts.length = n + 1) (h : IsOrd pts lots (n + 1) a) :
    IsOrd (pts.take k.toNat ++ pts.drop (k + 1).toNat) (cutL (k + 1) lots) n (cutL k a) := by
  refine ⟨(pig _ _ (upI_nodup n) (fun j hj => mem_cutL.2 ?_) ?_).symm, ?_⟩
  · have hj := mem_upI.1 hj
    by_cases c : j < k
    · refine ⟨j, h.mem.2 (by omega), by omega, ?_⟩
      unfold shT
      rw [if_neg (by omega)]
    · refine ⟨j + 1, h.mem.2 (by omega), by omega, ?_⟩
      unfold shT
      rw [if_pos (by omega)]
      omega
  · have := cutL_length h.nodup (h.mem.2 ⟨k0, by omega⟩)
    have := h.length
    rw [upI_length]
    omega
  · unfold cutL
    rw [List.pairwise_map]
    refine (h.pair.filter _).imp_of_mem ?_
    intro i j hi hj hb
    rw [List.mem_filter, bne_iff_ne] at hi hj
    have ri := h.mem.1 hi.1
    have rj := h.mem.1 hj.1
    unfold bef at hb ⊢
    rw [rd_out k0 (by omega) ri.1 hi.2, rd_out k0 (by omega) rj.1 hj.2]
    rcases hb with q | ⟨q1, q2⟩
    · exact .inl q
    · exact .inr ⟨q1, cutL_before (lots_nodup hL) hi.2 hj.2 (hL.2 _ (by omega) (by omega)) (hL.2 _ (by omega) (by omega)) q2⟩
theorem without_l1 (k : Int) (b a : List Int) (hk : 0 ≤ k) (hk1 : k ≤ 1000) (ha : a.length ≤ 1000) (hr : ∀ x ∈ a, 0 ≤ x ∧ x ≤ 1000) : ∀ (M P x : List Int), a = P ++ M → x.length ≤ P.length →
    Ev (fun kk => (cohousingref21_Same.f kk b (x ++ cutL k M)).bind fun t => some t) true →
    Ev (fun kk => cohousinglaw21_PointsWithout.l1 kk true k b x a (a.length : Int) (P.length : Int)) true := by
  intro M
  induction M with
  | nil =>
    intro P x e hx h
    obtain ⟨K, hK⟩ := h
    dsimp only at hK
    rw [cutL_nil, List.append_nil] at hK
    have : a.length = P.length := by rw [e]; simp
    exact evUp K fun kk hk => by rw [cohousinglaw21_PointsWithout.l1, if_neg (by omega), if_pos rfl]; exact hK kk hk
  | cons z M ih =>
    intro P x e hx h
    have hl : a.length = P.length + (M.length + 1) := by rw [e]; simp
    have hz : rd a (P.length : Int) = z := by rw [e]; exact rd_mid P z M
    have hP : ((P ++ [z]).length : Int) = P.length + 1 := by simp
    have hzr := hr z (by rw [e]; simp)
    rw [cutL_cons] at h
    by_cases c1 : z > k
    · rw [if_neg (by omega)] at h
      obtain ⟨K, hK⟩ := ih (P ++ [z]) (x ++ [z - 1]) (by rw [e]; simp) (by simp; omega) (by
        have e2 : shT k z = z - 1 := by unfold shT; rw [if_pos c1]
        rw [e2] at h
        simpa using h)
      dsimp only at hK
      rw [hP] at hK
      exact evUp K fun kk hk => by rw [cohousinglaw21_PointsWithout.l1, if_pos (by omega), if_pos (by omega), if_pos (by omega), hz, if_pos c1, if_pos (by omega), w64 (x := z - 1) (by omega) (by omega), w64 (by omega) (by omega)]; exact hK kk hk
    · by_cases c2 : z < k
      · rw [if_neg (by omega)] at h
        obtain ⟨K, hK⟩ := ih (P ++ [z]) (x ++ [z]) (by rw [e]; simp) (by simp; omega) (by
          have e2 : shT k z = z := by unfold shT; rw [if_neg c1]
          rw [e2] at h
          simpa using h)
        dsimp only at hK
        rw [hP] at hK
        exact evUp K fun kk hk => by rw [cohousinglaw21_PointsWithout.l1, if_pos (by omega), if_pos (by omega), if_pos (by omega), hz, if_neg c1, if_pos c2, if_pos (by omega), w64 (by omega) (by omega)]; exact hK kk hk
      · rw [if_pos (by omega)] at h
        obtain ⟨K, hK⟩ := ih (P ++ [z]) x (by rw [e]; simp) (by simp; omega) h
        dsimp only at hK
        rw [hP] at hK
        exact evUp K fun kk hk => by rw [cohousinglaw21_PointsWithout.l1, if_pos (by omega), if_pos (by omega), if_pos (by omega), hz, if_neg c1, if_neg c2, w64 (by omega) (by omega)]; exact hK kk hk
theorem without_l0 (a b c d : Int) (l : List S25) (day : Int) (lots : List Int) (k : Int) (hk : 0 ≤ k) (hk1 : k ≤ 1000) (ha : lots.length ≤ 1000) (hr : ∀ x ∈ lots, 0 ≤ x ∧ x ≤ 1000) (r : Bool)
    (hfin : Ev (fun kk => cohousinglaw21_PointsWithout.l0 kk l day lots true k (cutL (k + 1) lots) lots (lots.length : Int) (lots.length : Int) a b c d) r) : ∀ (M P x : List Int), lots = P ++ M → x = cutL (k + 1) P →
    Ev (fun kk => cohousinglaw21_PointsWithout.l0 kk l day lots true k x lots (lots.length : Int) (P.length : Int) a b c d) r := by
  have happ : ∀ (A : List Int) (z : Int), cutL (k + 1) (A ++ [z]) = cutL (k + 1) A ++ cutL (k + 1) [z] := fun A z => by unfold cutL; rw [List.filter_append, List.map_append]
  have hle : ∀ A : List Int, (cutL (k + 1) A).length ≤ A.length := fun A => by unfold cutL; rw [List.length_map]; exact List.length_filter_le _ _
  intro M
  induction M with
  | nil =>
    intro P x e hx
    rw [List.append_nil] at e
    rw [hx, ← e]
    exact hfin
  | cons z M ih =>
    intro P x e hx
    have hl : lots.length = P.length + (M.length + 1) := by rw [e]; simp
    have hz : rd lots (P.length : Int) = z := by rw [e]; exact rd_mid P z M
    have hP : ((P ++ [z]).length : Int) = P.length + 1 := by simp
    have hzr := hr z (by rw [e]; simp)
    have hxl := hle P
    have hw : wrap64 (k + 1) = k + 1 := w64 (by omega) (by omega)
    obtain ⟨K, hK⟩ := ih (P ++ [z]) (cutL (k + 1) (P ++ [z])) (by rw [e]; simp) rfl
    dsimp only at hK
    rw [hP, happ, cutL_cons, cutL_nil, ← hx] at hK
    rw [← hx] at hxl
    by_cases c1 : z > k + 1
    · rw [if_neg (by omega)] at hK
      have e2 : shT (k + 1) z = z - 1 := by unfold shT; rw [if_pos c1]
      rw [e2] at hK
      exact evUp K fun kk hk => by rw [cohousinglaw21_PointsWithout.l0, if_pos (by omega), if_pos (by omega), if_pos (by omega), hz, hw, if_pos c1, if_pos (by omega), w64 (x := z - 1) (by omega) (by omega), w64 (by omega) (by omega)]; exact hK kk hk
    · by_cases c2 : z = k + 1
      · rw [if_pos c2, List.append_nil] at hK
        exact evUp K fun kk hk => by rw [cohousinglaw21_PointsWithout.l0, if_pos (by omega), if_pos (by omega), if_pos (by omega), hz, hw, if_neg c1, if_pos c2, w64 (by omega) (by omega)]; exact hK kk hk
      · rw [if_neg c2] at hK
        have e2 : shT (k + 1) z = z := by unfold shT; rw [if_neg c1]
        rw [e2] at hK
        exact evUp K fun kk hk => by rw [cohousinglaw21_PointsWithout.l0, if_pos (by omega), if_pos (by omega), if_pos (by omega), hz, hw, if_neg c1, if_neg c2, if_pos (by omega), w64 (by omega) (by omega)]; exact hK kk hk
theorem PointsWithout (a b c d : Int) (l : List S25) (day : Int) (lots : List Int) (which : Int) (hw0 : 0 ≤ which) (hw1 : which ≤ 255) : Ev (fun k => cohousinglaw21_PointsWithout.f k a b c d l day lots which) true := by
  obtain ⟨K0, h0⟩ := head_ev
  obtain ⟨u, ⟨K1, h1⟩, hu, hu2⟩ := usable_ev a b c d l day lots (.inr trivial)
  dsimp only at h0 h1
  have hend : ∀ k, cohousinglaw21_PointsWithout.j0 (k + 1) l day lots which true true a b c d = some true := fun k => by rw [cohousinglaw21_PointsWithout.j0, if_pos rfl]
  by_cases hU : u.2 = true
  case neg =>
    refine evUp (K0 + K1) fun k hk => ?_
    show cohousinglaw21_PointsWithout.f (k + 1) a b c d l day lots which = _
    unfold cohousinglaw21_PointsWithout.f
    rw [h0 _ (by omega), Option.bind_some, h1 _ (by omega), Option.bind_some, if_neg hU, hend]
  have hg := hu.1 hU
  have hlen := hg.len
  have hlots := hg.good.lots.1
  by_cases hz : l.length = 0
  · refine evUp (K0 + K1) fun k hk => ?_
    show cohousinglaw21_PointsWithout.f (k + 1) a b c d l day lots which = _
    unfold cohousinglaw21_PointsWithout.f
    rw [h0 _ (by omega), Option.bind_some, h1 _ (by omega), Option.bind_some, if_pos hU, hz]
    exact hend k
  obtain ⟨n, hn⟩ : ∃ n, l.length = n + 1 := ⟨l.length - 1, by omega⟩
  have hk : Int.tmod (wrap64 which) (l.length : Int) = which % l.length := by
    rw [w64 (by omega) (by omega), tmod_pos hw0]
  have k0 : 0 ≤ which % (l.length : Int) := Int.emod_nonneg _ (by omega)
  have k1 : which % (l.length : Int) < l.length := Int.emod_lt_of_pos _ (by omega)
  generalize which % (l.length : Int) = kk at hk k0 k1
  have hL := hg.good.lots
  obtain ⟨m, hm⟩ : ∃ m, m = l.take kk.toNat ++ l.drop (kk + 1).toNat := ⟨_, rfl⟩
  have hml : m.length = n := by rw [hm]; simp; omega
  have hsub : m.Sublist l := by
    rw [hm]
    have := List.Sublist.append (List.Sublist.refl (l.take kk.toNat)) (show (l.drop (kk + 1).toNat).Sublist (l.drop kk.toNat) by
      rw [show (kk + 1).toNat = kk.toNat + 1 by omega, ← List.drop_drop]
      exact List.drop_sublist _ _)
    rwa [List.take_append_drop] at this
  have hL2 : LotsOk (cutL (kk + 1) lots) n := cutL_lots (by rw [← hn]; exact hL) k0 (by omega)
  have hU2 : Usable a b c d m day (cutL (kk + 1) lots) := ⟨hg.w, by omega, ⟨fun x hx => hg.good.val x (hsub.subset hx), List.Sublist.nodup (hsub.map _) hg.good.apart, by rw [hml]; exact hL2⟩, errs_ok.2 fun x hx => errs_ok.1 hg.err x (hsub.subset hx)⟩
  obtain ⟨r, ⟨K2, h2⟩, hr⟩ := order_ev a b c d l day lots (by omega) (by omega)
  obtain ⟨r2, ⟨K3, h3⟩, hr2⟩ := order_ev a b c d m day (cutL (kk + 1) lots) (by omega) (by have := hL2.1; omega)
  dsimp only at h2 h3
  obtain ⟨e1, o1⟩ := hg.order hr
  obtain ⟨e2, o2⟩ := hU2.order hr2
  have hpts : ptsL a b c d day m = (ptsL a b c d day l).take kk.toNat ++ (ptsL a b c d day l).drop (kk + 1).toNat := by
    rw [hm]
    unfold ptsL
    rw [List.map_append, List.map_take, List.map_drop]
  rw [hn] at o1
  rw [hml, hpts] at o2
  have hw := without_ord (by rw [← hn]; exact hL) k0 (by omega) (by rw [ptsL_length, hn]) o1
  have heq := o2.unique hw
  have l1 := o1.length
  have l2 := o2.length
  obtain ⟨q, ⟨K4, h4⟩, hq⟩ := same_ev r2.1 (cutL kk r.1) (by omega)
  obtain rfl := hq.2 heq
  dsimp only at h4
  obtain ⟨K5, h5⟩ := without_l1 kk r2.1 r.1 k0 (by omega) (by omega) (fun x hx => by have := o1.mem.1 hx; omega) r.1 [] [] (by simp) (by simp) ⟨K4, fun k hk' => by
    simp only [List.nil_append]
    rw [h4 k hk', Option.bind_some]⟩
  dsimp only at h5
  have hw2 : wrap64 (kk + 1) = kk + 1 := w64 (by omega) (by omega)
  obtain ⟨K6, h6⟩ := without_l0 a b c d l day lots kk k0 (by omega) (by omega) (fun x hx => by have := lots_range hL hx; omega) true (by
    refine evUp (K2 + K3 + K5 + 1) fun k hk' => ?_
    obtain ⟨k, rfl⟩ : ∃ j, k = j + 1 := ⟨k - 1, by omega⟩
    rw [cohousinglaw21_PointsWithout.l0, if_neg (by omega), h2 _ (by omega), Option.bind_some, Option.bind_some, if_pos k0, if_pos (by omega), Option.bind_some, if_pos (by simp; omega), Option.bind_some, List.nil_append, hw2, if_pos (by omega), if_pos (by omega), Option.bind_some, if_pos (by simp; omega), ← hm, h3 _ (by omega), Option.bind_some, if_pos e1, e2,
      cohousinglaw21_PointsWithout.j2, if_neg (by decide)]
    exact h5 k (by omega)) lots [] [] (by simp) rfl
  dsimp only at h6
  refine evUp (K0 + K1 + K6) fun k hk' => ?_
  show cohousinglaw21_PointsWithout.f (k + 1) a b c d l day lots which = _
  unfold cohousinglaw21_PointsWithout.f
  rw [h0 _ (by omega), Option.bind_some, h1 _ (by omega), Option.bind_some, if_pos hU, show ((l.length : Int) == 0) = false by rw [beq_eq_false_iff_ne]; omega, cohousinglaw21_PointsWithout.j0, if_neg (by decide), if_neg (by omega), hk]
  exact h6 k (by omega)
end Go.Proofs.YtfhmbfadbfnnaaaDoor.Pure
