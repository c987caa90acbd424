/- For all households that can be ordered: one that gets more hours does not come later, and the others keep their order, unless there would be too many points or hours (up to 64 households). Conditions: the numbers are those of their kinds. -/
import Derived.Test.YtfhmbfadbfnnaaaDoorPtF
import Derived.Test.YtfhmbfadbfnnaaaDoorPx17
namespace Go.Proofs.YtfhmbfadbfnnaaaDoor.Pure
open Go.RowKit Go.Proofs.YtfhmbfadbfnnaaaDoorW.PrintWords Go.Proofs.YtfhmbfadbfnnaaaDoor.Given Go.Proofs.YtfhmbfadbfnnaaaDoor.Px Go.Proofs.YtfhmbfadbfnnaaaDoor.Cal Go.Proofs.YtfhmbfadbfnnaaaDoor.Pts
set_option linter.unusedVariables false
set_option linter.unusedSimpArgs false
/-- A list that has k once, parted at k. -/
theorem split_at {l : List Int} (hn : l.Nodup) {k : Int} (h : k ∈ l) : ∃ A B, l = A ++ k :: B ∧ ¬ k ∈ A ∧ ¬ k ∈ B := by
  obtain ⟨A, B, e⟩ := List.append_of_mem h
  subst e
  refine ⟨A, B, rfl, fun hk => ?_, fun hk => ?_⟩
  · rw [List.nodup_append] at hn
    exact hn.2.2 k hk k (by simp) rfl
  · rw [List.nodup_append] at hn
    exact (List.nodup_cons.1 hn.2.1).1 hk
/-- What the loops gather: all but k, and where k was met. -/
def gath (k : Int) : List Int → Int → List Int → Int → List Int × Int
  | [], _, x, w => (x, w)
  | y :: t, i, x, w => if y = k then gath k t (i + 1) x i else gath k t (i + 1) (x ++ [y]) w
theorem gath_not {k : Int} : ∀ {A : List Int} {i : Int} {x : List Int} {w : Int}, ¬ k ∈ A → gath k A i x w = (x ++ A, w)
  | [], _, x, w, _ => by simp [gath]
  | y :: t, i, x, w, h => by
    have h1 : ¬ y = k := fun e => h (by simp [e])
    have h2 : ¬ k ∈ t := fun e => h (by simp [e])
    rw [gath, if_neg h1, gath_not h2]
    simp
theorem gath_app {k : Int} : ∀ (A T : List Int) (i : Int) (x : List Int) (w : Int), gath k (A ++ T) i x w = gath k T (i + A.length) (gath k A i x w).1 (gath k A i x w).2
  | [], T, i, x, w => by simp [gath]
  | y :: t, T, i, x, w => by
    by_cases c : y = k
    · rw [List.cons_append, gath, gath, if_pos c, if_pos c, gath_app t T]
      congr 1
      simp
      omega
    · rw [List.cons_append, gath, gath, if_neg c, if_neg c, gath_app t T]
      congr 1
      simp
      omega
theorem gath_split {k : Int} {A B : List Int} (hA : ¬ k ∈ A) (hB : ¬ k ∈ B) (x : List Int) (w : Int) : gath k (A ++ k :: B) 0 x w = (x ++ A ++ B, (A.length : Int)) := by
  rw [gath_app, gath_not hA, gath, if_pos rfl, gath_not hB]
  simp
theorem rd_mid (P : List Int) (y : Int) (M : List Int) : rd (P ++ y :: M) (P.length : Int) = y := by
  unfold rd
  rw [List.getD_eq_getElem?_getD, List.getElem?_append_right (by omega)]
  simp
theorem more_l1 (k w : Int) (x L : List Int) (hL : L.length ≤ 1000) : ∀ (M P y : List Int) (v : Int), L = P ++ M → y.length ≤ P.length →
    Ev (fun kk => (cohousingref21_Same.f kk x (gath k M P.length y v).1).bind fun t => if t = true then (if (gath k M P.length y v).2 ≥ 0 then some (decide ((gath k M P.length y v).2 ≤ w)) else some false) else some false) true →
    Ev (fun kk => cohousinglaw21_PointsMore.l1 kk true k 0 x y w v L (L.length : Int) (P.length : Int)) true := by
  intro M
  induction M with
  | nil =>
    intro P y v e hy h
    obtain ⟨K, hK⟩ := h
    dsimp only at hK
    have : L.length = P.length := by rw [e]; simp
    refine evUp K fun kk hk => ?_
    rw [cohousinglaw21_PointsMore.l1, if_neg (by omega), if_pos rfl, if_pos rfl]
    exact hK kk hk
  | cons z M ih =>
    intro P y v e hy h
    have hl : L.length = P.length + (M.length + 1) := by rw [e]; simp
    have hz : rd L (P.length : Int) = z := by rw [e]; exact rd_mid P z M
    have hP : ((P ++ [z]).length : Int) = P.length + 1 := by simp
    rw [gath] at h
    by_cases c : z = k
    · rw [if_pos c] at h
      obtain ⟨K, hK⟩ := ih (P ++ [z]) y P.length (by rw [e]; simp) (by simp; omega) (by rw [hP]; exact h)
      dsimp only at hK
      rw [hP] at hK
      exact evUp K fun kk hk => by rw [cohousinglaw21_PointsMore.l1, if_pos (by omega), if_pos (by omega), if_pos (by omega), hz, if_pos c, w64 (by omega) (by omega)]; exact hK kk hk
    · rw [if_neg c] at h
      obtain ⟨K, hK⟩ := ih (P ++ [z]) (y ++ [z]) v (by rw [e]; simp) (by simp; omega) (by rw [hP]; exact h)
      dsimp only at hK
      rw [hP] at hK
      exact evUp K fun kk hk => by rw [cohousinglaw21_PointsMore.l1, if_pos (by omega), if_pos (by omega), if_pos (by omega), hz, if_neg c, if_pos (by omega), w64 (by omega) (by omega)]; exact hK kk hk
theorem more_l0 (k : Int) (b L : List Int) (hL : L.length ≤ 1000) : ∀ (M P x : List Int) (w : Int), L = P ++ M → x.length ≤ P.length →
    Ev (fun kk => cohousinglaw21_PointsMore.l1 kk true k 0 (gath k M P.length x w).1 [] (gath k M P.length x w).2 (-1) b (b.length : Int) 0) true →
    Ev (fun kk => cohousinglaw21_PointsMore.l0 kk true k 0 b x w (-1) L (L.length : Int) (P.length : Int)) true := by
  intro M
  induction M with
  | nil =>
    intro P x w e hx h
    obtain ⟨K, hK⟩ := h
    dsimp only at hK
    have : L.length = P.length := by rw [e]; simp
    exact evUp K fun kk hk => by rw [cohousinglaw21_PointsMore.l0, if_neg (by omega)]; exact hK kk hk
  | cons z M ih =>
    intro P x w e hx h
    have hl : L.length = P.length + (M.length + 1) := by rw [e]; simp
    have hz : rd L (P.length : Int) = z := by rw [e]; exact rd_mid P z M
    have hP : ((P ++ [z]).length : Int) = P.length + 1 := by simp
    rw [gath] at h
    by_cases c : z = k
    · rw [if_pos c] at h
      obtain ⟨K, hK⟩ := ih (P ++ [z]) x P.length (by rw [e]; simp) (by simp; omega) (by rw [hP]; exact h)
      dsimp only at hK
      rw [hP] at hK
      exact evUp K fun kk hk => by rw [cohousinglaw21_PointsMore.l0, if_pos (by omega), if_pos (by omega), if_pos (by omega), hz, if_pos c, w64 (by omega) (by omega)]; exact hK kk hk
    · rw [if_neg c] at h
      obtain ⟨K, hK⟩ := ih (P ++ [z]) (x ++ [z]) w (by rw [e]; simp) (by simp; omega) (by rw [hP]; exact h)
      dsimp only at hK
      rw [hP] at hK
      exact evUp K fun kk hk => by rw [cohousinglaw21_PointsMore.l0, if_pos (by omega), if_pos (by omega), if_pos (by omega), hz, if_neg c, if_pos (by omega), w64 (by omega) (by omega)]; exact hK kk hk
/-- Who has more points does not come later, and the others keep their order. -/
theorem more_keeps {pts pts2 lots a b : List Int} {n : Nat} {k : Int} (k0 : 0 ≤ k) (k1 : k < n) (ha : IsOrd pts lots n a) (hb : IsOrd pts2 lots n b) (hne : ∀ i : Int, 0 ≤ i → i < n → i ≠ k → rd pts2 i = rd pts i) (hk : rd pts k ≤ rd pts2 k) :
    ∃ A B A2 B2, a = A ++ k :: B ∧ ¬ k ∈ A ∧ ¬ k ∈ B ∧ b = A2 ++ k :: B2 ∧ ¬ k ∈ A2 ∧ ¬ k ∈ B2 ∧ A ++ B = A2 ++ B2 ∧ A2.length ≤ A.length := by
  obtain ⟨A, B, e1, hA, hB⟩ := split_at ha.nodup (ha.mem.2 ⟨k0, k1⟩)
  obtain ⟨A2, B2, e2, hA2, hB2⟩ := split_at hb.nodup (hb.mem.2 ⟨k0, k1⟩)
  have hp : (A ++ B).Perm (A2 ++ B2) := by
    have p1 : (k :: (A ++ B)).Perm a := by rw [e1]; exact List.perm_middle.symm
    have p2 : (k :: (A2 ++ B2)).Perm b := by rw [e2]; exact List.perm_middle.symm
    exact (p1.trans ((ha.perm.trans hb.perm.symm).trans p2.symm)).cons_inv
  have pa := ha.pair
  have pb := hb.pair
  rw [e1] at pa
  rw [e2] at pb
  have ma : ∀ x ∈ A ++ B, (0 ≤ x ∧ x < n) ∧ x ≠ k := fun x hx => ⟨ha.mem.1 (by rw [e1]; rcases List.mem_append.1 hx with q | q <;> simp [q]), fun e => by
    rw [e] at hx
    rcases List.mem_append.1 hx with q | q
    · exact hA q
    · exact hB q⟩
  have mb : ∀ x ∈ A2 ++ B2, (0 ≤ x ∧ x < n) ∧ x ≠ k := fun x hx => ma x (hp.symm.subset hx)
  have sub1 : (A ++ B).Pairwise (bef pts lots) := pa.sublist (List.Sublist.append (List.Sublist.refl A) (List.sublist_cons_self k B))
  have sub2 : (A2 ++ B2).Pairwise (bef pts lots) := by
    have := pb.sublist (List.Sublist.append (List.Sublist.refl A2) (List.sublist_cons_self k B2))
    refine this.imp_of_mem (fun {x y} hx hy h => ?_)
    obtain ⟨a1, a2⟩ := mb x hx
    obtain ⟨b1, b2⟩ := mb y hy
    unfold bef at h ⊢
    rw [hne x a1.1 a1.2 a2, hne y b1.1 b1.2 b2] at h
    exact h
  have heq : A ++ B = A2 ++ B2 := List.Perm.eq_of_pairwise (le := bef pts lots) (fun x y _ _ h1 h2 => (bef_not h1 h2).elim) sub1 sub2 hp
  refine ⟨A, B, A2, B2, e1, hA, hB, e2, hA2, hB2, heq, ?_⟩
  rcases Nat.lt_or_ge A.length A2.length with c | c
  case inr => exact c
  exfalso
  have hlen := congrArg List.length heq
  simp only [List.length_append] at hlen
  obtain ⟨z, Z, hz⟩ : ∃ z Z, B = z :: Z := by
    cases B with
    | nil => simp at hlen; omega
    | cons z Z => exact ⟨z, Z, rfl⟩
  subst hz
  have hzA2 : z ∈ A2 := by
    have g1 : (A ++ z :: Z)[A.length]? = some z := by rw [List.getElem?_append_right (by omega)]; simp
    rw [heq, List.getElem?_append_left (by omega)] at g1
    exact List.mem_of_getElem? g1
  have h1 : bef pts lots k z := by
    have := (List.pairwise_append.1 pa).2.1
    exact (List.pairwise_cons.1 this).1 z (by simp)
  have h2 : bef pts2 lots z k := (List.pairwise_append.1 pb).2.2 z hzA2 k (by simp)
  obtain ⟨q1, q2⟩ := ma z (by simp)
  unfold bef at h1 h2
  rw [hne z q1.1 q1.2 q2] at h2
  omega
theorem pts_more (a b c d s n l p day h : Int) : ptsOf a b c d s n (l + h) p day = ptsOf a b c d s n l p day + h * c := by
  unfold ptsOf
  rw [Int.add_mul]
  omega
theorem rd25_set {l : List S25} {i j : Int} (h0 : 0 ≤ i) (j0 : 0 ≤ j) (hj : j < l.length) (v : S25) : rd_T25 (l.set i.toNat v) j = if j = i then v else rd_T25 l j := by
  unfold rd_T25
  rw [List.getD_eq_getElem?_getD, List.getD_eq_getElem?_getD, List.getElem?_set]
  by_cases c : j = i
  · subst c
    rw [if_pos rfl, if_pos rfl, if_pos (by omega)]
    rfl
  · rw [if_neg (by omega), if_neg c]
theorem PointsMore (a b c d : Int) (l : List S25) (day : Int) (lots : List Int) (which hours : Int) (hw0 : 0 ≤ which) (hw1 : which ≤ 255) (hh0 : 0 ≤ hours) (hh1 : hours ≤ 65535) : Ev (fun k => cohousinglaw21_PointsMore.f k a b c d l day lots which hours) true := by
  obtain ⟨K0, h0⟩ := head_ev
  obtain ⟨u, ⟨K1, h1⟩, hu, hu2⟩ := usable_ev a b c d l day lots (.inr trivial)
  dsimp only at h0 h1
  have hend : ∀ k, cohousinglaw21_PointsMore.j0 (k + 1) l day lots which hours true true a b c d = some true := fun k => by rw [cohousinglaw21_PointsMore.j0, if_pos rfl]
  by_cases hU : u.2 = true
  case neg =>
    refine evUp (K0 + K1) fun k hk => ?_
    show cohousinglaw21_PointsMore.f (k + 1) a b c d l day lots which hours = _
    unfold cohousinglaw21_PointsMore.f
    rw [h0 _ (by omega), Option.bind_some, h1 _ (by omega), Option.bind_some, if_neg hU, hend]
  have hg := hu.1 hU
  have hlen := hg.len
  have hlots := hg.good.lots.1
  by_cases hz : l.length = 0
  · refine evUp (K0 + K1) fun k hk => ?_
    show cohousinglaw21_PointsMore.f (k + 1) a b c d l day lots which hours = _
    unfold cohousinglaw21_PointsMore.f
    rw [h0 _ (by omega), Option.bind_some, h1 _ (by omega), Option.bind_some, if_pos hU, hz]
    exact hend k
  have hk : Int.tmod (wrap64 which) (l.length : Int) = which % l.length := by
    rw [w64 (by omega) (by omega), tmod_pos hw0]
  have k0 : 0 ≤ which % (l.length : Int) := Int.emod_nonneg _ (by omega)
  have k1 : which % (l.length : Int) < l.length := Int.emod_lt_of_pos _ (by omega)
  generalize which % (l.length : Int) = kk at hk k0 k1
  have hv := hg.good.val _ (rd25_mem k0 k1)
  unfold validS at hv
  have hv' := hv
  unfold validH at hv'
  simp only [decide_eq_true_eq] at hv'
  have hwr : wrap64 ((rd_T25 l kk).f3 + wrap64 hours) = (rd_T25 l kk).f3 + hours := by
    rw [w64 (x := hours) (by omega) (by omega), w64 (by omega) (by omega)]
  obtain ⟨m, hm⟩ : ∃ m, m = l.set kk.toNat (⟨(rd_T25 l kk).f0, (rd_T25 l kk).f1, (rd_T25 l kk).f2, (rd_T25 l kk).f3 + hours, (rd_T25 l kk).f4⟩ : S25) := ⟨_, rfl⟩
  have hml : m.length = l.length := by rw [hm, List.length_set]
  have hrd : ∀ j : Int, 0 ≤ j → j < l.length → rd_T25 m j = if j = kk then (⟨(rd_T25 l kk).f0, (rd_T25 l kk).f1, (rd_T25 l kk).f2, (rd_T25 l kk).f3 + hours, (rd_T25 l kk).f4⟩ : S25) else rd_T25 l j := fun j j0 j1 => by
    rw [hm]
    exact rd25_set k0 j0 j1 _
  obtain ⟨r, ⟨K2, h2⟩, hr⟩ := order_ev a b c d l day lots (by omega) (by omega)
  obtain ⟨r2, ⟨K3, h3⟩, hr2⟩ := order_ev a b c d m day lots (by omega) (by omega)
  dsimp only at h2 h3
  obtain ⟨e1, o1⟩ := hg.order hr
  have hstep : ∀ k, K0 + K1 + K2 + K3 + 1 ≤ k → cohousinglaw21_PointsMore.f (k + 1) a b c d l day lots which hours = (if r2.2 = 0 then (cohousinglaw21_PointsMore.l0 k true kk r.2 r2.1 ([] : List Int) (-1) (-1) r.1 (r.1.length : Int) 0) else (if r.2 = 0 then (some ((r2.1.length : Int) == 0)) else (some false))) := fun k hk' => by
    unfold cohousinglaw21_PointsMore.f
    rw [h0 _ (by omega), Option.bind_some, h1 _ (by omega), Option.bind_some, if_pos hU, show ((l.length : Int) == 0) = false by rw [beq_eq_false_iff_ne]; omega, cohousinglaw21_PointsMore.j0, if_neg (by decide), if_neg (by omega), Option.bind_some, if_pos (by simp; omega), Option.bind_some, List.nil_append, hk, if_pos k0, if_pos k1, h2 _ (by omega), Option.bind_some, hwr, ← hm, h3 _ (by omega), Option.bind_some, if_pos rfl]
  by_cases f : r2.2 = 0
  case neg =>
    have hnil : r2.1 = [] := by
      by_cases g : validW a b c d = true ∧ m.length ≤ 64 ∧ GoodL m lots
      · by_cases e : errs (cntF a b c d day) m = 0
        · exact absurd (hr2.ord g e).1 f
        · rw [hr2.err g e]
      · rw [hr2.bad g]
    refine evUp (K0 + K1 + K2 + K3 + 1) fun k hk' => ?_
    show cohousinglaw21_PointsMore.f (k + 1) a b c d l day lots which hours = _
    rw [hstep k hk', if_neg f, if_pos e1, hnil]
    rfl
  have hg2 : validW a b c d = true ∧ m.length ≤ 64 ∧ GoodL m lots := Classical.byContradiction fun g => by
    rw [hr2.bad g] at f
    simp at f
  have he2 : errs (cntF a b c d day) m = 0 := Classical.byContradiction fun g => by
    rw [hr2.err hg2 g] at f
    exact g f
  have o2 := (hr2.ord hg2 he2).2
  rw [hml] at o2
  have pm : ∀ j : Int, 0 ≤ j → j < l.length → rd (m.map (fun x => (cntF a b c d day x).1)) j = (cntF a b c d day (rd_T25 m j)).1 := fun j j0 j1 => rd_mapS _ m j0 (by omega)
  have pl : ∀ j : Int, 0 ≤ j → j < l.length → rd (ptsL a b c d day l) j = (cntF a b c d day (rd_T25 l j)).1 := fun j j0 j1 => rd_mapS _ l j0 (by omega)
  have hmk := hrd kk k0 k1
  rw [if_pos rfl] at hmk
  obtain ⟨A, B, A2, B2, ea, hA, hB, eb, hA2, hB2, heq, hle⟩ := more_keeps k0 k1 o1 o2 (fun i i0 i1 hne => by
      rw [pm i i0 i1, pl i i0 i1, hrd i i0 i1, if_neg hne]) (by
      have q1 := errs_ok.1 hg.err _ (rd25_mem k0 k1)
      have q2 := errs_ok.1 he2 _ (rd25_mem k0 (by omega : kk < m.length))
      rw [pm kk k0 k1, pl kk k0 k1]
      rw [hmk] at q2 ⊢
      unfold cntF at q1 q2 ⊢
      obtain ⟨_, _, _, _, c1⟩ := countOf_ok (by decide) q1
      obtain ⟨_, _, _, _, c2⟩ := countOf_ok (by decide) q2
      rw [c1, c2]
      have hc := hg.w
      unfold validW at hc
      simp only [decide_eq_true_eq] at hc
      have := Int.mul_nonneg hh0 hc.2.2.1.1
      show ptsOf a b c d (rd_T25 l kk).f1 (rd_T25 l kk).f2 (rd_T25 l kk).f3 (rd_T25 l kk).f4 day ≤ ptsOf a b c d (rd_T25 l kk).f1 (rd_T25 l kk).f2 ((rd_T25 l kk).f3 + hours) (rd_T25 l kk).f4 day
      rw [pts_more]
      omega)
  have l1 := o1.length
  have l2 := o2.length
  have s1 : (A ++ B).length ≤ l.length := by rw [← l1, ea]; simp
  obtain ⟨q, ⟨K4, h4⟩, hq⟩ := same_ev (A ++ B) (A2 ++ B2) (by omega)
  obtain rfl := hq.2 heq
  dsimp only at h4
  obtain ⟨K5, h5⟩ := more_l0 kk r2.1 r.1 (by omega) r.1 [] [] (-1) (by simp) (by simp) (by
    have g1 := gath_split hA hB [] (-1)
    rw [← ea] at g1
    rw [show (([] : List Int).length : Int) = 0 from rfl, g1]
    have := more_l1 kk (A.length : Int) (A ++ B) r2.1 (by omega) r2.1 [] [] (-1) (by simp) (by simp) (by
      have g2 := gath_split hA2 hB2 [] (-1)
      rw [← eb] at g2
      rw [show (([] : List Int).length : Int) = 0 from rfl, g2]
      refine ⟨K4, fun k hk' => ?_⟩
      simp only [List.nil_append]
      rw [h4 k hk', Option.bind_some, if_pos rfl, if_pos (by omega), decide_eq_true (by omega)])
    exact this)
  dsimp only at h5
  refine evUp (K0 + K1 + K2 + K3 + K5 + 1) fun k hk' => ?_
  show cohousinglaw21_PointsMore.f (k + 1) a b c d l day lots which hours = _
  rw [hstep k (by omega), if_pos f, e1]
  exact h5 k (by omega)
end Go.Proofs.YtfhmbfadbfnnaaaDoor.Pure
