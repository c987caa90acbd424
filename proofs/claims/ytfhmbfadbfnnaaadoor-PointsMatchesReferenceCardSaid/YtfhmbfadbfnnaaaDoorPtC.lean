/- What the program's order of households is: places, points, the sort. Conditions: as each theorem states. -/
import Derived.Test.YtfhmbfadbfnnaaaDoorPtB
import Derived.Test.YtfhmbfadbfnnaaaDoorGSort
import Derived.Test.YtfhmbfadbfnnaaaDoorPx4
import Derived.Test.YtfhmbfadbfnnaaaDoorPx6
namespace Go.Proofs.YtfhmbfadbfnnaaaDoor.Pts
open Go.RowKit Go.Proofs.YtfhmbfadbfnnaaaDoorW.PrintWords Go.Proofs.YtfhmbfadbfnnaaaDoor.Given Go.Proofs.YtfhmbfadbfnnaaaDoor.Cal Go.Proofs.YtfhmbfadbfnnaaaDoor.Px
set_option linter.unusedVariables false
set_option linter.unusedSimpArgs false
/-! ### Lists of structs, read by a whole number -/
theorem rd63_set {l : List S63} {i j : Int} (h0 : 0 ≤ i) (j0 : 0 ≤ j) (hj : j < l.length) (v : S63) : rd_T63 (l.set i.toNat v) j = if j = i then v else rd_T63 l j := by
  unfold rd_T63
  rw [List.getD_eq_getElem?_getD, List.getD_eq_getElem?_getD, List.getElem?_set]
  by_cases c : j = i
  · subst c
    rw [if_pos rfl, if_pos rfl, if_pos (by omega)]
    rfl
  · rw [if_neg (by omega), if_neg c]
theorem rd63_nat (l : List S63) (n : Nat) (h : n < l.length) : rd_T63 l (n : Int) = l[n] := by
  unfold rd_T63
  rw [List.getD_eq_getElem?_getD, show ((n : Int)).toNat = n by omega, List.getElem?_eq_getElem h]
  rfl
theorem rd25_nat (l : List S25) (n : Nat) (h : n < l.length) : rd_T25 l (n : Int) = l[n] := by
  unfold rd_T25
  rw [List.getD_eq_getElem?_getD, show ((n : Int)).toNat = n by omega, List.getElem?_eq_getElem h]
  rfl
theorem ext63 {l m : List S63} (hl : l.length = m.length) (h : ∀ i : Int, 0 ≤ i → i < l.length → rd_T63 l i = rd_T63 m i) : l = m := by
  refine List.ext_getElem hl fun n h1 h2 => ?_
  have := h (n : Int) (by omega) (by omega)
  rw [rd63_nat l n h1, rd63_nat m n h2] at this
  exact this
theorem rd25_mem {l : List S25} {i : Int} (h0 : 0 ≤ i) (h1 : i < l.length) : rd_T25 l i ∈ l := by
  have := rd25_nat l i.toNat (by omega)
  rw [show ((i.toNat : Nat) : Int) = i by omega] at this
  rw [this]
  exact List.getElem_mem _
theorem mem_rd25 {l : List S25} {x : S25} (h : x ∈ l) : ∃ i : Int, 0 ≤ i ∧ i < l.length ∧ rd_T25 l i = x := by
  obtain ⟨n, hn, e⟩ := List.mem_iff_getElem.1 h
  exact ⟨(n : Int), by omega, by omega, (rd25_nat l n hn).trans e⟩
theorem rd_mapS (f : S25 → Int) (l : List S25) {i : Int} (h0 : 0 ≤ i) (h1 : i < l.length) : rd (l.map f) i = f (rd_T25 l i) := by
  have e := rd_nat (l.map f) i.toNat (by simp; omega)
  have e2 := rd25_nat l i.toNat (by omega)
  rw [show ((i.toNat : Nat) : Int) = i by omega] at e e2
  rw [e, e2, List.getElem_map]
/-! ### A set of numbers, as a map -/
theorem mfind_mput {α : Type} (k p : Int) (v : α) : ∀ M : List (Int × α), mfind (mput M k v) p = if p = k then some v else mfind M p
  | [] => by
    by_cases c : p = k
    · simp [mput, mfind, c]
    · have d : ¬ k = p := fun e => c e.symm
      simp [mput, mfind, c, d]
  | q :: t => by
    by_cases c : q.1 = k
    · by_cases d : p = k
      · subst d
        simp [mput, mfind, c]
      · have e : ¬ q.1 = p := fun e => d (e.symm.trans c)
        simp only [mput, if_pos c, mfind, if_neg e, if_neg d]
    · simp only [mput, if_neg c, mfind, mfind_mput k p v t]
      by_cases d : q.1 = p
      · rw [if_pos d, if_pos d, if_neg (fun e => c (d.trans e))]
      · rw [if_neg d, if_neg d]
theorem mgetB_mput (M : List (Int × Bool)) (k p : Int) : mgetB (mput M k true) p = true ↔ p = k ∨ mgetB M p = true := by
  unfold mgetB
  rw [mfind_mput]
  by_cases c : p = k
  · simp [c]
  · rw [if_neg c]
    simp [c]
/-- The map holds what the first i elements hold. -/
def Has (M : List (Int × Bool)) (f : Int → Int) (i : Int) : Prop := ∀ p, mgetB M p = true ↔ ∃ j : Int, 0 ≤ j ∧ j < i ∧ f j = p
theorem Has.zero (f : Int → Int) : Has [] f 0 := fun p => ⟨fun h => by simp [mgetB, mfind] at h, fun ⟨j, h0, h1, _⟩ => by omega⟩
theorem Has.succ {M : List (Int × Bool)} {f : Int → Int} {i : Int} (h : Has M f i) (h0 : 0 ≤ i) : Has (mput M (f i) true) f (i + 1) := fun p => by
  rw [mgetB_mput, h p]
  constructor
  · rintro (rfl | ⟨j, j0, j1, e⟩)
    · exact ⟨i, h0, by omega, rfl⟩
    · exact ⟨j, j0, by omega, e⟩
  · rintro ⟨j, j0, j1, e⟩
    by_cases c : j = i
    · subst c; exact .inl e.symm
    · exact .inr ⟨j, j0, by omega, e⟩
/-- The first i elements are apart. -/
def Apart (f : Int → Int) (i : Int) : Prop := ∀ s t : Int, 0 ≤ s → s < t → t < i → f s ≠ f t
theorem Apart.succ {f : Int → Int} {i : Int} (h : Apart f i) (hn : ¬ ∃ j : Int, 0 ≤ j ∧ j < i ∧ f j = f i) : Apart f (i + 1) := fun s t s0 st ti e => by
  by_cases c : t = i
  · subst c; exact hn ⟨s, s0, st, e⟩
  · exact h s t s0 st (by omega) e
theorem nodup_apart {l : List Int} : l.Nodup ↔ Apart (rd l) l.length := by
  rw [List.nodup_iff_pairwise_ne, List.pairwise_iff_getElem]
  constructor
  · intro h s t s0 st tl
    have := h s.toNat t.toNat (by omega) (by omega) (by omega)
    have e1 := rd_nat l s.toNat (by omega)
    have e2 := rd_nat l t.toNat (by omega)
    rw [show ((s.toNat : Nat) : Int) = s by omega] at e1
    rw [show ((t.toNat : Nat) : Int) = t by omega] at e2
    rw [e1, e2]
    exact this
  · intro h i j hi hj hij e
    have := h (i : Int) (j : Int) (by omega) (by omega) (by omega)
    rw [rd_nat l i hi, rd_nat l j hj] at this
    exact this e
/-! ### Places -/
def plc (l : List S25) (j lot : Int) : S63 := ⟨⟨rd_T25 l j⟩, j, 0, lot⟩
def placeList (l : List S25) (lots : List Int) : List S63 := (upI l.length).map (fun j => plc l j (lotI lots j))
theorem rd_upmap {α : Type} (f : Int → S63) {n : Nat} {i : Int} (h0 : 0 ≤ i) (h1 : i < n) : rd_T63 ((upI n).map f) i = f i := by
  have e := rd63_nat ((upI n).map f) i.toNat (by simp [upI_length]; omega)
  rw [show ((i.toNat : Nat) : Int) = i by omega] at e
  rw [e, List.getElem_map]
  unfold upI
  rw [List.getElem_map, List.getElem_range]
  congr 1
  omega
section
variable (l : List S25) (lots : List Int) (hl : l.length ≤ 100000) (hL : lots.length ≤ 100000)
include hl hL
/-- The second loop: the lots, from number k on. -/
theorem places_l1 : ∀ (n : Nat) (k : Int) (x6 : List S63), 0 ≤ k → k + n = lots.length → x6.length = l.length →
    (∀ t : Int, 0 ≤ t → t < k → 1 ≤ rd lots t ∧ rd lots t ≤ l.length) → Apart (rd lots) k →
    (∀ j : Int, 0 ≤ j → j < l.length → ∃ q, rd_T63 x6 j = plc l j q ∧ (q ≥ 0 ↔ ∃ t : Int, 0 ≤ t ∧ t < k ∧ rd lots t = j + 1) ∧ (q ≥ 0 → q < k ∧ rd lots q = j + 1)) →
    ∃ r, Ev (fun kk => points_places.l1 kk l lots x6 lots (lots.length : Int) k) r ∧ (r.2 = true ↔ LotsOk lots l.length) ∧ (r.2 = true → r.1 = placeList l lots) := by
  intro n
  induction n with
  | zero =>
    intro k x6 k0 hk hx hr ha hj
    have hke : k = lots.length := by omega
    subst hke
    have hnd : lots.Nodup := nodup_apart.2 ha
    refine ⟨(x6, ((lots.length : Int) == (l.length : Int))), evUp 0 fun kk _ => ?_, ?_, ?_⟩
    · rw [points_places.l1, if_neg (by omega)]
    · simp only [beq_iff_eq]
      constructor
      · intro e
        refine lots_of (by omega) hnd (fun x hx => ?_)
        obtain ⟨t, t0, t1, rfl⟩ := mem_rd hx
        exact hr t t0 t1
      · intro h
        have := h.1
        omega
    · simp only [beq_iff_eq]
      intro e
      have hok : LotsOk lots l.length := lots_of (by omega) hnd (fun x hx => by
        obtain ⟨t, t0, t1, rfl⟩ := mem_rd hx
        exact hr t t0 t1)
      refine ext63 (by simp [placeList, upI_length, hx]) (fun i i0 i1 => ?_)
      rw [hx] at i1
      obtain ⟨q, e1, e2, e3⟩ := hj i i0 i1
      have hm := hok.2 (i + 1) (by omega) (by omega)
      obtain ⟨a, b, e4⟩ := idx_in hm
      have hq := e2.2 ⟨_, a, b, e4⟩
      obtain ⟨q1, q2⟩ := e3 hq
      have := idx_rd hnd (i := q) (by omega) q1
      rw [q2] at this
      unfold placeList
      rw [rd_upmap (α := Int) _ i0 i1, e1]
      unfold lotI
      rw [this]
  | succ n ih =>
    intro k x6 k0 hk hx hr ha hj
    have hbad : ∀ kk, points_places.j2 (kk + 1) l lots x6 k (rd lots k) lots (lots.length : Int) k true = some ([], false) := fun kk => by rw [points_places.j2, if_pos rfl]
    by_cases c1 : rd lots k < 1
    · refine ⟨([], false), evUp 1 fun kk hkk => ?_, ⟨fun h => by simp at h, fun h => ?_⟩, fun h => by simp at h⟩
      · obtain ⟨kk, rfl⟩ : ∃ j, kk = j + 1 := ⟨kk - 1, by omega⟩
        rw [points_places.l1, if_pos (by omega), if_pos k0, if_pos (by omega), if_pos c1, hbad]
      · have := lots_range h (rd_mem k0 (by omega : k < lots.length)); omega
    by_cases c2 : rd lots k > l.length
    · refine ⟨([], false), evUp 1 fun kk hkk => ?_, ⟨fun h => by simp at h, fun h => ?_⟩, fun h => by simp at h⟩
      · obtain ⟨kk, rfl⟩ : ∃ j, kk = j + 1 := ⟨kk - 1, by omega⟩
        rw [points_places.l1, if_pos (by omega), if_pos k0, if_pos (by omega), if_neg c1, if_pos c2, hbad]
      · have := lots_range h (rd_mem k0 (by omega : k < lots.length)); omega
    have hw : wrap64 (rd lots k - 1) = rd lots k - 1 := w64 (by omega) (by omega)
    obtain ⟨q, e1, e2, e3⟩ := hj (rd lots k - 1) (by omega) (by omega)
    by_cases c3 : q ≥ 0
    · refine ⟨([], false), evUp 1 fun kk hkk => ?_, ⟨fun h => by simp at h, fun h => ?_⟩, fun h => by simp at h⟩
      · obtain ⟨kk, rfl⟩ : ∃ j, kk = j + 1 := ⟨kk - 1, by omega⟩
        rw [points_places.l1, if_pos (by omega), if_pos k0, if_pos (by omega), if_neg c1, if_neg c2, hw, if_pos (by omega), if_pos (by omega), e1]
        show points_places.j2 (kk + 1) l lots x6 k (rd lots k) lots (lots.length : Int) k (decide (q ≥ 0)) = _
        rw [decide_eq_true c3, hbad]
      · obtain ⟨t, t0, t1, e⟩ := e2.1 c3
        have := nodup_apart.1 (lots_nodup h) t k t0 t1 (by omega)
        exact absurd (by omega) this
    · obtain ⟨r, ⟨K, hK⟩, h2, h3⟩ := ih (k + 1) (x6.set (rd lots k - 1).toNat (plc l (rd lots k - 1) k)) (by omega) (by omega) (by rw [List.length_set]; exact hx) (fun t t0 t1 => by
          by_cases c : t = k
          · subst c; exact ⟨by omega, by omega⟩
          · exact hr t t0 (by omega)) (ha.succ (fun ⟨t, t0, t1, e⟩ => c3 (e2.2 ⟨t, t0, t1, by omega⟩))) (fun j j0 j1 => by
          rw [rd63_set (by omega) j0 (by omega)]
          by_cases c : j = rd lots k - 1
          · rw [if_pos c]
            refine ⟨k, by rw [c], ⟨fun _ => ⟨k, k0, by omega, by omega⟩, fun _ => k0⟩, fun _ => ⟨by omega, by omega⟩⟩
          · rw [if_neg c]
            obtain ⟨q', f1, f2, f3⟩ := hj j j0 j1
            refine ⟨q', f1, f2.trans ⟨fun ⟨t, t0, t1, e⟩ => ⟨t, t0, by omega, e⟩, fun ⟨t, t0, t1, e⟩ => ⟨t, t0, by
              by_cases d : t = k
              · subst d; exact absurd (by omega) c
              · omega, e⟩⟩, fun h => ⟨by have := (f3 h).1; omega, (f3 h).2⟩⟩)
      dsimp only at hK
      refine ⟨r, evUp (K + 1) fun kk hkk => ?_, h2, h3⟩
      obtain ⟨kk, rfl⟩ : ∃ j, kk = j + 1 := ⟨kk - 1, by omega⟩
      rw [points_places.l1, if_pos (by omega), if_pos k0, if_pos (by omega), if_neg c1, if_neg c2, hw, if_pos (by omega), if_pos (by omega), e1]
      show points_places.j2 (kk + 1) l lots x6 k (rd lots k) lots (lots.length : Int) k (decide (q ≥ 0)) = _
      rw [decide_eq_false c3, points_places.j2, if_neg (by decide), hw, if_pos (by omega), if_pos (by omega), e1, w64 (by omega) (by omega)]
      exact hK kk (by omega)
/-- The first loop: the households, from number i on. -/
theorem places_l0 : ∀ (n : Nat) (i : Int) (x6 : List S63) (M : List (Int × Bool)), 0 ≤ i → i + n = l.length → x6.length = l.length →
    (∀ j : Int, 0 ≤ j → j < i → validS (rd_T25 l j) = true) → Apart (fun j => (rd_T25 l j).f0) i → Has M (fun j => (rd_T25 l j).f0) i →
    (∀ j : Int, 0 ≤ j → j < i → rd_T63 x6 j = plc l j (-1)) →
    ∃ r, Ev (fun kk => points_places.l0 kk l lots x6 l (l.length : Int) i M) r ∧ (r.2 = true ↔ GoodL l lots) ∧ (r.2 = true → r.1 = placeList l lots) := by
  intro n
  induction n with
  | zero =>
    intro i x6 M i0 hi hx hv ha hM hj
    have hie : i = l.length := by omega
    subst hie
    have hap : (l.map (fun x => x.f0)).Nodup := by
      rw [nodup_apart]
      intro s t s0 st tl
      simp only [List.length_map] at tl
      rw [rd_mapS _ l s0 (by omega), rd_mapS _ l (by omega) tl]
      exact ha s t s0 st tl
    have hval : ∀ x ∈ l, validS x = true := fun x hx => by
      obtain ⟨j, j0, j1, rfl⟩ := mem_rd25 hx
      exact hv j j0 j1
    obtain ⟨r, ⟨K, hK⟩, h2, h3⟩ := places_l1 l lots hl hL lots.length 0 x6 (by omega) (by omega) hx (fun t t0 t1 => by omega) (fun s t s0 st ti => by omega) (fun j j0 j1 => ⟨-1, hj j j0 j1, ⟨fun h => by omega, fun ⟨t, t0, t1, _⟩ => by omega⟩, fun h => by omega⟩)
    dsimp only at hK
    refine ⟨r, evUp K fun kk hkk => ?_, h2.trans ⟨fun h => ⟨hval, hap, h⟩, fun h => h.lots⟩, h3⟩
    rw [points_places.l0, if_neg (by omega)]
    exact hK kk hkk
  | succ n ih =>
    intro i x6 M i0 hi hx hv ha hM hj
    have hset : ∀ j : Int, 0 ≤ j → j < l.length → rd_T63 (x6.set i.toNat (plc l i (-1))) j = if j = i then plc l i (-1) else rd_T63 x6 j := fun j j0 j1 => rd63_set i0 j0 (by omega) _
    have hsi := hset i i0 (by omega)
    rw [if_pos rfl] at hsi
    have hgo : ∀ kk, points_places.l0 (kk + 1) l lots x6 l (l.length : Int) i M = (if validS (rd_T25 l i) = true then (if mgetB M (rd_T25 l i).f0 = true then some ([], false) else points_places.l0 kk l lots (x6.set i.toNat (plc l i (-1))) l (l.length : Int) (i + 1) (mput M (rd_T25 l i).f0 true)) else some ([], false)) := fun kk => by
      rw [points_places.l0, if_pos (by omega), if_pos i0, if_pos (by omega), if_pos (by omega), Option.bind_some]
      show (points_home_valid.f (rd_T63 (x6.set i.toNat (plc l i (-1))) i).f0.f0.f0 (rd_T63 (x6.set i.toNat (plc l i (-1))) i).f0.f0.f1 (rd_T63 (x6.set i.toNat (plc l i (-1))) i).f0.f0.f2 (rd_T63 (x6.set i.toNat (plc l i (-1))) i).f0.f0.f3 (rd_T63 (x6.set i.toNat (plc l i (-1))) i).f0.f0.f4).bind _ = _
      rw [hsi, home_eq, Option.bind_some, w64 (by omega) (by omega)]
      rfl
    by_cases c1 : validS (rd_T25 l i) = true
    · by_cases c2 : mgetB M (rd_T25 l i).f0 = true
      · refine ⟨([], false), evUp 0 fun kk _ => by rw [hgo, if_pos c1, if_pos c2], ⟨fun h => by simp at h, fun h => ?_⟩, fun h => by simp at h⟩
        obtain ⟨j, j0, j1, e⟩ := (hM _).1 c2
        have := nodup_apart.1 h.apart j i j0 j1 (by simp; omega)
        rw [rd_mapS _ l j0 (by omega), rd_mapS _ l i0 (by omega)] at this
        exact absurd e this
      · obtain ⟨r, ⟨K, hK⟩, h2, h3⟩ := ih (i + 1) (x6.set i.toNat (plc l i (-1))) (mput M (rd_T25 l i).f0 true) (by omega) (by omega) (by rw [List.length_set]; exact hx) (fun j j0 j1 => by
          by_cases c : j = i
          · subst c; exact c1
          · exact hv j j0 (by omega)) (ha.succ (fun h => c2 ((hM _).2 h))) (hM.succ i0) (fun j j0 j1 => by
          rw [hset j j0 (by omega)]
          by_cases c : j = i
          · rw [if_pos c, c]
          · rw [if_neg c]; exact hj j j0 (by omega))
        dsimp only at hK
        exact ⟨r, evUp K fun kk hkk => by rw [hgo, if_pos c1, if_neg c2]; exact hK kk hkk, h2, h3⟩
    · refine ⟨([], false), evUp 0 fun kk _ => by rw [hgo, if_neg c1], ⟨fun h => by simp at h, fun h => ?_⟩, fun h => by simp at h⟩
      exact absurd (h.val _ (rd25_mem i0 (by omega))) c1
theorem places_ev : ∃ r, Ev (fun kk => points_places.f kk l lots) r ∧ (r.2 = true ↔ GoodL l lots) ∧ (r.2 = true → r.1 = placeList l lots) := by
  obtain ⟨r, ⟨K, hK⟩, h2, h3⟩ := places_l0 l lots hl hL l.length 0 (List.replicate ((l.length : Int) : Int).toNat z63) [] (by omega) (by omega) (by simp) (fun j j0 j1 => by omega) (fun s t s0 st ti => by omega) (Has.zero _) (fun j j0 j1 => by omega)
  dsimp only at hK
  refine ⟨r, ⟨K, fun kk hkk => ?_⟩, h2, h3⟩
  show points_places.f kk l lots = _
  unfold points_places.f
  rw [if_pos (by omega), if_pos (by omega)]
  exact hK kk hkk
end
end Go.Proofs.YtfhmbfadbfnnaaaDoor.Pts
