/- What the reference's Order returns. Conditions: as each theorem states. -/
import Derived.Test.YtfhmbfadbfnnaaaDoorPtD
import Derived.Test.YtfhmbfadbfnnaaaDoorPx11
import Derived.Test.YtfhmbfadbfnnaaaDoorPx10
import Derived.Test.YtfhmbfadbfnnaaaDoorPx7
namespace Go.Proofs.YtfhmbfadbfnnaaaDoor.Pts
open Go.RowKit Go.Proofs.YtfhmbfadbfnnaaaDoorW.PrintWords Go.Proofs.YtfhmbfadbfnnaaaDoor.Given Go.Proofs.YtfhmbfadbfnnaaaDoor.Cal Go.Proofs.YtfhmbfadbfnnaaaDoor.Px
set_option linter.unusedVariables false
set_option linter.unusedSimpArgs false
set_option linter.unusedSectionVars false
theorem place_l0 (l : List Int) (x : Int) (hL : l.length ≤ 100000) : ∀ (n : Nat) (i : Int), 0 ≤ i → i + n = l.length → (∀ t : Int, 0 ≤ t → t < i → rd l t ≠ x) →
    ∃ r, Ev (fun k => cohousingref21_place.l0 k l x i) r ∧ (r < 0 ↔ ¬ x ∈ l) := by
  intro n
  induction n with
  | zero =>
    intro i i0 hi hb
    refine ⟨-1, evUp 0 fun k _ => by rw [cohousingref21_place.l0, if_neg (by omega)], ⟨fun _ h => ?_, fun _ => by omega⟩⟩
    obtain ⟨t, t0, t1, e⟩ := mem_rd h
    exact hb t t0 (by omega) e
  | succ n ih =>
    intro i i0 hi hb
    by_cases c : rd l i = x
    · exact ⟨i, evUp 0 fun k _ => by rw [cohousingref21_place.l0, if_pos (by omega), if_pos i0, if_pos c], ⟨fun h => by omega, fun h => absurd (c ▸ rd_mem i0 (by omega)) h⟩⟩
    · obtain ⟨r, ⟨K, hK⟩, hr⟩ := ih (i + 1) (by omega) (by omega) (fun t t0 t1 => by
        by_cases e : t = i
        · rw [e]; exact c
        · exact hb t t0 (by omega))
      dsimp only at hK
      exact ⟨r, evUp K fun k hk => by rw [cohousingref21_place.l0, if_pos (by omega), if_pos i0, if_neg c, w64 (by omega) (by omega)]; exact hK k hk, hr⟩
theorem place_ev (l : List Int) (x : Int) (hL : l.length ≤ 100000) : ∃ r, Ev (fun k => cohousingref21_place.f k l x) r ∧ (r < 0 ↔ ¬ x ∈ l) := by
  obtain ⟨r, h1, h2⟩ := place_l0 l x hL l.length 0 (by omega) (by omega) (fun t t0 t1 => by omega)
  exact ⟨r, h1, h2⟩
theorem lots_l0 (l : List Int) (n : Nat) (hL : l.length ≤ 100000) (hn : n ≤ 100000) : ∀ (m : Nat) (i : Int), 1 ≤ i → i + m = n + 1 → (∀ t : Int, 1 ≤ t → t < i → t ∈ l) →
    ∃ b, Ev (fun k => cohousingref21_Lots.l0 k l (n : Int) i) b ∧ (b = true ↔ ∀ t : Int, 1 ≤ t → t ≤ n → t ∈ l) := by
  intro m
  induction m with
  | zero =>
    intro i i0 hi hb
    exact ⟨true, evUp 0 fun k _ => by rw [cohousingref21_Lots.l0, if_neg (by omega)], ⟨fun _ t t0 t1 => hb t t0 (by omega), fun _ => rfl⟩⟩
  | succ m ih =>
    intro i i0 hi hb
    obtain ⟨p, ⟨K1, h1⟩, hp⟩ := place_ev l i hL
    dsimp only at h1
    by_cases c : p < 0
    · exact ⟨false, evUp K1 fun k hk => by rw [cohousingref21_Lots.l0, if_pos (by omega), h1 k hk, Option.bind_some, if_pos c], ⟨fun h => by simp at h, fun h => absurd (h i i0 (by omega)) (hp.1 c)⟩⟩
    · have hm : i ∈ l := Classical.byContradiction fun h => c (hp.2 h)
      obtain ⟨b, ⟨K, hK⟩, hr⟩ := ih (i + 1) (by omega) (by omega) (fun t t0 t1 => by
        by_cases e : t = i
        · rw [e]; exact hm
        · exact hb t t0 (by omega))
      dsimp only at hK
      exact ⟨b, evUp (K + K1) fun k hk => by rw [cohousingref21_Lots.l0, if_pos (by omega), h1 k (by omega), Option.bind_some, if_neg c, w64 (by omega) (by omega)]; exact hK k (by omega), hr⟩
theorem lots_ev (l : List Int) (n : Nat) (hL : l.length ≤ 100000) (hn : n ≤ 100000) : ∃ b, Ev (fun k => cohousingref21_Lots.f k l (n : Int)) b ∧ (b = true ↔ LotsOk l n) := by
  by_cases c : (l.length : Int) = n
  · obtain ⟨b, ⟨K, hK⟩, h2⟩ := lots_l0 l n hL hn n 1 (by omega) (by omega) (fun t t0 t1 => by omega)
    dsimp only at hK
    refine ⟨b, ⟨K, fun k hk => ?_⟩, h2.trans ⟨fun h => ⟨by omega, h⟩, fun h => h.2⟩⟩
    show cohousingref21_Lots.f k l (n : Int) = _
    unfold cohousingref21_Lots.f
    rw [if_pos c]
    exact hK k hk
  · refine ⟨false, ⟨0, fun k _ => ?_⟩, ⟨fun h => by simp at h, fun h => absurd (by have := h.1; omega) c⟩⟩
    show cohousingref21_Lots.f k l (n : Int) = _
    unfold cohousingref21_Lots.f
    rw [if_neg c]
theorem apart_l1 (l : List S25) (hl : l.length ≤ 100000) (i : Int) (i0 : 0 ≤ i) (i1 : i < l.length) (b : Bool) (P : Prop) (hnext : Ev (fun k => cohousingref21_apart.l0 k l (i + 1)) b) : ∀ (n : Nat) (j : Int), 0 ≤ j → j + n = i → (∀ t : Int, 0 ≤ t → t < j → (rd_T25 l t).f0 ≠ (rd_T25 l i).f0) →
    ∃ r, Ev (fun k => cohousingref21_apart.l1 k l i j) r ∧ ((r = false ∧ ∃ t : Int, 0 ≤ t ∧ t < i ∧ (rd_T25 l t).f0 = (rd_T25 l i).f0) ∨ (r = b ∧ ∀ t : Int, 0 ≤ t → t < i → (rd_T25 l t).f0 ≠ (rd_T25 l i).f0)) := by
  intro n
  induction n with
  | zero =>
    intro j j0 hj hb
    obtain ⟨K, hK⟩ := hnext
    dsimp only at hK
    exact ⟨b, evUp K fun k hk => by rw [cohousingref21_apart.l1, if_neg (by omega), w64 (by omega) (by omega)]; exact hK k hk, .inr ⟨rfl, fun t t0 t1 => hb t t0 (by omega)⟩⟩
  | succ n ih =>
    intro j j0 hj hb
    by_cases c : (rd_T25 l j).f0 = (rd_T25 l i).f0
    · exact ⟨false, evUp 0 fun k _ => by rw [cohousingref21_apart.l1, if_pos (by omega), if_pos j0, if_pos (by omega), if_pos i0, if_pos i1, if_pos c], .inl ⟨rfl, j, j0, by omega, c⟩⟩
    · obtain ⟨r, ⟨K, hK⟩, hr⟩ := ih (j + 1) (by omega) (by omega) (fun t t0 t1 => by
        by_cases e : t = j
        · rw [e]; exact c
        · exact hb t t0 (by omega))
      dsimp only at hK
      exact ⟨r, evUp K fun k hk => by rw [cohousingref21_apart.l1, if_pos (by omega), if_pos j0, if_pos (by omega), if_pos i0, if_pos i1, if_neg c, w64 (by omega) (by omega)]; exact hK k hk, hr⟩
theorem apart_l0 (l : List S25) (hl : l.length ≤ 100000) : ∀ (n : Nat) (i : Int), 0 ≤ i → i + n = l.length →
    ∃ b, Ev (fun k => cohousingref21_apart.l0 k l i) b ∧ (b = true ↔ (∀ j : Int, i ≤ j → j < l.length → validS (rd_T25 l j) = true) ∧ ∀ s t : Int, 0 ≤ s → s < t → i ≤ t → t < l.length → (rd_T25 l s).f0 ≠ (rd_T25 l t).f0) := by
  intro n
  induction n with
  | zero =>
    intro i i0 hi
    exact ⟨true, evUp 0 fun k _ => by rw [cohousingref21_apart.l0, if_neg (by omega)], ⟨fun _ => ⟨fun j j0 j1 => by omega, fun s t s0 st ti tl => by omega⟩, fun _ => rfl⟩⟩
  | succ n ih =>
    intro i i0 hi
    by_cases c1 : validS (rd_T25 l i) = true
    · obtain ⟨b, hb, hB⟩ := ih (i + 1) (by omega) (by omega)
      obtain ⟨r, ⟨K, hK⟩, hr⟩ := apart_l1 l hl i i0 (by omega) b True hb i.toNat 0 (by omega) (by omega) (fun t t0 t1 => by omega)
      dsimp only at hK
      refine ⟨r, evUp K fun k hk => ?_, ?_⟩
      · rw [cohousingref21_apart.l0, if_pos (by omega), if_pos i0, wait_eq, Option.bind_some]
        show (if validS (rd_T25 l i) = true then _ else _) = _
        rw [if_pos c1]
        exact hK k hk
      · rcases hr with ⟨rfl, t, t0, t1, e⟩ | ⟨rfl, h⟩
        · exact ⟨fun h => by simp at h, fun h => absurd e (h.2 t i t0 t1 (by omega) (by omega))⟩
        · rw [hB]
          constructor
          · rintro ⟨h1, h2⟩
            refine ⟨fun j j0 j1 => ?_, fun s t s0 st ti tl => ?_⟩
            · by_cases e : j = i
              · rw [e]; exact c1
              · exact h1 j (by omega) j1
            · by_cases e : t = i
              · subst e; exact h s s0 st
              · exact h2 s t s0 st (by omega) tl
          · rintro ⟨h1, h2⟩
            exact ⟨fun j j0 j1 => h1 j (by omega) j1, fun s t s0 st ti tl => h2 s t s0 st (by omega) tl⟩
    · refine ⟨false, evUp 0 fun k _ => ?_, ⟨fun h => by simp at h, fun h => absurd (h.1 i (by omega) (by omega)) c1⟩⟩
      rw [cohousingref21_apart.l0, if_pos (by omega), if_pos i0, wait_eq, Option.bind_some]
      show (if validS (rd_T25 l i) = true then _ else _) = _
      rw [if_neg c1]
theorem apart_ev (l : List S25) (hl : l.length ≤ 100000) : ∃ b, Ev (fun k => cohousingref21_apart.f k l) b ∧ (b = true ↔ (∀ x ∈ l, validS x = true) ∧ (l.map (fun x => x.f0)).Nodup) := by
  obtain ⟨b, h1, h2⟩ := apart_l0 l hl l.length 0 (by omega) (by omega)
  refine ⟨b, h1, h2.trans ?_⟩
  rw [nodup_apart]
  constructor
  · rintro ⟨a, c⟩
    refine ⟨fun x hx => ?_, fun s t s0 st tl => ?_⟩
    · obtain ⟨j, j0, j1, rfl⟩ := mem_rd25 hx
      exact a j j0 j1
    · simp only [List.length_map] at tl
      rw [rd_mapS _ l s0 (by omega), rd_mapS _ l (by omega) tl]
      exact c s t s0 st (by omega) tl
  · rintro ⟨a, c⟩
    refine ⟨fun j j0 j1 => a _ (rd25_mem j0 j1), fun s t s0 st ti tl => ?_⟩
    have := c s t s0 st (by simpa using tl)
    rw [rd_mapS _ l s0 (by omega), rd_mapS _ l (by omega) tl] at this
    exact this
/-! ### The selection -/
theorem rdB_set {l : List Bool} {i j : Int} (h0 : 0 ≤ i) (j0 : 0 ≤ j) (hj : j < l.length) (v : Bool) : rdOf false (l.set i.toNat v) j = if j = i then v else rdOf false l j := by
  unfold rdOf
  rw [List.getD_eq_getElem?_getD, List.getD_eq_getElem?_getD, List.getElem?_set]
  by_cases c : j = i
  · subst c
    rw [if_pos rfl, if_pos rfl, if_pos (by omega)]
    rfl
  · rw [if_neg (by omega), if_neg c]
structure Sel (pts lots : List Int) (n : Nat) (used : List Bool) (out : List Int) : Prop where
  len : used.length = n
  use : ∀ j : Int, 0 ≤ j → j < n → (rdOf false used j = true ↔ j ∈ out)
  nod : out.Nodup
  rng : ∀ x ∈ out, 0 ≤ x ∧ x < n
  pair : out.Pairwise (bef pts lots)
  rest : ∀ x ∈ out, ∀ y : Int, 0 ≤ y → y < n → ¬ y ∈ out → bef pts lots x y
def Best (pts lots out : List Int) (k best : Int) : Prop :=
  (best = -1 ∧ ∀ t : Int, 0 ≤ t → t < k → rd lots t - 1 ∈ out) ∨
  (∃ tb : Int, 0 ≤ tb ∧ tb < k ∧ best = rd lots tb - 1 ∧ ¬ best ∈ out ∧ ∀ t : Int, 0 ≤ t → t < k → ¬ rd lots t - 1 ∈ out → rd pts (rd lots t - 1) < rd pts best ∨ (rd pts (rd lots t - 1) = rd pts best ∧ tb ≤ t))
theorem sel_next {pts lots : List Int} {n : Nat} {used : List Bool} {out : List Int} (hL : LotsOk lots n) (h : Sel pts lots n used out) {best : Int} (hb : Best pts lots out n best) (hlt : out.length < n) :
    0 ≤ best ∧ best < n ∧ Sel pts lots n (used.set best.toNat true) (out ++ [best]) := by
  have hnd := lots_nodup hL
  rcases hb with ⟨_, hall⟩ | ⟨tb, tb0, tb1, e, hno, hmin⟩
  · exfalso
    have := pig (upI n) out (upI_nodup n) (fun x hx => by
      have hx' := mem_upI.1 hx
      obtain ⟨t, t0, t1, e⟩ := mem_rd (hL.2 (x + 1) (by omega) (by omega))
      have := hall t t0 (by have := hL.1; omega)
      rw [e] at this
      rw [show x = x + 1 - 1 by omega]
      exact this) (by rw [upI_length]; omega)
    have := this.length_eq
    rw [upI_length] at this
    omega
  · have hl := hL.1
    have hr := lots_range hL (rd_mem tb0 (by omega : tb < lots.length))
    have b0 : 0 ≤ best := by omega
    have b1 : best < n := by omega
    have hbest : ∀ y : Int, 0 ≤ y → y < n → ¬ y ∈ out → y ≠ best → bef pts lots best y := fun y y0 y1 hy hne => by
      obtain ⟨t, t0, t1, et⟩ := mem_rd (hL.2 (y + 1) (by omega) (by omega))
      have := hmin t t0 (by omega) (by rw [et]; rw [show y + 1 - 1 = y by omega]; exact hy)
      rw [et, show y + 1 - 1 = y by omega] at this
      have i1 := idx_rd hnd t0 t1
      have i2 := idx_rd hnd tb0 (by omega : tb < lots.length)
      rw [et] at i1
      rw [show rd lots tb = best + 1 by omega] at i2
      unfold bef lotI
      rw [i1, i2]
      rcases this with q | ⟨q, r⟩
      · exact .inl q
      · refine .inr ⟨q, ?_⟩
        rcases Int.lt_or_le tb t with z | z
        · exact z
        · exfalso
          have : t = tb := by omega
          rw [this] at et
          omega
    refine ⟨b0, b1, ⟨by rw [List.length_set]; exact h.len, fun j j0 j1 => ?_, ?_, fun x hx => ?_, ?_, fun x hx y y0 y1 hy => ?_⟩⟩
    · rw [rdB_set b0 j0 (by rw [h.len]; exact j1), List.mem_append, List.mem_singleton]
      by_cases c : j = best
      · rw [if_pos c]; simp [c]
      · rw [if_neg c, h.use j j0 j1]; simp [c]
    · rw [List.nodup_append]
      refine ⟨h.nod, by simp, fun x hx y hy e => ?_⟩
      rw [List.mem_singleton] at hy
      exact hno (by rw [← hy, ← e]; exact hx)
    · rcases List.mem_append.1 hx with q | q
      · exact h.rng x q
      · rw [List.mem_singleton] at q; omega
    · rw [List.pairwise_append]
      refine ⟨h.pair, by simp, fun x hx y hy => ?_⟩
      rw [List.mem_singleton] at hy
      rw [hy]
      exact h.rest x hx best b0 b1 hno
    · have hy1 : ¬ y ∈ out := fun q => hy (List.mem_append.2 (.inl q))
      have hy2 : y ≠ best := fun q => hy (List.mem_append.2 (.inr (by simp [q])))
      rcases List.mem_append.1 hx with q | q
      · exact h.rest x q y y0 y1 hy1
      · rw [List.mem_singleton] at q
        rw [q]
        exact hbest y y0 y1 hy1 hy2
section
variable (l : List S25) (lots pts : List Int) (hl : l.length ≤ 64) (hL : LotsOk lots l.length) (hp : pts.length = l.length)
include hl hL hp
theorem sel_l2 (used : List Bool) (out : List Int) (h : Sel pts lots l.length used out) (P : List Int × Int → Prop)
    (hgo : ∀ best, Best pts lots out l.length best → ∃ r, Ev (fun k => cohousingref21_Order.l2 k l lots pts used out best (lots.length : Int)) r ∧ P r) : ∀ (m : Nat) (k best : Int), 0 ≤ k → k + m = l.length → Best pts lots out k best →
    ∃ r, Ev (fun kk => cohousingref21_Order.l2 kk l lots pts used out best k) r ∧ P r := by
  have hln := hL.1
  intro m
  induction m with
  | zero =>
    intro k best k0 hk hb
    have : k = lots.length := by omega
    subst this
    exact hgo best (by rw [hln] at hb; exact hb)
  | succ m ih =>
    intro k best k0 hk hb
    have hr := lots_range hL (rd_mem k0 (by omega : k < lots.length))
    have hw : wrap64 (rd lots k - 1) = rd lots k - 1 := w64 (by omega) (by omega)
    have hu := h.use (rd lots k - 1) (by omega) (by omega)
    have hlen := h.len
    have hb0 : best < 0 ∨ (0 ≤ best ∧ best < l.length) := by
      rcases hb with ⟨e, _⟩ | ⟨tb, tb0, tb1, e, _⟩
      · omega
      · have := lots_range hL (rd_mem tb0 (by omega : tb < lots.length))
        omega
    -- what one round does
    have keep : Best pts lots out (k + 1) best → ∃ r, Ev (fun kk => cohousingref21_Order.j4 kk l lots pts used out best k (rd lots k - 1) false) r ∧ P r := fun hb' => by
      obtain ⟨r, ⟨K, hK⟩, hr'⟩ := ih (k + 1) best (by omega) (by omega) hb'
      dsimp only at hK
      exact ⟨r, evUp K fun kk hkk => by rw [cohousingref21_Order.j4, if_neg (by decide), w64 (by omega) (by omega)]; exact hK kk hkk, hr'⟩
    have turn : Best pts lots out (k + 1) (rd lots k - 1) → ∃ r, Ev (fun kk => cohousingref21_Order.j4 kk l lots pts used out best k (rd lots k - 1) true) r ∧ P r := fun hb' => by
      obtain ⟨r, ⟨K, hK⟩, hr'⟩ := ih (k + 1) (rd lots k - 1) (by omega) (by omega) hb'
      dsimp only at hK
      exact ⟨r, evUp K fun kk hkk => by rw [cohousingref21_Order.j4, if_pos rfl, w64 (by omega) (by omega)]; exact hK kk hkk, hr'⟩
    by_cases c1 : rdOf false used (rd lots k - 1) = true
    · have hin := hu.1 c1
      obtain ⟨r, ⟨K, hK⟩, hr'⟩ := keep (by
        rcases hb with ⟨e, hall⟩ | ⟨tb, tb0, tb1, e, hno, hmin⟩
        · refine .inl ⟨e, fun t t0 t1 => ?_⟩
          by_cases q : t = k
          · rw [q]; exact hin
          · exact hall t t0 (by omega)
        · refine .inr ⟨tb, tb0, by omega, e, hno, fun t t0 t1 ht => ?_⟩
          by_cases q : t = k
          · rw [q] at ht; exact absurd hin ht
          · exact hmin t t0 (by omega) ht)
      dsimp only at hK
      exact ⟨r, evUp K fun kk hkk => by rw [cohousingref21_Order.l2, if_pos (by omega), if_pos k0, hw, if_pos (by omega), if_pos (by omega), if_pos c1]; exact hK kk hkk, hr'⟩
    · have hout : ¬ rd lots k - 1 ∈ out := fun q => c1 (hu.2 q)
      by_cases c2 : best < 0
      · obtain ⟨r, ⟨K, hK⟩, hr'⟩ := turn (by
          rcases hb with ⟨e, hall⟩ | ⟨tb, tb0, tb1, e, hno, hmin⟩
          · refine .inr ⟨k, k0, by omega, rfl, hout, fun t t0 t1 ht => ?_⟩
            by_cases q : t = k
            · rw [q]; exact .inr ⟨rfl, by omega⟩
            · exact absurd (hall t t0 (by omega)) ht
          · have := lots_range hL (rd_mem tb0 (by omega : tb < lots.length))
            omega)
        dsimp only at hK
        exact ⟨r, evUp K fun kk hkk => by rw [cohousingref21_Order.l2, if_pos (by omega), if_pos k0, hw, if_pos (by omega), if_pos (by omega), if_neg c1, if_pos c2]; exact hK kk hkk, hr'⟩
      · have hstep : ∀ kk, cohousingref21_Order.l2 (kk + 1) l lots pts used out best k = cohousingref21_Order.j4 kk l lots pts used out best k (rd lots k - 1) (decide (rd pts (rd lots k - 1) > rd pts best)) := fun kk => by
          rw [cohousingref21_Order.l2, if_pos (by omega), if_pos k0, hw, if_pos (by omega), if_pos (by omega), if_neg c1, if_neg c2, if_pos (by omega), if_pos (by omega), if_pos (by omega)]
        rcases hb with ⟨e, _⟩ | ⟨tb, tb0, tb1, e, hno, hmin⟩
        · omega
        by_cases c3 : rd pts (rd lots k - 1) > rd pts best
        · obtain ⟨r, ⟨K, hK⟩, hr'⟩ := turn (.inr ⟨k, k0, by omega, rfl, hout, fun t t0 t1 ht => by
            by_cases q : t = k
            · rw [q]; exact .inr ⟨rfl, by omega⟩
            · have := hmin t t0 (by omega) ht
              left
              omega⟩)
          dsimp only at hK
          exact ⟨r, evUp K fun kk hkk => by rw [hstep, decide_eq_true c3]; exact hK kk hkk, hr'⟩
        · obtain ⟨r, ⟨K, hK⟩, hr'⟩ := keep (.inr ⟨tb, tb0, by omega, e, hno, fun t t0 t1 ht => by
            by_cases q : t = k
            · rw [q]
              omega
            · exact hmin t t0 (by omega) ht⟩)
          dsimp only at hK
          exact ⟨r, evUp K fun kk hkk => by rw [hstep, decide_eq_false c3]; exact hK kk hkk, hr'⟩
theorem sel_l1 : ∀ (m : Nat) (used : List Bool) (out : List Int), out.length + m = l.length → Sel pts lots l.length used out →
    ∃ r, Ev (fun k => cohousingref21_Order.l1 k l lots pts used out) r ∧ (r.2 = 0 ∧ IsOrd pts lots l.length r.1) := by
  intro m
  induction m with
  | zero =>
    intro used out hm h
    refine ⟨(out, 0), evUp 0 fun k _ => by rw [cohousingref21_Order.l1, if_neg (by omega)], rfl, ?_, h.pair⟩
    exact pig out (upI l.length) h.nod (fun x hx => mem_upI.2 (h.rng x hx)) (by rw [upI_length]; omega)
  | succ m ih =>
    intro used out hm h
    have hln := hL.1
    obtain ⟨r, ⟨K, hK⟩, hr⟩ := sel_l2 l lots pts hl hL hp used out h (fun r => r.2 = 0 ∧ IsOrd pts lots l.length r.1) (fun best hb => by
      obtain ⟨b0, b1, hs⟩ := sel_next hL h hb (by omega)
      obtain ⟨r, ⟨K, hK⟩, hr⟩ := ih (used.set best.toNat true) (out ++ [best]) (by simp; omega) hs
      dsimp only at hK
      have := h.len
      exact ⟨r, evUp K fun k hk => by rw [cohousingref21_Order.l2, if_neg (by omega), if_pos b0, if_pos (by omega), if_pos (by omega)]; exact hK k hk, hr⟩) l.length 0 (-1) (by omega) (by omega) (.inl ⟨rfl, fun t t0 t1 => by omega⟩)
    dsimp only at hK
    exact ⟨r, evUp K fun k hk => by rw [cohousingref21_Order.l1, if_pos (by omega)]; exact hK k hk, hr⟩
end
section
variable (a b c d : Int) (l : List S25) (day : Int) (lots : List Int) (hl : l.length ≤ 64) (hw : validW a b c d = true) (hg : GoodL l lots)
include hl hw hg
theorem rorder_l0 : ∀ (n : Nat) (i : Int) (x : List Int), 0 ≤ i → i + n = l.length → (x.length : Int) = i → (∀ j : Int, 0 ≤ j → j < i → (cntF a b c d day (rd_T25 l j)).2 = 0) →
    (∀ j : Int, 0 ≤ j → j < i → rd x j = (cntF a b c d day (rd_T25 l j)).1) →
    ∃ r, Ev (fun k => cohousingref21_Order.l0 k l day lots x i a b c d) r ∧ OrderRes a b c d l day lots r := by
  intro n
  induction n with
  | zero =>
    intro i x i0 hi hx he hj
    have he0 : errs (cntF a b c d day) l = 0 := errs_ok.2 fun y hy => by
      obtain ⟨j, j0, j1, rfl⟩ := mem_rd25 hy
      exact he j j0 (by omega)
    have hxe : x = l.map (fun x => (cntF a b c d day x).1) := by
      refine ext_rd (by simp; omega) (fun j j0 j1 => ?_)
      rw [hj j j0 (by omega), rd_mapS _ l j0 (by omega)]
    have hr0 : ∀ j : Int, rdOf false (List.replicate ((l.length : Int) : Int).toNat false) j = false := fun j => by
      unfold rdOf
      rw [List.getD_eq_getElem?_getD, List.getElem?_replicate]
      split <;> rfl
    obtain ⟨r, ⟨K, hK⟩, h1, h2⟩ := sel_l1 l lots x hl hg.lots (by omega) l.length (List.replicate ((l.length : Int) : Int).toNat false) [] (by simp) ⟨by simp, fun j j0 j1 => by rw [hr0]; simp, by simp, fun x hx => by simp at hx, by simp, fun x hx => by simp at hx⟩
    dsimp only at hK
    refine ⟨r, evUp K fun k hk => ?_, ⟨fun hb => absurd ⟨hw, hl, hg⟩ hb, fun _ hne => absurd he0 hne, fun _ _ => ⟨h1, by rw [← hxe]; exact h2⟩⟩⟩
    rw [cohousingref21_Order.l0, if_neg (by omega), if_pos (by omega), if_pos (by omega)]
    exact hK k hk
  | succ n ih =>
    intro i x i0 hi hx he hj
    obtain ⟨K1, h1⟩ := rcount_ev a b c d (rd_T25 l i).f0 (rd_T25 l i).f1 (rd_T25 l i).f2 (rd_T25 l i).f3 (rd_T25 l i).f4 day
    dsimp only at h1
    have hstep : ∀ k, K1 ≤ k → cohousingref21_Order.l0 (k + 1) l day lots x i a b c d = (if (cntF a b c d day (rd_T25 l i)).2 = 0 then (cohousingref21_Order.l0 k l day lots (x ++ [(cntF a b c d day (rd_T25 l i)).1]) (i + 1) a b c d) else some ([], (cntF a b c d day (rd_T25 l i)).2)) := fun k hk => by
      rw [cohousingref21_Order.l0, if_pos (by omega), if_pos i0, h1 k hk, Option.bind_some, if_pos (show x.length < 17592186044416 by omega), w64 (by omega) (by omega)]
      rfl
    by_cases c1 : (cntF a b c d day (rd_T25 l i)).2 = 0
    · obtain ⟨r, ⟨K, hK⟩, hr⟩ := ih (i + 1) (x ++ [(cntF a b c d day (rd_T25 l i)).1]) (by omega) (by omega) (by simp; omega) (fun j j0 j1 => by
          by_cases e : j = i
          · rw [e]; exact c1
          · exact he j j0 (by omega)) (fun j j0 j1 => by
          unfold rd
          rw [List.getD_eq_getElem?_getD]
          by_cases e : j = i
          · rw [List.getElem?_append_right (by omega), e, show i.toNat - x.length = 0 by omega]
            rfl
          · rw [List.getElem?_append_left (by omega), ← List.getD_eq_getElem?_getD]
            exact hj j j0 (by omega))
      dsimp only at hK
      exact ⟨r, evUp (K + K1) fun k hk => by rw [hstep k (by omega), if_pos c1]; exact hK k (by omega), hr⟩
    · have hf := errs_first (cnt := cntF a b c d day) i0 (by omega : i < l.length) he c1
      refine ⟨([], (cntF a b c d day (rd_T25 l i)).2), evUp K1 fun k hk => by rw [hstep k hk, if_neg c1], ⟨fun hb => absurd ⟨hw, hl, hg⟩ hb, fun _ _ => by rw [hf], fun _ h0 => absurd (hf ▸ h0) c1⟩⟩
end
theorem rorder_ev (a b c d : Int) (l : List S25) (day : Int) (lots : List Int) (hl : l.length ≤ 100000) (hL : lots.length ≤ 100000) : ∃ r, Ev (fun k => cohousingref21_Order.f k a b c d l day lots) r ∧ OrderRes a b c d l day lots r := by
  have hbad : ∀ k, cohousingref21_Order.j0 (k + 1) l day lots true a b c d = some ([], 1) := fun k => by rw [cohousingref21_Order.j0, if_pos rfl]
  have res : ¬ (validW a b c d = true ∧ l.length ≤ 64 ∧ GoodL l lots) → OrderRes a b c d l day lots ([], 1) := fun h => ⟨fun _ => rfl, fun g => absurd g h, fun g => absurd g h⟩
  by_cases hw : validW a b c d = true
  case neg =>
    refine ⟨([], 1), evUp 0 fun k _ => ?_, res (fun h => hw h.1)⟩
    show cohousingref21_Order.f (k + 1) a b c d l day lots = _
    unfold cohousingref21_Order.f
    rw [rweights_eq, Option.bind_some, if_neg hw, hbad]
  by_cases h64 : (l.length : Int) > 64
  · refine ⟨([], 1), evUp 0 fun k _ => ?_, res (fun h => by omega)⟩
    show cohousingref21_Order.f (k + 1) a b c d l day lots = _
    unfold cohousingref21_Order.f
    rw [rweights_eq, Option.bind_some, if_pos hw, if_pos h64, hbad]
  obtain ⟨p, ⟨K1, h1⟩, hp⟩ := apart_ev l hl
  dsimp only at h1
  by_cases c1 : p = true
  case neg =>
    refine ⟨([], 1), evUp K1 fun k hk => ?_, res (fun h => c1 (hp.2 ⟨h.2.2.val, h.2.2.apart⟩))⟩
    show cohousingref21_Order.f (k + 1) a b c d l day lots = _
    unfold cohousingref21_Order.f
    rw [rweights_eq, Option.bind_some, if_pos hw, if_neg h64, h1 _ (by omega), Option.bind_some, if_neg c1, hbad]
  obtain ⟨q, ⟨K2, h2⟩, hq⟩ := lots_ev lots l.length hL hl
  dsimp only at h2
  have hgo : ∀ k, K1 + K2 ≤ k → cohousingref21_Order.f (k + 1) a b c d l day lots = cohousingref21_Order.j0 (k + 1) l day lots (!q) a b c d := fun k hk => by
    unfold cohousingref21_Order.f
    rw [rweights_eq, Option.bind_some, if_pos hw, if_neg h64, h1 _ (by omega), Option.bind_some, if_pos c1, h2 _ (by omega), Option.bind_some]
  cases q with
  | false =>
    refine ⟨([], 1), evUp (K1 + K2) fun k hk => ?_, res (fun h => by have := hq.2 h.2.2.lots; simp at this)⟩
    rw [hgo k hk]
    exact hbad k
  | true =>
    have hg : GoodL l lots := ⟨(hp.1 c1).1, (hp.1 c1).2, hq.1 rfl⟩
    obtain ⟨r, ⟨K3, h3⟩, hr⟩ := rorder_l0 a b c d l day lots (by omega) hw hg l.length 0 [] (by omega) (by omega) (by simp) (fun j j0 j1 => by omega) (fun j j0 j1 => by omega)
    dsimp only at h3
    refine ⟨r, evUp (K1 + K2 + K3) fun k hk => ?_, hr⟩
    rw [hgo k (by omega), cohousingref21_Order.j0, if_neg (by decide)]
    exact h3 k (by omega)
/-! ### Same -/
theorem same_l0 (x y : List Int) (he : x.length = y.length) (hx : x.length ≤ 1000000) : ∀ (n : Nat) (i : Int), 0 ≤ i → i + n = x.length → (∀ t : Int, 0 ≤ t → t < i → rd x t = rd y t) →
    ∃ b, Ev (fun k => cohousingref21_Same.l0 k x y i) b ∧ (b = true ↔ x = y) := by
  intro n
  induction n with
  | zero =>
    intro i i0 hi hb
    exact ⟨true, evUp 0 fun k _ => by rw [cohousingref21_Same.l0, if_neg (by omega)], ⟨fun _ => ext_rd he (fun t t0 t1 => hb t t0 (by omega)), fun _ => rfl⟩⟩
  | succ n ih =>
    intro i i0 hi hb
    by_cases c : rd x i = rd y i
    · obtain ⟨b, ⟨K, hK⟩, hr⟩ := ih (i + 1) (by omega) (by omega) (fun t t0 t1 => by
        by_cases e : t = i
        · rw [e]; exact c
        · exact hb t t0 (by omega))
      dsimp only at hK
      exact ⟨b, evUp K fun k hk => by rw [cohousingref21_Same.l0, if_pos (by omega), if_pos i0, if_pos (by omega), if_pos c, w64 (by omega) (by omega)]; exact hK k hk, hr⟩
    · exact ⟨false, evUp 0 fun k _ => by rw [cohousingref21_Same.l0, if_pos (by omega), if_pos i0, if_pos (by omega), if_neg c], ⟨fun h => by simp at h, fun h => absurd (by rw [h]) c⟩⟩
theorem same_ev (x y : List Int) (hx : x.length ≤ 1000000) : ∃ b, Ev (fun k => cohousingref21_Same.f k x y) b ∧ (b = true ↔ x = y) := by
  by_cases c : (x.length : Int) = y.length
  · obtain ⟨b, ⟨K, hK⟩, h2⟩ := same_l0 x y (by omega) hx x.length 0 (by omega) (by omega) (fun t t0 t1 => by omega)
    dsimp only at hK
    refine ⟨b, ⟨K, fun k hk => ?_⟩, h2⟩
    show cohousingref21_Same.f k x y = _
    unfold cohousingref21_Same.f
    rw [if_pos c]
    exact hK k hk
  · refine ⟨false, ⟨0, fun k _ => ?_⟩, ⟨fun h => by simp at h, fun h => absurd (by rw [h]) c⟩⟩
    show cohousingref21_Same.f k x y = _
    unfold cohousingref21_Same.f
    rw [if_neg c]
end Go.Proofs.YtfhmbfadbfnnaaaDoor.Pts
