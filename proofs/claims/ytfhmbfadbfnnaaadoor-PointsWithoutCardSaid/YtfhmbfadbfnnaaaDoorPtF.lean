/- The one order of waiting households: plain lists, no Go. What the program's order of households is: places, points, the sort. What the program's Order returns. What the reference tells of lots, and Same. What 'usable' and 'at' of the points' statements tell. Conditions: as each theorem states. -/
import Derived.Test.YtfhmbfadbfnnaaaDoorPtA
import Derived.Test.YtfhmbfadbfnnaaaDoorGRowK
import Derived.Test.YtfhmbfadbfnnaaaDoorPx0
import Derived.Test.YtfhmbfadbfnnaaaDoorGSort
import Derived.Test.YtfhmbfadbfnnaaaDoorPx4
import Derived.Test.YtfhmbfadbfnnaaaDoorPx6
import Derived.Test.YtfhmbfadbfnnaaaDoorPx10
import Derived.Test.YtfhmbfadbfnnaaaDoorPx7
import Derived.Test.YtfhmbfadbfnnaaaDoorPx14
namespace Go.Proofs.YtfhmbfadbfnnaaaDoor.Pts
open Go.RowKit Go.Proofs.YtfhmbfadbfnnaaaDoorW.PrintWords Go.Proofs.YtfhmbfadbfnnaaaDoor.Given Go.Proofs.YtfhmbfadbfnnaaaDoor.Cal Go.Proofs.YtfhmbfadbfnnaaaDoor.Px
set_option linter.unusedVariables false
set_option linter.unusedSimpArgs false
/-! ### Lists of numbers, read by a whole number -/
theorem rd_get {l : List Int} {i : Int} (h0 : 0 ≤ i) (h1 : i < l.length) : l[i.toNat]? = some (rd l i) := by
  unfold rd
  rw [List.getD_eq_getElem?_getD, List.getElem?_eq_getElem (by omega)]
  rfl
theorem rd_mem {l : List Int} {i : Int} (h0 : 0 ≤ i) (h1 : i < l.length) : rd l i ∈ l := List.mem_of_getElem? (rd_get h0 h1)
theorem mem_rd {l : List Int} {x : Int} (h : x ∈ l) : ∃ i : Int, 0 ≤ i ∧ i < l.length ∧ rd l i = x := by
  obtain ⟨n, hn, e⟩ := List.mem_iff_getElem.1 h
  refine ⟨(n : Int), by omega, by omega, ?_⟩
  unfold rd
  rw [List.getD_eq_getElem?_getD, show ((n : Int)).toNat = n by omega, List.getElem?_eq_getElem hn, e]
  rfl
theorem rd_nat (l : List Int) (n : Nat) (h : n < l.length) : rd l (n : Int) = l[n] := by
  unfold rd
  rw [List.getD_eq_getElem?_getD, show ((n : Int)).toNat = n by omega, List.getElem?_eq_getElem h]
  rfl
theorem ext_rd {l m : List Int} (hl : l.length = m.length) (h : ∀ i : Int, 0 ≤ i → i < l.length → rd l i = rd m i) : l = m := by
  refine List.ext_getElem hl fun n h1 h2 => ?_
  have := h (n : Int) (by omega) (by omega)
  rw [rd_nat l n h1, rd_nat m n h2] at this
  exact this
theorem rd_set {l : List Int} {i j : Int} (h0 : 0 ≤ i) (j0 : 0 ≤ j) (hj : j < l.length) (v : Int) : rd (l.set i.toNat v) j = if j = i then v else rd l j := by
  unfold rd
  rw [List.getD_eq_getElem?_getD, List.getD_eq_getElem?_getD, List.getElem?_set]
  by_cases c : j = i
  · subst c
    rw [if_pos rfl, if_pos rfl, if_pos (by omega)]
    rfl
  · rw [if_neg (by omega), if_neg c]
theorem rd_map {α : Type} (f : α → Int) (l : List α) (i : Int) (h0 : 0 ≤ i) (h1 : i < l.length) : rd (l.map f) i = f (l[i.toNat]'(by omega)) := by
  unfold rd
  rw [List.getD_eq_getElem?_getD, List.getElem?_map, List.getElem?_eq_getElem (by omega)]
  rfl
/-! ### The order -/
/-- Where a number stands in a list. -/
def idxI (l : List Int) (x : Int) : Int := (l.idxOf x : Nat)
/-- The numbers 0, 1, .., n - 1. -/
def upI (n : Nat) : List Int := (List.range n).map (fun i : Nat => (i : Int))
theorem upI_length (n : Nat) : (upI n).length = n := by simp [upI]
theorem mem_upI {n : Nat} {x : Int} : x ∈ upI n ↔ 0 ≤ x ∧ x < n := by
  unfold upI
  rw [List.mem_map]
  constructor
  · rintro ⟨k, hk, rfl⟩
    have := List.mem_range.1 hk
    omega
  · rintro ⟨h0, h1⟩
    exact ⟨x.toNat, List.mem_range.2 (by omega), by omega⟩
theorem upI_nodup (n : Nat) : (upI n).Nodup := by
  unfold upI
  rw [List.nodup_iff_pairwise_ne, List.pairwise_map]
  refine (List.nodup_iff_pairwise_ne.1 List.nodup_range).imp ?_
  intro a b h e
  omega
/-- Pigeons. -/
theorem pig : ∀ (l m : List Int), l.Nodup → (∀ x ∈ l, x ∈ m) → m.length ≤ l.length → l.Perm m
  | [], m, _, _, h => by
    have : m = [] := List.length_eq_zero_iff.1 (by simpa using h)
    rw [this]
  | a :: t, m, hn, hs, hl => by
    obtain ⟨h1, h2⟩ := List.nodup_cons.1 hn
    have ha : a ∈ m := hs a (by simp)
    have hp := List.perm_cons_erase ha
    have hlen : (m.erase a).length + 1 = m.length := by
      have := hp.length_eq
      simp at this
      omega
    have := pig t (m.erase a) h2 (fun x hx => (List.mem_erase_of_ne (fun e : x = a => h1 (by rw [← e]; exact hx))).2 (hs x (by simp [hx]))) (by simp at hl; omega)
    exact (this.cons a).trans hp.symm
/-- The lots are each of 1, .., n once. -/
def LotsOk (lots : List Int) (n : Nat) : Prop := lots.length = n ∧ ∀ i : Int, 1 ≤ i → i ≤ n → i ∈ lots
theorem lots_perm {lots : List Int} {n : Nat} (h : LotsOk lots n) : ((upI n).map (fun i => i + 1)).Perm lots := by
  refine pig _ _ ?_ (fun x hx => ?_) (by simp [upI_length, h.1])
  · rw [List.nodup_iff_pairwise_ne, List.pairwise_map]
    refine (List.nodup_iff_pairwise_ne.1 (upI_nodup n)).imp ?_
    intro a b h e
    omega
  · obtain ⟨i, hi, rfl⟩ := List.mem_map.1 hx
    have := mem_upI.1 hi
    exact h.2 _ (by omega) (by omega)
theorem lots_nodup {lots : List Int} {n : Nat} (h : LotsOk lots n) : lots.Nodup := by
  refine (lots_perm h).nodup_iff.1 ?_
  rw [List.nodup_iff_pairwise_ne, List.pairwise_map]
  refine (List.nodup_iff_pairwise_ne.1 (upI_nodup n)).imp ?_
  intro a b h e
  omega
theorem lots_range {lots : List Int} {n : Nat} (h : LotsOk lots n) {x : Int} (hx : x ∈ lots) : 1 ≤ x ∧ x ≤ n := by
  obtain ⟨i, hi, rfl⟩ := List.mem_map.1 ((lots_perm h).symm.subset hx)
  have := mem_upI.1 hi
  omega
theorem lots_of {lots : List Int} {n : Nat} (hl : lots.length = n) (hn : lots.Nodup) (hr : ∀ x ∈ lots, 1 ≤ x ∧ x ≤ n) : LotsOk lots n := by
  refine ⟨hl, fun i h0 h1 => ?_⟩
  have hp := pig lots ((upI n).map (fun i => i + 1)) hn (fun x hx => by
    have := hr x hx
    exact List.mem_map.2 ⟨x - 1, mem_upI.2 (by omega), by omega⟩) (by simp [upI_length, hl])
  exact hp.symm.subset (List.mem_map.2 ⟨i - 1, mem_upI.2 (by omega), by omega⟩)
/-- The place of household i's lot. -/
def lotI (lots : List Int) (i : Int) : Int := idxI lots (i + 1)
theorem idx_in {l : List Int} {x : Int} (h : x ∈ l) : 0 ≤ idxI l x ∧ idxI l x < l.length ∧ rd l (idxI l x) = x := by
  have h1 := List.idxOf_lt_length_iff.2 h
  refine ⟨by unfold idxI; omega, by unfold idxI; omega, ?_⟩
  unfold idxI
  rw [rd_nat l _ h1]
  exact List.getElem_idxOf h1
theorem idx_rd {l : List Int} (hn : l.Nodup) {i : Int} (h0 : 0 ≤ i) (h1 : i < l.length) : idxI l (rd l i) = i := by
  have e : rd l i = l[i.toNat]'(by omega) := by
    have := rd_nat l i.toNat (by omega)
    rw [show ((i.toNat : Nat) : Int) = i by omega] at this
    exact this
  rw [e]
  unfold idxI
  rw [hn.idxOf_getElem]
  omega
/-- i stands before j. -/
def bef (pts lots : List Int) (i j : Int) : Prop := rd pts j < rd pts i ∨ (rd pts j = rd pts i ∧ lotI lots i < lotI lots j)
theorem bef_not {pts lots : List Int} {i j : Int} (h : bef pts lots i j) (k : bef pts lots j i) : False := by
  unfold bef at h k
  omega
structure IsOrd (pts lots : List Int) (n : Nat) (out : List Int) : Prop where
  perm : out.Perm (upI n)
  pair : out.Pairwise (bef pts lots)
theorem IsOrd.unique {pts lots out out2 : List Int} {n : Nat} (h : IsOrd pts lots n out) (k : IsOrd pts lots n out2) : out = out2 :=
  List.Perm.eq_of_pairwise (le := bef pts lots) (fun a b _ _ h1 h2 => (bef_not h1 h2).elim) h.pair k.pair (h.perm.trans k.perm.symm)
theorem IsOrd.length {pts lots out : List Int} {n : Nat} (h : IsOrd pts lots n out) : out.length = n := by rw [h.perm.length_eq, upI_length]
theorem IsOrd.nodup {pts lots out : List Int} {n : Nat} (h : IsOrd pts lots n out) : out.Nodup := h.perm.nodup_iff.2 (upI_nodup n)
theorem IsOrd.mem {pts lots out : List Int} {n : Nat} (h : IsOrd pts lots n out) {x : Int} : x ∈ out ↔ 0 ≤ x ∧ x < n := by rw [h.perm.mem_iff, mem_upI]
/-- What Order returns: an error, or the order. -/
def errs (cnt : S25 → Int × Int) : List S25 → Int
  | [] => 0
  | x :: t => if (cnt x).2 = 0 then errs cnt t else (cnt x).2
theorem errs_ok {cnt : S25 → Int × Int} : ∀ {l : List S25}, errs cnt l = 0 ↔ ∀ x ∈ l, (cnt x).2 = 0
  | [] => by simp [errs]
  | x :: t => by
    unfold errs
    by_cases c : (cnt x).2 = 0
    · rw [if_pos c, errs_ok]
      simp [c]
    · rw [if_neg c]
      simp [c]
noncomputable def cntF (a b c d day : Int) (x : S25) : Int × Int := countOf 21 a b c d x.f0 x.f1 x.f2 x.f3 x.f4 day
def validS (x : S25) : Bool := validH x.f0 x.f1 x.f2 x.f3 x.f4
structure GoodL (l : List S25) (lots : List Int) : Prop where
  val : ∀ x ∈ l, validS x = true
  apart : (l.map (fun x => x.f0)).Nodup
  lots : LotsOk lots l.length
structure OrderRes (a b c d : Int) (l : List S25) (day : Int) (lots : List Int) (r : List Int × Int) : Prop where
  bad : ¬ (validW a b c d = true ∧ l.length ≤ 64 ∧ GoodL l lots) → r = ([], 1)
  err : (validW a b c d = true ∧ l.length ≤ 64 ∧ GoodL l lots) → errs (cntF a b c d day) l ≠ 0 → r = ([], errs (cntF a b c d day) l)
  ord : (validW a b c d = true ∧ l.length ≤ 64 ∧ GoodL l lots) → errs (cntF a b c d day) l = 0 → r.2 = 0 ∧ IsOrd (l.map (fun x => (cntF a b c d day x).1)) lots l.length r.1
theorem OrderRes.unique {a b c d : Int} {l : List S25} {day : Int} {lots : List Int} {r r' : List Int × Int} (h : OrderRes a b c d l day lots r) (k : OrderRes a b c d l day lots r') : r = r' := by
  by_cases g : validW a b c d = true ∧ l.length ≤ 64 ∧ GoodL l lots
  · by_cases e : errs (cntF a b c d day) l = 0
    · obtain ⟨h1, h2⟩ := h.ord g e
      obtain ⟨k1, k2⟩ := k.ord g e
      exact Prod.ext (h2.unique k2) (h1.trans k1.symm)
    · rw [h.err g e, k.err g e]
  · rw [h.bad g, k.bad g]
end Go.Proofs.YtfhmbfadbfnnaaaDoor.Pts
namespace Go.Proofs.YtfhmbfadbfnnaaaDoor.Pts
open Go.RowKit Go.Proofs.YtfhmbfadbfnnaaaDoorW.PrintWords Go.Proofs.YtfhmbfadbfnnaaaDoor.Given Go.Proofs.YtfhmbfadbfnnaaaDoor.Cal Go.Proofs.YtfhmbfadbfnnaaaDoor.Px
set_option linter.unusedVariables false
set_option linter.unusedSimpArgs false
/-! ### Lists of structs, read by a whole number -/
theorem rd63_set {l : List S63} {i j : Int} (h0 : 0 ≤ i) (j0 : 0 ≤ j) (hj : j < l.length) (v : S63) : rd_T63 (l.set i.toNat v) j = if j = i then v else rd_T63 l j := by
  unfold rd_T63
  rw [List.getD_eq_getElem?_getD, List.getD_eq_getElem?_getD, List.getElem?_set]
  by_cases c : j = i
  · subst c
    rw [if_pos rfl, if_pos rfl, if_pos (by omega)]
    rfl
  · rw [if_neg (by omega), if_neg c]
theorem rd63_nat (l : List S63) (n : Nat) (h : n < l.length) : rd_T63 l (n : Int) = l[n] := by
  unfold rd_T63
  rw [List.getD_eq_getElem?_getD, show ((n : Int)).toNat = n by omega, List.getElem?_eq_getElem h]
  rfl
theorem rd25_nat (l : List S25) (n : Nat) (h : n < l.length) : rd_T25 l (n : Int) = l[n] := by
  unfold rd_T25
  rw [List.getD_eq_getElem?_getD, show ((n : Int)).toNat = n by omega, List.getElem?_eq_getElem h]
  rfl
theorem ext63 {l m : List S63} (hl : l.length = m.length) (h : ∀ i : Int, 0 ≤ i → i < l.length → rd_T63 l i = rd_T63 m i) : l = m := by
  refine List.ext_getElem hl fun n h1 h2 => ?_
  have := h (n : Int) (by omega) (by omega)
  rw [rd63_nat l n h1, rd63_nat m n h2] at this
  exact this
theorem rd25_mem {l : List S25} {i : Int} (h0 : 0 ≤ i) (h1 : i < l.length) : rd_T25 l i ∈ l := by
  have := rd25_nat l i.toNat (by omega)
  rw [show ((i.toNat : Nat) : Int) = i by omega] at this
  rw [this]
  exact List.getElem_mem _
theorem mem_rd25 {l : List S25} {x : S25} (h : x ∈ l) : ∃ i : Int, 0 ≤ i ∧ i < l.length ∧ rd_T25 l i = x := by
  obtain ⟨n, hn, e⟩ := List.mem_iff_getElem.1 h
  exact ⟨(n : Int), by omega, by omega, (rd25_nat l n hn).trans e⟩
theorem rd_mapS (f : S25 → Int) (l : List S25) {i : Int} (h0 : 0 ≤ i) (h1 : i < l.length) : rd (l.map f) i = f (rd_T25 l i) := by
  have e := rd_nat (l.map f) i.toNat (by simp; omega)
  have e2 := rd25_nat l i.toNat (by omega)
  rw [show ((i.toNat : Nat) : Int) = i by omega] at e e2
  rw [e, e2, List.getElem_map]
/-! ### A set of numbers, as a map -/
theorem mfind_mput {α : Type} (k p : Int) (v : α) : ∀ M : List (Int × α), mfind (mput M k v) p = if p = k then some v else mfind M p
  | [] => by
    by_cases c : p = k
    · simp [mput, mfind, c]
    · have d : ¬ k = p := fun e => c e.symm
      simp [mput, mfind, c, d]
  | q :: t => by
    by_cases c : q.1 = k
    · by_cases d : p = k
      · subst d
        simp [mput, mfind, c]
      · have e : ¬ q.1 = p := fun e => d (e.symm.trans c)
        simp only [mput, if_pos c, mfind, if_neg e, if_neg d]
    · simp only [mput, if_neg c, mfind, mfind_mput k p v t]
      by_cases d : q.1 = p
      · rw [if_pos d, if_pos d, if_neg (fun e => c (d.trans e))]
      · rw [if_neg d, if_neg d]
theorem mgetB_mput (M : List (Int × Bool)) (k p : Int) : mgetB (mput M k true) p = true ↔ p = k ∨ mgetB M p = true := by
  unfold mgetB
  rw [mfind_mput]
  by_cases c : p = k
  · simp [c]
  · rw [if_neg c]
    simp [c]
/-- The map holds what the first i elements hold. -/
def Has (M : List (Int × Bool)) (f : Int → Int) (i : Int) : Prop := ∀ p, mgetB M p = true ↔ ∃ j : Int, 0 ≤ j ∧ j < i ∧ f j = p
theorem Has.zero (f : Int → Int) : Has [] f 0 := fun p => ⟨fun h => by simp [mgetB, mfind] at h, fun ⟨j, h0, h1, _⟩ => by omega⟩
theorem Has.succ {M : List (Int × Bool)} {f : Int → Int} {i : Int} (h : Has M f i) (h0 : 0 ≤ i) : Has (mput M (f i) true) f (i + 1) := fun p => by
  rw [mgetB_mput, h p]
  constructor
  · rintro (rfl | ⟨j, j0, j1, e⟩)
    · exact ⟨i, h0, by omega, rfl⟩
    · exact ⟨j, j0, by omega, e⟩
  · rintro ⟨j, j0, j1, e⟩
    by_cases c : j = i
    · subst c; exact .inl e.symm
    · exact .inr ⟨j, j0, by omega, e⟩
/-- The first i elements are apart. -/
def Apart (f : Int → Int) (i : Int) : Prop := ∀ s t : Int, 0 ≤ s → s < t → t < i → f s ≠ f t
theorem Apart.succ {f : Int → Int} {i : Int} (h : Apart f i) (hn : ¬ ∃ j : Int, 0 ≤ j ∧ j < i ∧ f j = f i) : Apart f (i + 1) := fun s t s0 st ti e => by
  by_cases c : t = i
  · subst c; exact hn ⟨s, s0, st, e⟩
  · exact h s t s0 st (by omega) e
theorem nodup_apart {l : List Int} : l.Nodup ↔ Apart (rd l) l.length := by
  rw [List.nodup_iff_pairwise_ne, List.pairwise_iff_getElem]
  constructor
  · intro h s t s0 st tl
    have := h s.toNat t.toNat (by omega) (by omega) (by omega)
    have e1 := rd_nat l s.toNat (by omega)
    have e2 := rd_nat l t.toNat (by omega)
    rw [show ((s.toNat : Nat) : Int) = s by omega] at e1
    rw [show ((t.toNat : Nat) : Int) = t by omega] at e2
    rw [e1, e2]
    exact this
  · intro h i j hi hj hij e
    have := h (i : Int) (j : Int) (by omega) (by omega) (by omega)
    rw [rd_nat l i hi, rd_nat l j hj] at this
    exact this e
/-! ### Places -/
def plc (l : List S25) (j lot : Int) : S63 := ⟨⟨rd_T25 l j⟩, j, 0, lot⟩
def placeList (l : List S25) (lots : List Int) : List S63 := (upI l.length).map (fun j => plc l j (lotI lots j))
theorem rd_upmap {α : Type} (f : Int → S63) {n : Nat} {i : Int} (h0 : 0 ≤ i) (h1 : i < n) : rd_T63 ((upI n).map f) i = f i := by
  have e := rd63_nat ((upI n).map f) i.toNat (by simp [upI_length]; omega)
  rw [show ((i.toNat : Nat) : Int) = i by omega] at e
  rw [e, List.getElem_map]
  unfold upI
  rw [List.getElem_map, List.getElem_range]
  congr 1
  omega
section
variable (l : List S25) (lots : List Int) (hl : l.length ≤ 100000) (hL : lots.length ≤ 100000)
include hl hL
/-- The second loop: the lots, from number k on. -/
theorem places_l1 : ∀ (n : Nat) (k : Int) (x6 : List S63), 0 ≤ k → k + n = lots.length → x6.length = l.length →
    (∀ t : Int, 0 ≤ t → t < k → 1 ≤ rd lots t ∧ rd lots t ≤ l.length) → Apart (rd lots) k →
    (∀ j : Int, 0 ≤ j → j < l.length → ∃ q, rd_T63 x6 j = plc l j q ∧ (q ≥ 0 ↔ ∃ t : Int, 0 ≤ t ∧ t < k ∧ rd lots t = j + 1) ∧ (q ≥ 0 → q < k ∧ rd lots q = j + 1)) →
    ∃ r, Ev (fun kk => points_places.l1 kk l lots x6 lots (lots.length : Int) k) r ∧ (r.2 = true ↔ LotsOk lots l.length) ∧ (r.2 = true → r.1 = placeList l lots) := by
  intro n
  induction n with
  | zero =>
    intro k x6 k0 hk hx hr ha hj
    have hke : k = lots.length := by omega
    subst hke
    have hnd : lots.Nodup := nodup_apart.2 ha
    refine ⟨(x6, ((lots.length : Int) == (l.length : Int))), evUp 0 fun kk _ => ?_, ?_, ?_⟩
    · rw [points_places.l1, if_neg (by omega)]
    · simp only [beq_iff_eq]
      constructor
      · intro e
        refine lots_of (by omega) hnd (fun x hx => ?_)
        obtain ⟨t, t0, t1, rfl⟩ := mem_rd hx
        exact hr t t0 t1
      · intro h
        have := h.1
        omega
    · simp only [beq_iff_eq]
      intro e
      have hok : LotsOk lots l.length := lots_of (by omega) hnd (fun x hx => by
        obtain ⟨t, t0, t1, rfl⟩ := mem_rd hx
        exact hr t t0 t1)
      refine ext63 (by simp [placeList, upI_length, hx]) (fun i i0 i1 => ?_)
      rw [hx] at i1
      obtain ⟨q, e1, e2, e3⟩ := hj i i0 i1
      have hm := hok.2 (i + 1) (by omega) (by omega)
      obtain ⟨a, b, e4⟩ := idx_in hm
      have hq := e2.2 ⟨_, a, b, e4⟩
      obtain ⟨q1, q2⟩ := e3 hq
      have := idx_rd hnd (i := q) (by omega) q1
      rw [q2] at this
      unfold placeList
      rw [rd_upmap (α := Int) _ i0 i1, e1]
      unfold lotI
      rw [this]
  | succ n ih =>
    intro k x6 k0 hk hx hr ha hj
    have hbad : ∀ kk, points_places.j2 (kk + 1) l lots x6 k (rd lots k) lots (lots.length : Int) k true = some ([], false) := fun kk => by rw [points_places.j2, if_pos rfl]
    by_cases c1 : rd lots k < 1
    · refine ⟨([], false), evUp 1 fun kk hkk => ?_, ⟨fun h => by simp at h, fun h => ?_⟩, fun h => by simp at h⟩
      · obtain ⟨kk, rfl⟩ : ∃ j, kk = j + 1 := ⟨kk - 1, by omega⟩
        rw [points_places.l1, if_pos (by omega), if_pos k0, if_pos (by omega), if_pos c1, hbad]
      · have := lots_range h (rd_mem k0 (by omega : k < lots.length)); omega
    by_cases c2 : rd lots k > l.length
    · refine ⟨([], false), evUp 1 fun kk hkk => ?_, ⟨fun h => by simp at h, fun h => ?_⟩, fun h => by simp at h⟩
      · obtain ⟨kk, rfl⟩ : ∃ j, kk = j + 1 := ⟨kk - 1, by omega⟩
        rw [points_places.l1, if_pos (by omega), if_pos k0, if_pos (by omega), if_neg c1, if_pos c2, hbad]
      · have := lots_range h (rd_mem k0 (by omega : k < lots.length)); omega
    have hw : wrap64 (rd lots k - 1) = rd lots k - 1 := w64 (by omega) (by omega)
    obtain ⟨q, e1, e2, e3⟩ := hj (rd lots k - 1) (by omega) (by omega)
    by_cases c3 : q ≥ 0
    · refine ⟨([], false), evUp 1 fun kk hkk => ?_, ⟨fun h => by simp at h, fun h => ?_⟩, fun h => by simp at h⟩
      · obtain ⟨kk, rfl⟩ : ∃ j, kk = j + 1 := ⟨kk - 1, by omega⟩
        rw [points_places.l1, if_pos (by omega), if_pos k0, if_pos (by omega), if_neg c1, if_neg c2, hw, if_pos (by omega), if_pos (by omega), e1]
        show points_places.j2 (kk + 1) l lots x6 k (rd lots k) lots (lots.length : Int) k (decide (q ≥ 0)) = _
        rw [decide_eq_true c3, hbad]
      · obtain ⟨t, t0, t1, e⟩ := e2.1 c3
        have := nodup_apart.1 (lots_nodup h) t k t0 t1 (by omega)
        exact absurd (by omega) this
    · obtain ⟨r, ⟨K, hK⟩, h2, h3⟩ := ih (k + 1) (x6.set (rd lots k - 1).toNat (plc l (rd lots k - 1) k)) (by omega) (by omega) (by rw [List.length_set]; exact hx) (fun t t0 t1 => by
          by_cases c : t = k
          · subst c; exact ⟨by omega, by omega⟩
          · exact hr t t0 (by omega)) (ha.succ (fun ⟨t, t0, t1, e⟩ => c3 (e2.2 ⟨t, t0, t1, by omega⟩))) (fun j j0 j1 => by
          rw [rd63_set (by omega) j0 (by omega)]
          by_cases c : j = rd lots k - 1
          · rw [if_pos c]
            refine ⟨k, by rw [c], ⟨fun _ => ⟨k, k0, by omega, by omega⟩, fun _ => k0⟩, fun _ => ⟨by omega, by omega⟩⟩
          · rw [if_neg c]
            obtain ⟨q', f1, f2, f3⟩ := hj j j0 j1
            refine ⟨q', f1, f2.trans ⟨fun ⟨t, t0, t1, e⟩ => ⟨t, t0, by omega, e⟩, fun ⟨t, t0, t1, e⟩ => ⟨t, t0, by
              by_cases d : t = k
              · subst d; exact absurd (by omega) c
              · omega, e⟩⟩, fun h => ⟨by have := (f3 h).1; omega, (f3 h).2⟩⟩)
      dsimp only at hK
      refine ⟨r, evUp (K + 1) fun kk hkk => ?_, h2, h3⟩
      obtain ⟨kk, rfl⟩ : ∃ j, kk = j + 1 := ⟨kk - 1, by omega⟩
      rw [points_places.l1, if_pos (by omega), if_pos k0, if_pos (by omega), if_neg c1, if_neg c2, hw, if_pos (by omega), if_pos (by omega), e1]
      show points_places.j2 (kk + 1) l lots x6 k (rd lots k) lots (lots.length : Int) k (decide (q ≥ 0)) = _
      rw [decide_eq_false c3, points_places.j2, if_neg (by decide), hw, if_pos (by omega), if_pos (by omega), e1, w64 (by omega) (by omega)]
      exact hK kk (by omega)
/-- The first loop: the households, from number i on. -/
theorem places_l0 : ∀ (n : Nat) (i : Int) (x6 : List S63) (M : List (Int × Bool)), 0 ≤ i → i + n = l.length → x6.length = l.length →
    (∀ j : Int, 0 ≤ j → j < i → validS (rd_T25 l j) = true) → Apart (fun j => (rd_T25 l j).f0) i → Has M (fun j => (rd_T25 l j).f0) i →
    (∀ j : Int, 0 ≤ j → j < i → rd_T63 x6 j = plc l j (-1)) →
    ∃ r, Ev (fun kk => points_places.l0 kk l lots x6 l (l.length : Int) i M) r ∧ (r.2 = true ↔ GoodL l lots) ∧ (r.2 = true → r.1 = placeList l lots) := by
  intro n
  induction n with
  | zero =>
    intro i x6 M i0 hi hx hv ha hM hj
    have hie : i = l.length := by omega
    subst hie
    have hap : (l.map (fun x => x.f0)).Nodup := by
      rw [nodup_apart]
      intro s t s0 st tl
      simp only [List.length_map] at tl
      rw [rd_mapS _ l s0 (by omega), rd_mapS _ l (by omega) tl]
      exact ha s t s0 st tl
    have hval : ∀ x ∈ l, validS x = true := fun x hx => by
      obtain ⟨j, j0, j1, rfl⟩ := mem_rd25 hx
      exact hv j j0 j1
    obtain ⟨r, ⟨K, hK⟩, h2, h3⟩ := places_l1 l lots hl hL lots.length 0 x6 (by omega) (by omega) hx (fun t t0 t1 => by omega) (fun s t s0 st ti => by omega) (fun j j0 j1 => ⟨-1, hj j j0 j1, ⟨fun h => by omega, fun ⟨t, t0, t1, _⟩ => by omega⟩, fun h => by omega⟩)
    dsimp only at hK
    refine ⟨r, evUp K fun kk hkk => ?_, h2.trans ⟨fun h => ⟨hval, hap, h⟩, fun h => h.lots⟩, h3⟩
    rw [points_places.l0, if_neg (by omega)]
    exact hK kk hkk
  | succ n ih =>
    intro i x6 M i0 hi hx hv ha hM hj
    have hset : ∀ j : Int, 0 ≤ j → j < l.length → rd_T63 (x6.set i.toNat (plc l i (-1))) j = if j = i then plc l i (-1) else rd_T63 x6 j := fun j j0 j1 => rd63_set i0 j0 (by omega) _
    have hsi := hset i i0 (by omega)
    rw [if_pos rfl] at hsi
    have hgo : ∀ kk, points_places.l0 (kk + 1) l lots x6 l (l.length : Int) i M = (if validS (rd_T25 l i) = true then (if mgetB M (rd_T25 l i).f0 = true then some ([], false) else points_places.l0 kk l lots (x6.set i.toNat (plc l i (-1))) l (l.length : Int) (i + 1) (mput M (rd_T25 l i).f0 true)) else some ([], false)) := fun kk => by
      rw [points_places.l0, if_pos (by omega), if_pos i0, if_pos (by omega), if_pos (by omega), Option.bind_some]
      show (points_home_valid.f (rd_T63 (x6.set i.toNat (plc l i (-1))) i).f0.f0.f0 (rd_T63 (x6.set i.toNat (plc l i (-1))) i).f0.f0.f1 (rd_T63 (x6.set i.toNat (plc l i (-1))) i).f0.f0.f2 (rd_T63 (x6.set i.toNat (plc l i (-1))) i).f0.f0.f3 (rd_T63 (x6.set i.toNat (plc l i (-1))) i).f0.f0.f4).bind _ = _
      rw [hsi, home_eq, Option.bind_some, w64 (by omega) (by omega)]
      rfl
    by_cases c1 : validS (rd_T25 l i) = true
    · by_cases c2 : mgetB M (rd_T25 l i).f0 = true
      · refine ⟨([], false), evUp 0 fun kk _ => by rw [hgo, if_pos c1, if_pos c2], ⟨fun h => by simp at h, fun h => ?_⟩, fun h => by simp at h⟩
        obtain ⟨j, j0, j1, e⟩ := (hM _).1 c2
        have := nodup_apart.1 h.apart j i j0 j1 (by simp; omega)
        rw [rd_mapS _ l j0 (by omega), rd_mapS _ l i0 (by omega)] at this
        exact absurd e this
      · obtain ⟨r, ⟨K, hK⟩, h2, h3⟩ := ih (i + 1) (x6.set i.toNat (plc l i (-1))) (mput M (rd_T25 l i).f0 true) (by omega) (by omega) (by rw [List.length_set]; exact hx) (fun j j0 j1 => by
          by_cases c : j = i
          · subst c; exact c1
          · exact hv j j0 (by omega)) (ha.succ (fun h => c2 ((hM _).2 h))) (hM.succ i0) (fun j j0 j1 => by
          rw [hset j j0 (by omega)]
          by_cases c : j = i
          · rw [if_pos c, c]
          · rw [if_neg c]; exact hj j j0 (by omega))
        dsimp only at hK
        exact ⟨r, evUp K fun kk hkk => by rw [hgo, if_pos c1, if_neg c2]; exact hK kk hkk, h2, h3⟩
    · refine ⟨([], false), evUp 0 fun kk _ => by rw [hgo, if_neg c1], ⟨fun h => by simp at h, fun h => ?_⟩, fun h => by simp at h⟩
      exact absurd (h.val _ (rd25_mem i0 (by omega))) c1
theorem places_ev : ∃ r, Ev (fun kk => points_places.f kk l lots) r ∧ (r.2 = true ↔ GoodL l lots) ∧ (r.2 = true → r.1 = placeList l lots) := by
  obtain ⟨r, ⟨K, hK⟩, h2, h3⟩ := places_l0 l lots hl hL l.length 0 (List.replicate ((l.length : Int) : Int).toNat z63) [] (by omega) (by omega) (by simp) (fun j j0 j1 => by omega) (fun s t s0 st ti => by omega) (Has.zero _) (fun j j0 j1 => by omega)
  dsimp only at hK
  refine ⟨r, ⟨K, fun kk hkk => ?_⟩, h2, h3⟩
  show points_places.f kk l lots = _
  unfold points_places.f
  rw [if_pos (by omega), if_pos (by omega)]
  exact hK kk hkk
end
end Go.Proofs.YtfhmbfadbfnnaaaDoor.Pts
namespace Go.Proofs.YtfhmbfadbfnnaaaDoor.Pts
open Go.RowKit Go.Proofs.YtfhmbfadbfnnaaaDoorW.PrintWords Go.Proofs.YtfhmbfadbfnnaaaDoor.Given Go.Proofs.YtfhmbfadbfnnaaaDoor.Cal Go.Proofs.YtfhmbfadbfnnaaaDoor.Px
set_option linter.unusedVariables false
set_option linter.unusedSimpArgs false
set_option linter.unusedSectionVars false
theorem errs_at {cnt : S25 → Int × Int} : ∀ (l : List S25) (i : Nat) (hi : i < l.length), (∀ j (hj : j < i), (cnt (l[j]'(by omega))).2 = 0) → (cnt l[i]).2 ≠ 0 → errs cnt l = (cnt l[i]).2
  | [], i, hi, _, _ => by simp at hi
  | x :: t, 0, hi, _, h => by
    unfold errs
    rw [if_neg (by simpa using h)]
    rfl
  | x :: t, i + 1, hi, hb, h => by
    unfold errs
    have h0 := hb 0 (by omega)
    rw [if_pos (by simpa using h0)]
    have := errs_at t i (by simpa using hi) (fun j hj => by
      have := hb (j + 1) (by omega)
      simpa using this) (by simpa using h)
    rw [this]
    rfl
theorem errs_first {cnt : S25 → Int × Int} {l : List S25} {i : Int} (h0 : 0 ≤ i) (h1 : i < l.length) (hb : ∀ j : Int, 0 ≤ j → j < i → (cnt (rd_T25 l j)).2 = 0) (h : (cnt (rd_T25 l i)).2 ≠ 0) : errs cnt l = (cnt (rd_T25 l i)).2 := by
  have e := rd25_nat l i.toNat (by omega)
  rw [show ((i.toNat : Nat) : Int) = i by omega] at e
  rw [e] at h ⊢
  refine errs_at l i.toNat (by omega) (fun j hj => ?_) h
  have := hb (j : Int) (by omega) (by omega)
  rw [rd25_nat l j (by omega)] at this
  exact this
/-! ### The sort -/
def full (pts lots : List Int) (l : List S25) (j : Int) : S63 := ⟨⟨rd_T25 l j⟩, j, rd pts j, lotI lots j⟩
theorem lotI_inj {lots : List Int} {n : Nat} (h : LotsOk lots n) {i j : Int} (i0 : 0 ≤ i) (i1 : i < n) (j0 : 0 ≤ j) (j1 : j < n) (e : lotI lots i = lotI lots j) : i = j := by
  obtain ⟨_, _, a⟩ := idx_in (h.2 (i + 1) (by omega) (by omega))
  obtain ⟨_, _, b⟩ := idx_in (h.2 (j + 1) (by omega) (by omega))
  unfold lotI at e
  rw [e, b] at a
  omega
theorem apart_of : ∀ {P : List S63}, (P.map (fun x => x.f3)).Nodup → apartBy cfS P = true
  | [], _ => rfl
  | x :: t, h => by
    simp only [List.map_cons] at h
    obtain ⟨h1, h2⟩ := List.nodup_cons.1 h
    unfold apartBy
    rw [apart_of h2, Bool.and_true, List.all_eq_true]
    intro y hy
    rw [bne_iff_ne]
    intro e
    have a := (cfS_le x y).1 (by omega)
    have b := cfS_lt x y
    have c : x.f3 = y.f3 := by
      have d := (cfS_lt x y).2
      omega
    exact h1 (List.mem_map.2 ⟨y, hy, c.symm⟩)
theorem full_map (pts lots : List Int) (l : List S25) : ((upI l.length).map (full pts lots l)).map (fun x => x.f1) = upI l.length := by
  rw [List.map_map]
  exact List.map_id' _
theorem sorted_ord {pts lots : List Int} {l : List S25} (h : LotsOk lots l.length) :
    apartBy cfS ((upI l.length).map (full pts lots l)) = true ∧ IsOrd pts lots l.length ((sortBy cfS ((upI l.length).map (full pts lots l))).map (fun x => x.f1)) := by
  have hnd : (((upI l.length).map (full pts lots l)).map (fun x => x.f3)).Nodup := by
    rw [List.map_map, List.nodup_iff_pairwise_ne, List.pairwise_map]
    refine (List.nodup_iff_pairwise_ne.1 (upI_nodup l.length)).imp_of_mem ?_
    intro a b ha hb hne e
    have a1 := mem_upI.1 ha
    have b1 := mem_upI.1 hb
    exact hne (lotI_inj h a1.1 a1.2 b1.1 b1.2 e)
  have hp := sortBy_perm cfS ((upI l.length).map (full pts lots l))
  refine ⟨apart_of hnd, ?_, ?_⟩
  · have := hp.map (fun x => x.f1)
    rw [full_map] at this
    exact this
  · rw [List.pairwise_map]
    have hnd2 : ((sortBy cfS ((upI l.length).map (full pts lots l))).map (fun x => x.f3)).Nodup := (hp.map (fun x => x.f3)).nodup_iff.2 hnd
    rw [List.nodup_iff_pairwise_ne, List.pairwise_map] at hnd2
    have hs := sortBy_sorted compS ((upI l.length).map (full pts lots l))
    refine (hs.and hnd2).imp_of_mem ?_
    intro a b ha hb hab
    obtain ⟨i, _, rfl⟩ := List.mem_map.1 (hp.subset ha)
    obtain ⟨j, _, rfl⟩ := List.mem_map.1 (hp.subset hb)
    have h1 := (cfS_le _ _).1 hab.1
    have h2 := hab.2
    unfold bef
    simp only [full] at h1 h2 ⊢
    omega
/-! ### The loops -/
section
variable (a b c d : Int) (l : List S25) (day : Int) (lots : List Int) (hl : l.length ≤ 64) (hL : lots.length ≤ 100000) (hw : validW a b c d = true) (hg : GoodL l lots)
include hl hL hw hg
theorem order_l1 (q : List S63) (hq : q.length = l.length) : ∀ (n : Nat) (i : Int) (x : List Int), 0 ≤ i → i + n = l.length → x.length = l.length → (∀ j : Int, 0 ≤ j → j < i → rd x j = (rd_T63 q j).f1) →
    Ev (fun k => points_Order.l1 k x q (q.length : Int) i) (q.map (fun x => x.f1), 0) := by
  intro n
  induction n with
  | zero =>
    intro i x i0 hi hx hj
    refine evUp 0 fun k _ => ?_
    rw [points_Order.l1, if_neg (by omega)]
    congr 2
    refine ext_rd (by simp [hx, hq]) (fun j j0 j1 => ?_)
    rw [hj j j0 (by omega), rd_map _ _ _ j0 (by omega)]
    have := rd63_nat q j.toNat (by omega)
    rw [show ((j.toNat : Nat) : Int) = j by omega] at this
    rw [this]
  | succ n ih =>
    intro i x i0 hi hx hj
    obtain ⟨K, hK⟩ := ih (i + 1) (x.set i.toNat (rd_T63 q i).f1) (by omega) (by omega) (by rw [List.length_set]; exact hx) (fun j j0 j1 => by
      rw [rd_set i0 j0 (by omega)]
      by_cases c : j = i
      · rw [if_pos c, c]
      · rw [if_neg c]; exact hj j j0 (by omega))
    dsimp only at hK
    refine evUp K fun k hk => ?_
    rw [points_Order.l1, if_pos (by omega), if_pos i0, if_pos (by omega), if_pos (by omega), w64 (by omega) (by omega)]
    exact hK k hk
theorem order_l0 : ∀ (n : Nat) (i : Int) (x : List S63), 0 ≤ i → i + n = l.length → x.length = l.length → (∀ j : Int, 0 ≤ j → j < i → (cntF a b c d day (rd_T25 l j)).2 = 0) →
    (∀ j : Int, 0 ≤ j → j < l.length → rd_T63 x j = ⟨⟨rd_T25 l j⟩, j, if j < i then (cntF a b c d day (rd_T25 l j)).1 else 0, lotI lots j⟩) →
    ∃ r, Ev (fun k => points_Order.l0 k day x (l.length : Int) i a b c d) r ∧ OrderRes a b c d l day lots r := by
  intro n
  induction n with
  | zero =>
    intro i x i0 hi hx he hj
    have hie : i = l.length := by omega
    have he0 : errs (cntF a b c d day) l = 0 := errs_ok.2 fun y hy => by
      obtain ⟨j, j0, j1, rfl⟩ := mem_rd25 hy
      exact he j j0 (by omega)
    have hxe : x = (upI l.length).map (full (l.map (fun x => (cntF a b c d day x).1)) lots l) := by
      refine ext63 (by simp [hx, upI_length]) (fun j j0 j1 => ?_)
      rw [hx] at j1
      rw [hj j j0 j1, rd_upmap (α := Int) _ j0 j1, if_pos (by omega)]
      unfold full
      rw [rd_mapS _ l j0 j1]
    obtain ⟨h1, h2⟩ := sorted_ord (pts := l.map (fun x => (cntF a b c d day x).1)) (l := l) hg.lots
    rw [← hxe] at h1 h2
    have hlen : (sortBy cfS x).length = l.length := by rw [sortBy_length, hx]
    obtain ⟨K, hK⟩ := order_l1 a b c d l lots hl hL hw hg (sortBy cfS x) hlen l.length 0 (List.replicate ((x.length : Int) : Int).toNat 0) (by omega) (by omega) (by simp [hx]) (fun j j0 j1 => by omega)
    dsimp only at hK
    refine ⟨((sortBy cfS x).map (fun x => x.f1), 0), evUp K fun k hk => ?_, ⟨fun hb => absurd ⟨hw, hl, hg⟩ hb, fun _ hne => absurd he0 hne, fun _ _ => ⟨rfl, h2⟩⟩⟩
    rw [points_Order.l0, if_neg (by omega)]
    unfold points_place_29__points_Order_1.f
    rw [if_pos (by rw [h1, Bool.true_and, decide_eq_true_eq]; omega), Option.bind_some, if_pos (by omega), if_pos (by omega)]
    have := hK k hk
    rw [hlen] at this
    rw [hx] at this ⊢
    exact this
  | succ n ih =>
    intro i x i0 hi hx he hj
    have hxi := hj i i0 (by omega)
    rw [if_neg (by omega)] at hxi
    have hv := hg.val _ (rd25_mem i0 (by omega : i < l.length))
    obtain ⟨K1, h1⟩ := hcount_ev (day := day) hw hv
    dsimp only at h1
    have hstep : ∀ k, K1 ≤ k → points_Order.l0 (k + 1) day x (l.length : Int) i a b c d = (if (cntF a b c d day (rd_T25 l i)).2 = 0 then (points_Order.l0 k day (x.set i.toNat (⟨⟨rd_T25 l i⟩, i, (cntF a b c d day (rd_T25 l i)).1, lotI lots i⟩ : S63)) (l.length : Int) (i + 1) a b c d) else some ([], (cntF a b c d day (rd_T25 l i)).2)) := fun k hk => by
      rw [points_Order.l0, if_pos (by omega), if_pos i0, if_pos (by omega), hxi]
      dsimp only
      rw [h1 k hk, Option.bind_some, w64 (by omega) (by omega)]
      rfl
    by_cases c1 : (cntF a b c d day (rd_T25 l i)).2 = 0
    · obtain ⟨r, ⟨K, hK⟩, hr⟩ := ih (i + 1) (x.set i.toNat (⟨⟨rd_T25 l i⟩, i, (cntF a b c d day (rd_T25 l i)).1, lotI lots i⟩ : S63)) (by omega) (by omega) (by rw [List.length_set]; exact hx) (fun j j0 j1 => by
          by_cases e : j = i
          · rw [e]; exact c1
          · exact he j j0 (by omega)) (fun j j0 j1 => by
          rw [rd63_set i0 j0 (by omega)]
          by_cases e : j = i
          · rw [if_pos e, e, if_pos (by omega)]
          · rw [if_neg e, hj j j0 j1]
            by_cases f : j < i
            · rw [if_pos f, if_pos (by omega)]
            · rw [if_neg f, if_neg (by omega)])
      dsimp only at hK
      exact ⟨r, evUp (K + K1) fun k hk => by rw [hstep k (by omega), if_pos c1]; exact hK k (by omega), hr⟩
    · have hf := errs_first (cnt := cntF a b c d day) i0 (by omega : i < l.length) he c1
      refine ⟨([], (cntF a b c d day (rd_T25 l i)).2), evUp K1 fun k hk => by rw [hstep k hk, if_neg c1], ⟨fun hb => absurd ⟨hw, hl, hg⟩ hb, fun _ _ => by rw [hf], fun _ h0 => absurd (hf ▸ h0) c1⟩⟩
end
theorem order_ev (a b c d : Int) (l : List S25) (day : Int) (lots : List Int) (hl : l.length ≤ 100000) (hL : lots.length ≤ 100000) : ∃ r, Ev (fun k => points_Order.f k a b c d l day lots) r ∧ OrderRes a b c d l day lots r := by
  obtain ⟨K0, h0⟩ := weights_ev a b c d
  dsimp only at h0
  have hbad : ∀ k, points_Order.j0 (k + 1) l day lots true a b c d = some ([], 1) := fun k => by rw [points_Order.j0, if_pos rfl]
  have res : ¬ (validW a b c d = true ∧ l.length ≤ 64 ∧ GoodL l lots) → OrderRes a b c d l day lots ([], 1) := fun h => ⟨fun _ => rfl, fun g => absurd g h, fun g => absurd g h⟩
  by_cases hw : validW a b c d = true
  case neg =>
    refine ⟨([], 1), evUp (K0 + 1) fun k hk => ?_, res (fun h => hw h.1)⟩
    show points_Order.f (k + 1) a b c d l day lots = _
    unfold points_Order.f
    rw [h0 _ (by omega), Option.bind_some, if_neg hw, hbad]
  by_cases h64 : (l.length : Int) > 64
  · refine ⟨([], 1), evUp (K0 + 1) fun k hk => ?_, res (fun h => by omega)⟩
    show points_Order.f (k + 1) a b c d l day lots = _
    unfold points_Order.f
    rw [h0 _ (by omega), Option.bind_some, if_pos hw, decide_eq_true h64, hbad]
  obtain ⟨p, ⟨K1, h1⟩, hp, hp2⟩ := places_ev l lots hl hL
  dsimp only at h1
  have hgo : ∀ k, K0 + K1 ≤ k → points_Order.f (k + 1) a b c d l day lots = (if p.2 = true then (points_Order.l0 k day p.1 (p.1.length : Int) 0 a b c d) else some ([], 1)) := fun k hk => by
    unfold points_Order.f
    rw [h0 _ (by omega), Option.bind_some, if_pos hw, decide_eq_false h64, points_Order.j0, if_neg (by decide), h1 _ (by omega), Option.bind_some]
  by_cases hg : GoodL l lots
  · have hpt := hp.2 hg
    have hpl := hp2 hpt
    have hlen : p.1.length = l.length := by rw [hpl]; simp [placeList, upI_length]
    obtain ⟨r, ⟨K2, h2⟩, hr⟩ := order_l0 a b c d l day lots (by omega) hL hw hg l.length 0 p.1 (by omega) (by omega) hlen (fun j j0 j1 => by omega) (fun j j0 j1 => by
      rw [if_neg (by omega), hpl]
      unfold placeList
      rw [rd_upmap (α := Int) _ j0 j1]
      rfl)
    dsimp only at h2
    refine ⟨r, evUp (K0 + K1 + K2) fun k hk => ?_, hr⟩
    rw [hgo k (by omega), if_pos hpt, hlen]
    exact h2 k (by omega)
  · refine ⟨([], 1), evUp (K0 + K1) fun k hk => ?_, res (fun h => hg h.2.2)⟩
    rw [hgo k hk, if_neg (fun h => hg (hp.1 h))]
end Go.Proofs.YtfhmbfadbfnnaaaDoor.Pts
namespace Go.Proofs.YtfhmbfadbfnnaaaDoor.Pts
open Go.RowKit Go.Proofs.YtfhmbfadbfnnaaaDoorW.PrintWords Go.Proofs.YtfhmbfadbfnnaaaDoor.Given Go.Proofs.YtfhmbfadbfnnaaaDoor.Cal Go.Proofs.YtfhmbfadbfnnaaaDoor.Px
set_option linter.unusedVariables false
set_option linter.unusedSimpArgs false
set_option linter.unusedSectionVars false
theorem place_l0 (l : List Int) (x : Int) (hL : l.length ≤ 100000) : ∀ (n : Nat) (i : Int), 0 ≤ i → i + n = l.length → (∀ t : Int, 0 ≤ t → t < i → rd l t ≠ x) →
    ∃ r, Ev (fun k => cohousingref21_place.l0 k l x i) r ∧ (r < 0 ↔ ¬ x ∈ l) := by
  intro n
  induction n with
  | zero =>
    intro i i0 hi hb
    refine ⟨-1, evUp 0 fun k _ => by rw [cohousingref21_place.l0, if_neg (by omega)], ⟨fun _ h => ?_, fun _ => by omega⟩⟩
    obtain ⟨t, t0, t1, e⟩ := mem_rd h
    exact hb t t0 (by omega) e
  | succ n ih =>
    intro i i0 hi hb
    by_cases c : rd l i = x
    · exact ⟨i, evUp 0 fun k _ => by rw [cohousingref21_place.l0, if_pos (by omega), if_pos i0, if_pos c], ⟨fun h => by omega, fun h => absurd (c ▸ rd_mem i0 (by omega)) h⟩⟩
    · obtain ⟨r, ⟨K, hK⟩, hr⟩ := ih (i + 1) (by omega) (by omega) (fun t t0 t1 => by
        by_cases e : t = i
        · rw [e]; exact c
        · exact hb t t0 (by omega))
      dsimp only at hK
      exact ⟨r, evUp K fun k hk => by rw [cohousingref21_place.l0, if_pos (by omega), if_pos i0, if_neg c, w64 (by omega) (by omega)]; exact hK k hk, hr⟩
theorem place_ev (l : List Int) (x : Int) (hL : l.length ≤ 100000) : ∃ r, Ev (fun k => cohousingref21_place.f k l x) r ∧ (r < 0 ↔ ¬ x ∈ l) := by
  obtain ⟨r, h1, h2⟩ := place_l0 l x hL l.length 0 (by omega) (by omega) (fun t t0 t1 => by omega)
  exact ⟨r, h1, h2⟩
theorem lots_l0 (l : List Int) (n : Nat) (hL : l.length ≤ 100000) (hn : n ≤ 100000) : ∀ (m : Nat) (i : Int), 1 ≤ i → i + m = n + 1 → (∀ t : Int, 1 ≤ t → t < i → t ∈ l) →
    ∃ b, Ev (fun k => cohousingref21_Lots.l0 k l (n : Int) i) b ∧ (b = true ↔ ∀ t : Int, 1 ≤ t → t ≤ n → t ∈ l) := by
  intro m
  induction m with
  | zero =>
    intro i i0 hi hb
    exact ⟨true, evUp 0 fun k _ => by rw [cohousingref21_Lots.l0, if_neg (by omega)], ⟨fun _ t t0 t1 => hb t t0 (by omega), fun _ => rfl⟩⟩
  | succ m ih =>
    intro i i0 hi hb
    obtain ⟨p, ⟨K1, h1⟩, hp⟩ := place_ev l i hL
    dsimp only at h1
    by_cases c : p < 0
    · exact ⟨false, evUp K1 fun k hk => by rw [cohousingref21_Lots.l0, if_pos (by omega), h1 k hk, Option.bind_some, if_pos c], ⟨fun h => by simp at h, fun h => absurd (h i i0 (by omega)) (hp.1 c)⟩⟩
    · have hm : i ∈ l := Classical.byContradiction fun h => c (hp.2 h)
      obtain ⟨b, ⟨K, hK⟩, hr⟩ := ih (i + 1) (by omega) (by omega) (fun t t0 t1 => by
        by_cases e : t = i
        · rw [e]; exact hm
        · exact hb t t0 (by omega))
      dsimp only at hK
      exact ⟨b, evUp (K + K1) fun k hk => by rw [cohousingref21_Lots.l0, if_pos (by omega), h1 k (by omega), Option.bind_some, if_neg c, w64 (by omega) (by omega)]; exact hK k (by omega), hr⟩
theorem lots_ev (l : List Int) (n : Nat) (hL : l.length ≤ 100000) (hn : n ≤ 100000) : ∃ b, Ev (fun k => cohousingref21_Lots.f k l (n : Int)) b ∧ (b = true ↔ LotsOk l n) := by
  by_cases c : (l.length : Int) = n
  · obtain ⟨b, ⟨K, hK⟩, h2⟩ := lots_l0 l n hL hn n 1 (by omega) (by omega) (fun t t0 t1 => by omega)
    dsimp only at hK
    refine ⟨b, ⟨K, fun k hk => ?_⟩, h2.trans ⟨fun h => ⟨by omega, h⟩, fun h => h.2⟩⟩
    show cohousingref21_Lots.f k l (n : Int) = _
    unfold cohousingref21_Lots.f
    rw [if_pos c]
    exact hK k hk
  · refine ⟨false, ⟨0, fun k _ => ?_⟩, ⟨fun h => by simp at h, fun h => absurd (by have := h.1; omega) c⟩⟩
    show cohousingref21_Lots.f k l (n : Int) = _
    unfold cohousingref21_Lots.f
    rw [if_neg c]
/-! ### Same -/
theorem same_l0 (x y : List Int) (he : x.length = y.length) (hx : x.length ≤ 1000000) : ∀ (n : Nat) (i : Int), 0 ≤ i → i + n = x.length → (∀ t : Int, 0 ≤ t → t < i → rd x t = rd y t) →
    ∃ b, Ev (fun k => cohousingref21_Same.l0 k x y i) b ∧ (b = true ↔ x = y) := by
  intro n
  induction n with
  | zero =>
    intro i i0 hi hb
    exact ⟨true, evUp 0 fun k _ => by rw [cohousingref21_Same.l0, if_neg (by omega)], ⟨fun _ => ext_rd he (fun t t0 t1 => hb t t0 (by omega)), fun _ => rfl⟩⟩
  | succ n ih =>
    intro i i0 hi hb
    by_cases c : rd x i = rd y i
    · obtain ⟨b, ⟨K, hK⟩, hr⟩ := ih (i + 1) (by omega) (by omega) (fun t t0 t1 => by
        by_cases e : t = i
        · rw [e]; exact c
        · exact hb t t0 (by omega))
      dsimp only at hK
      exact ⟨b, evUp K fun k hk => by rw [cohousingref21_Same.l0, if_pos (by omega), if_pos i0, if_pos (by omega), if_pos c, w64 (by omega) (by omega)]; exact hK k hk, hr⟩
    · exact ⟨false, evUp 0 fun k _ => by rw [cohousingref21_Same.l0, if_pos (by omega), if_pos i0, if_pos (by omega), if_neg c], ⟨fun h => by simp at h, fun h => absurd (by rw [h]) c⟩⟩
theorem same_ev (x y : List Int) (hx : x.length ≤ 1000000) : ∃ b, Ev (fun k => cohousingref21_Same.f k x y) b ∧ (b = true ↔ x = y) := by
  by_cases c : (x.length : Int) = y.length
  · obtain ⟨b, ⟨K, hK⟩, h2⟩ := same_l0 x y (by omega) hx x.length 0 (by omega) (by omega) (fun t t0 t1 => by omega)
    dsimp only at hK
    refine ⟨b, ⟨K, fun k hk => ?_⟩, h2⟩
    show cohousingref21_Same.f k x y = _
    unfold cohousingref21_Same.f
    rw [if_pos c]
    exact hK k hk
  · refine ⟨false, ⟨0, fun k _ => ?_⟩, ⟨fun h => by simp at h, fun h => absurd (by rw [h]) c⟩⟩
    show cohousingref21_Same.f k x y = _
    unfold cohousingref21_Same.f
    rw [if_neg c]
end Go.Proofs.YtfhmbfadbfnnaaaDoor.Pts
namespace Go.Proofs.YtfhmbfadbfnnaaaDoor.Pts
open Go.RowKit Go.Proofs.YtfhmbfadbfnnaaaDoorW.PrintWords Go.Proofs.YtfhmbfadbfnnaaaDoor.Given Go.Proofs.YtfhmbfadbfnnaaaDoor.Cal Go.Proofs.YtfhmbfadbfnnaaaDoor.Px
set_option linter.unusedVariables false
set_option linter.unusedSimpArgs false
set_option linter.unusedSectionVars false
structure Usable (a b c d : Int) (l : List S25) (day : Int) (lots : List Int) : Prop where
  w : validW a b c d = true
  len : l.length ≤ 64
  good : GoodL l lots
  err : errs (cntF a b c d day) l = 0
noncomputable def ptsL (a b c d day : Int) (l : List S25) : List Int := l.map (fun x => (cntF a b c d day x).1)
theorem ptsL_length (a b c d day : Int) (l : List S25) : (ptsL a b c d day l).length = l.length := by simp [ptsL]
theorem Usable.order {a b c d : Int} {l : List S25} {day : Int} {lots : List Int} (h : Usable a b c d l day lots) {r : List Int × Int} (hr : OrderRes a b c d l day lots r) : r.2 = 0 ∧ IsOrd (ptsL a b c d day l) lots l.length r.1 := hr.ord ⟨h.w, h.len, h.good⟩ h.err
section
variable (a b c d : Int) (l : List S25) (day : Int) (lots : List Int) (hl : l.length ≤ 64)
include hl
theorem usable_l0 (hL : LotsOk lots l.length) : ∀ (n : Nat) (i : Int) (x : List Int) (M : List (Int × Bool)), 0 ≤ i → i + n = l.length → (x.length : Int) = i → (∀ j : Int, 0 ≤ j → j < i → (cntF a b c d day (rd_T25 l j)).2 = 0) →
    Apart (fun j => (rd_T25 l j).f0) i → Has M (fun j => (rd_T25 l j).f0) i → (∀ j : Int, 0 ≤ j → j < i → rd x j = (cntF a b c d day (rd_T25 l j)).1) →
    ∃ r, Ev (fun k => cohousinglaw21_usable.l0 k day x l (l.length : Int) i a b c d M) r ∧ (r.2 = true ↔ Usable a b c d l day lots) ∧ (r.2 = true → r.1 = ptsL a b c d day l) := by
  intro n
  induction n with
  | zero =>
    intro i x M i0 hi hx he ha hM hj
    have he0 : errs (cntF a b c d day) l = 0 := errs_ok.2 fun y hy => by
      obtain ⟨j, j0, j1, rfl⟩ := mem_rd25 hy
      exact he j j0 (by omega)
    have hxe : x = ptsL a b c d day l := by
      refine ext_rd (by rw [ptsL_length]; omega) (fun j j0 j1 => ?_)
      unfold ptsL
      rw [hj j j0 (by omega), rd_mapS _ l j0 (by omega)]
    have hval : ∀ x ∈ l, validS x = true := fun y hy => by
      have := errs_ok.1 he0 y hy
      unfold cntF at this
      exact (countOf_ok (by decide) this).1.2
    have hap : (l.map (fun x => x.f0)).Nodup := by
      rw [nodup_apart]
      intro s t s0 st tl
      simp only [List.length_map] at tl
      rw [rd_mapS _ l s0 (by omega), rd_mapS _ l (by omega) tl]
      exact ha s t s0 st (by omega)
    refine ⟨(x, validW a b c d), evUp 0 fun k _ => by rw [cohousinglaw21_usable.l0, if_neg (by omega), rweights_eq, Option.bind_some], ⟨fun h => ⟨h, hl, ⟨hval, hap, hL⟩, he0⟩, fun h => h.w⟩, fun _ => hxe⟩
  | succ n ih =>
    intro i x M i0 hi hx he ha hM hj
    obtain ⟨K1, h1⟩ := count_ev a b c d (rd_T25 l i).f0 (rd_T25 l i).f1 (rd_T25 l i).f2 (rd_T25 l i).f3 (rd_T25 l i).f4 day
    dsimp only at h1
    have hstep : ∀ k, K1 ≤ k → cohousinglaw21_usable.l0 (k + 1) day x l (l.length : Int) i a b c d M = (if (cntF a b c d day (rd_T25 l i)).2 = 0 then (if mgetB M (rd_T25 l i).f0 = true then some ([], false) else cohousinglaw21_usable.l0 k day (x ++ [(cntF a b c d day (rd_T25 l i)).1]) l (l.length : Int) (i + 1) a b c d (mput M (rd_T25 l i).f0 true)) else some ([], false)) := fun k hk => by
      rw [cohousinglaw21_usable.l0, if_pos (by omega), if_pos i0, if_pos (by omega), h1 k hk, Option.bind_some, if_pos (show x.length < 17592186044416 by omega), w64 (by omega) (by omega)]
      rfl
    by_cases c1 : (cntF a b c d day (rd_T25 l i)).2 = 0
    · by_cases c2 : mgetB M (rd_T25 l i).f0 = true
      · refine ⟨([], false), evUp K1 fun k hk => by rw [hstep k hk, if_pos c1, if_pos c2], ⟨fun h => by simp at h, fun h => ?_⟩, fun h => by simp at h⟩
        obtain ⟨j, j0, j1, e⟩ := (hM _).1 c2
        have := nodup_apart.1 h.good.apart j i j0 j1 (by simp; omega)
        rw [rd_mapS _ l j0 (by omega), rd_mapS _ l i0 (by omega)] at this
        exact absurd e this
      · obtain ⟨r, ⟨K, hK⟩, h2, h3⟩ := ih (i + 1) (x ++ [(cntF a b c d day (rd_T25 l i)).1]) (mput M (rd_T25 l i).f0 true) (by omega) (by omega) (by simp; omega) (fun j j0 j1 => by
          by_cases e : j = i
          · rw [e]; exact c1
          · exact he j j0 (by omega)) (ha.succ (fun h => c2 ((hM _).2 h))) (hM.succ i0) (fun j j0 j1 => by
          unfold rd
          rw [List.getD_eq_getElem?_getD]
          by_cases e : j = i
          · rw [List.getElem?_append_right (by omega), e, show i.toNat - x.length = 0 by omega]
            rfl
          · rw [List.getElem?_append_left (by omega), ← List.getD_eq_getElem?_getD]
            exact hj j j0 (by omega))
        dsimp only at hK
        exact ⟨r, evUp (K + K1) fun k hk => by rw [hstep k (by omega), if_pos c1, if_neg c2]; exact hK k (by omega), h2, h3⟩
    · refine ⟨([], false), evUp K1 fun k hk => by rw [hstep k hk, if_neg c1], ⟨fun h => by simp at h, fun h => ?_⟩, fun h => by simp at h⟩
      exact absurd (errs_ok.1 h.err _ (rd25_mem i0 (by omega))) c1
end
theorem usable_ev (a b c d : Int) (l : List S25) (day : Int) (lots : List Int) (hL : lots.length ≤ 100000 ∨ True) :
    ∃ r, Ev (fun k => cohousinglaw21_usable.f k a b c d l day lots) r ∧ (r.2 = true ↔ Usable a b c d l day lots) ∧ (r.2 = true → r.1 = ptsL a b c d day l) := by
  have hbad : ∀ k, cohousinglaw21_usable.j0 (k + 1) l day true a b c d = some ([], false) := fun k => by rw [cohousinglaw21_usable.j0, if_pos rfl]
  by_cases h64 : (l.length : Int) > 64
  · refine ⟨([], false), evUp 0 fun k _ => ?_, ⟨fun h => by simp at h, fun h => by have := h.len; omega⟩, fun h => by simp at h⟩
    show cohousinglaw21_usable.f (k + 1) a b c d l day lots = _
    unfold cohousinglaw21_usable.f
    rw [if_pos h64, hbad]
  by_cases hlen : lots.length = l.length
  case neg =>
    refine ⟨([], false), evUp 0 fun k _ => ?_, ⟨fun h => by simp at h, fun h => absurd h.good.lots.1 hlen⟩, fun h => by simp at h⟩
    show cohousinglaw21_usable.f (k + 1) a b c d l day lots = _
    unfold cohousinglaw21_usable.f cohousingref21_Lots.f
    rw [if_neg h64, if_neg (by omega), Option.bind_some]
    exact hbad k
  obtain ⟨q, ⟨K2, h2⟩, hq⟩ := lots_ev lots l.length (by omega) (by omega)
  dsimp only at h2
  cases q with
  | false =>
    refine ⟨([], false), evUp K2 fun k hk => ?_, ⟨fun h => by simp at h, fun h => by have := hq.2 h.good.lots; simp at this⟩, fun h => by simp at h⟩
    show cohousinglaw21_usable.f (k + 1) a b c d l day lots = _
    unfold cohousinglaw21_usable.f
    rw [if_neg h64, h2 _ (by omega), Option.bind_some]
    exact hbad k
  | true =>
    obtain ⟨r, ⟨K3, h3⟩, hr⟩ := usable_l0 a b c d l day lots (by omega) (hq.1 rfl) l.length 0 [] [] (by omega) (by omega) (by simp) (fun j j0 j1 => by omega) (fun s t s0 st ti => by omega) (Has.zero _) (fun j j0 j1 => by omega)
    dsimp only at h3
    refine ⟨r, evUp (K2 + K3) fun k hk => ?_, hr⟩
    show cohousinglaw21_usable.f (k + 1) a b c d l day lots = _
    unfold cohousinglaw21_usable.f
    rw [if_neg h64, h2 _ (by omega), Option.bind_some, cohousinglaw21_usable.j0, if_neg (by decide)]
    exact h3 k (by omega)
theorem at_l0 (l : List Int) (x : Int) (hn : l.Nodup) (hl : l.length ≤ 100000) (hm : x ∈ l) : ∀ (n : Nat) (i : Int), 0 ≤ i → i + n = l.length → i ≤ idxI l x → Ev (fun k => cohousinglaw21_at.l0 k x l (l.length : Int) i) (idxI l x) := by
  obtain ⟨a0, a1, a2⟩ := idx_in hm
  intro n
  induction n with
  | zero => intro i i0 hi hb; omega
  | succ n ih =>
    intro i i0 hi hb
    by_cases c : rd l i = x
    · have := idx_rd hn i0 (by omega : i < l.length)
      rw [c] at this
      rw [this]
      exact evUp 0 fun k _ => by rw [cohousinglaw21_at.l0, if_pos (by omega), if_pos i0, if_pos (by omega), if_pos c]
    · obtain ⟨K, hK⟩ := ih (i + 1) (by omega) (by omega) (by
        rcases Int.lt_or_le i (idxI l x) with q | q
        · omega
        · have : i = idxI l x := by omega
          rw [this] at c
          exact absurd a2 c)
      dsimp only at hK
      exact evUp K fun k hk => by rw [cohousinglaw21_at.l0, if_pos (by omega), if_pos i0, if_pos (by omega), if_neg c, w64 (by omega) (by omega)]; exact hK k hk
theorem at_ev (l : List Int) (x : Int) (hn : l.Nodup) (hl : l.length ≤ 100000) (hm : x ∈ l) : Ev (fun k => cohousinglaw21_at.f k l x) (idxI l x) := at_l0 l x hn hl hm l.length 0 (by omega) (by omega) (idx_in hm).1
/-- Two places of an order. -/
theorem IsOrd.at {pts lots out : List Int} {n : Nat} (h : IsOrd pts lots n out) {i j : Int} (i0 : 0 ≤ i) (ij : i < j) (j1 : j < out.length) : bef pts lots (rd out i) (rd out j) := by
  have := List.pairwise_iff_getElem.1 h.pair i.toNat j.toNat (by omega) (by omega) (by omega)
  have e1 := rd_nat out i.toNat (by omega)
  have e2 := rd_nat out j.toNat (by omega)
  rw [show ((i.toNat : Nat) : Int) = i by omega] at e1
  rw [show ((j.toNat : Nat) : Int) = j by omega] at e2
  rw [e1, e2]
  exact this
end Go.Proofs.YtfhmbfadbfnnaaaDoor.Pts
