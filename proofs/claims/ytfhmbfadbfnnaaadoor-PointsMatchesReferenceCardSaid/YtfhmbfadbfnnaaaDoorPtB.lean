/- The one order of waiting households: plain lists, no Go. Conditions: as each theorem states. -/
import Derived.Test.YtfhmbfadbfnnaaaDoorPtA
import Derived.Test.YtfhmbfadbfnnaaaDoorGRowK
import Derived.Test.YtfhmbfadbfnnaaaDoorPx0
namespace Go.Proofs.YtfhmbfadbfnnaaaDoor.Pts
open Go.RowKit Go.Proofs.YtfhmbfadbfnnaaaDoorW.PrintWords Go.Proofs.YtfhmbfadbfnnaaaDoor.Given Go.Proofs.YtfhmbfadbfnnaaaDoor.Cal Go.Proofs.YtfhmbfadbfnnaaaDoor.Px
set_option linter.unusedVariables false
set_option linter.unusedSimpArgs false
/-! ### Lists of numbers, read by a whole number -/
theorem rd_get {l : List Int} {i : Int} (h0 : 0 ≤ i) (h1 : i < l.length) : l[i.toNat]? = some (rd l i) := by
  unfold rd
  rw [List.getD_eq_getElem?_getD, List.getElem?_eq_getElem (by omega)]
  rfl
theorem rd_mem {l : List Int} {i : Int} (h0 : 0 ≤ i) (h1 : i < l.length) : rd l i ∈ l := List.mem_of_getElem? (rd_get h0 h1)
theorem mem_rd {l : List Int} {x : Int} (h : x ∈ l) : ∃ i : Int, 0 ≤ i ∧ i < l.length ∧ rd l i = x := by
  obtain ⟨n, hn, e⟩ := List.mem_iff_getElem.1 h
  refine ⟨(n : Int), by omega, by omega, ?_⟩
  unfold rd
  rw [List.getD_eq_getElem?_getD, show ((n : Int)).toNat = n by omega, List.getElem?_eq_getElem hn, e]
  rfl
theorem rd_nat (l : List Int) (n : Nat) (h : n < l.length) : rd l (n : Int) = l[n] := by
  unfold rd
  rw [List.getD_eq_getElem?_getD, show ((n : Int)).toNat = n by omega, List.getElem?_eq_getElem h]
  rfl
theorem ext_rd {l m : List Int} (hl : l.length = m.length) (h : ∀ i : Int, 0 ≤ i → i < l.length → rd l i = rd m i) : l = m := by
  refine List.ext_getElem hl fun n h1 h2 => ?_
  have := h (n : Int) (by omega) (by omega)
  rw [rd_nat l n h1, rd_nat m n h2] at this
  exact this
theorem rd_set {l : List Int} {i j : Int} (h0 : 0 ≤ i) (j0 : 0 ≤ j) (hj : j < l.length) (v : Int) : rd (l.set i.toNat v) j = if j = i then v else rd l j := by
  unfold rd
  rw [List.getD_eq_getElem?_getD, List.getD_eq_getElem?_getD, List.getElem?_set]
  by_cases c : j = i
  · subst c
    rw [if_pos rfl, if_pos rfl, if_pos (by omega)]
    rfl
  · rw [if_neg (by omega), if_neg c]
theorem rd_map {α : Type} (f : α → Int) (l : List α) (i : Int) (h0 : 0 ≤ i) (h1 : i < l.length) : rd (l.map f) i = f (l[i.toNat]'(by omega)) := by
  unfold rd
  rw [List.getD_eq_getElem?_getD, List.getElem?_map, List.getElem?_eq_getElem (by omega)]
  rfl
/-! ### The order -/
/-- Where a number stands in a list. -/
def idxI (l : List Int) (x : Int) : Int := (l.idxOf x : Nat)
/-- The numbers 0, 1, .., n - 1. -/
def upI (n : Nat) : List Int := (List.range n).map (fun i : Nat => (i : Int))
theorem upI_length (n : Nat) : (upI n).length = n := by simp [upI]
theorem mem_upI {n : Nat} {x : Int} : x ∈ upI n ↔ 0 ≤ x ∧ x < n := by
  unfold upI
  rw [List.mem_map]
  constructor
  · rintro ⟨k, hk, rfl⟩
    have := List.mem_range.1 hk
    omega
  · rintro ⟨h0, h1⟩
    exact ⟨x.toNat, List.mem_range.2 (by omega), by omega⟩
theorem upI_nodup (n : Nat) : (upI n).Nodup := by
  unfold upI
  rw [List.nodup_iff_pairwise_ne, List.pairwise_map]
  refine (List.nodup_iff_pairwise_ne.1 List.nodup_range).imp ?_
  intro a b h e
  omega
/-- Pigeons. -/
theorem pig : ∀ (l m : List Int), l.Nodup → (∀ x ∈ l, x ∈ m) → m.length ≤ l.length → l.Perm m
  | [], m, _, _, h => by
    have : m = [] := List.length_eq_zero_iff.1 (by simpa using h)
    rw [this]
  | a :: t, m, hn, hs, hl => by
    obtain ⟨h1, h2⟩ := List.nodup_cons.1 hn
    have ha : a ∈ m := hs a (by simp)
    have hp := List.perm_cons_erase ha
    have hlen : (m.erase a).length + 1 = m.length := by
      have := hp.length_eq
      simp at this
      omega
    have := pig t (m.erase a) h2 (fun x hx => (List.mem_erase_of_ne (fun e : x = a => h1 (by rw [← e]; exact hx))).2 (hs x (by simp [hx]))) (by simp at hl; omega)
    exact (this.cons a).trans hp.symm
/-- The lots are each of 1, .., n once. -/
def LotsOk (lots : List Int) (n : Nat) : Prop := lots.length = n ∧ ∀ i : Int, 1 ≤ i → i ≤ n → i ∈ lots
theorem lots_perm {lots : List Int} {n : Nat} (h : LotsOk lots n) : ((upI n).map (fun i => i + 1)).Perm lots := by
  refine pig _ _ ?_ (fun x hx => ?_) (by simp [upI_length, h.1])
  · rw [List.nodup_iff_pairwise_ne, List.pairwise_map]
    refine (List.nodup_iff_pairwise_ne.1 (upI_nodup n)).imp ?_
    intro a b h e
    omega
  · obtain ⟨i, hi, rfl⟩ := List.mem_map.1 hx
    have := mem_upI.1 hi
    exact h.2 _ (by omega) (by omega)
theorem lots_nodup {lots : List Int} {n : Nat} (h : LotsOk lots n) : lots.Nodup := by
  refine (lots_perm h).nodup_iff.1 ?_
  rw [List.nodup_iff_pairwise_ne, List.pairwise_map]
  refine (List.nodup_iff_pairwise_ne.1 (upI_nodup n)).imp ?_
  intro a b h e
  omega
theorem lots_range {lots : List Int} {n : Nat} (h : LotsOk lots n) {x : Int} (hx : x ∈ lots) : 1 ≤ x ∧ x ≤ n := by
  obtain ⟨i, hi, rfl⟩ := List.mem_map.1 ((lots_perm h).symm.subset hx)
  have := mem_upI.1 hi
  omega
theorem lots_of {lots : List Int} {n : Nat} (hl : lots.length = n) (hn : lots.Nodup) (hr : ∀ x ∈ lots, 1 ≤ x ∧ x ≤ n) : LotsOk lots n := by
  refine ⟨hl, fun i h0 h1 => ?_⟩
  have hp := pig lots ((upI n).map (fun i => i + 1)) hn (fun x hx => by
    have := hr x hx
    exact List.mem_map.2 ⟨x - 1, mem_upI.2 (by omega), by omega⟩) (by simp [upI_length, hl])
  exact hp.symm.subset (List.mem_map.2 ⟨i - 1, mem_upI.2 (by omega), by omega⟩)
/-- The place of household i's lot. -/
def lotI (lots : List Int) (i : Int) : Int := idxI lots (i + 1)
theorem idx_in {l : List Int} {x : Int} (h : x ∈ l) : 0 ≤ idxI l x ∧ idxI l x < l.length ∧ rd l (idxI l x) = x := by
  have h1 := List.idxOf_lt_length_iff.2 h
  refine ⟨by unfold idxI; omega, by unfold idxI; omega, ?_⟩
  unfold idxI
  rw [rd_nat l _ h1]
  exact List.getElem_idxOf h1
theorem idx_rd {l : List Int} (hn : l.Nodup) {i : Int} (h0 : 0 ≤ i) (h1 : i < l.length) : idxI l (rd l i) = i := by
  have e : rd l i = l[i.toNat]'(by omega) := by
    have := rd_nat l i.toNat (by omega)
    rw [show ((i.toNat : Nat) : Int) = i by omega] at this
    exact this
  rw [e]
  unfold idxI
  rw [hn.idxOf_getElem]
  omega
/-- i stands before j. -/
def bef (pts lots : List Int) (i j : Int) : Prop := rd pts j < rd pts i ∨ (rd pts j = rd pts i ∧ lotI lots i < lotI lots j)
theorem bef_not {pts lots : List Int} {i j : Int} (h : bef pts lots i j) (k : bef pts lots j i) : False := by
  unfold bef at h k
  omega
structure IsOrd (pts lots : List Int) (n : Nat) (out : List Int) : Prop where
  perm : out.Perm (upI n)
  pair : out.Pairwise (bef pts lots)
theorem IsOrd.unique {pts lots out out2 : List Int} {n : Nat} (h : IsOrd pts lots n out) (k : IsOrd pts lots n out2) : out = out2 :=
  List.Perm.eq_of_pairwise (le := bef pts lots) (fun a b _ _ h1 h2 => (bef_not h1 h2).elim) h.pair k.pair (h.perm.trans k.perm.symm)
theorem IsOrd.length {pts lots out : List Int} {n : Nat} (h : IsOrd pts lots n out) : out.length = n := by rw [h.perm.length_eq, upI_length]
theorem IsOrd.nodup {pts lots out : List Int} {n : Nat} (h : IsOrd pts lots n out) : out.Nodup := h.perm.nodup_iff.2 (upI_nodup n)
theorem IsOrd.mem {pts lots out : List Int} {n : Nat} (h : IsOrd pts lots n out) {x : Int} : x ∈ out ↔ 0 ≤ x ∧ x < n := by rw [h.perm.mem_iff, mem_upI]
/-- What Order returns: an error, or the order. -/
def errs (cnt : S25 → Int × Int) : List S25 → Int
  | [] => 0
  | x :: t => if (cnt x).2 = 0 then errs cnt t else (cnt x).2
theorem errs_ok {cnt : S25 → Int × Int} : ∀ {l : List S25}, errs cnt l = 0 ↔ ∀ x ∈ l, (cnt x).2 = 0
  | [] => by simp [errs]
  | x :: t => by
    unfold errs
    by_cases c : (cnt x).2 = 0
    · rw [if_pos c, errs_ok]
      simp [c]
    · rw [if_neg c]
      simp [c]
noncomputable def cntF (a b c d day : Int) (x : S25) : Int × Int := countOf 21 a b c d x.f0 x.f1 x.f2 x.f3 x.f4 day
def validS (x : S25) : Bool := validH x.f0 x.f1 x.f2 x.f3 x.f4
structure GoodL (l : List S25) (lots : List Int) : Prop where
  val : ∀ x ∈ l, validS x = true
  apart : (l.map (fun x => x.f0)).Nodup
  lots : LotsOk lots l.length
structure OrderRes (a b c d : Int) (l : List S25) (day : Int) (lots : List Int) (r : List Int × Int) : Prop where
  bad : ¬ (validW a b c d = true ∧ l.length ≤ 64 ∧ GoodL l lots) → r = ([], 1)
  err : (validW a b c d = true ∧ l.length ≤ 64 ∧ GoodL l lots) → errs (cntF a b c d day) l ≠ 0 → r = ([], errs (cntF a b c d day) l)
  ord : (validW a b c d = true ∧ l.length ≤ 64 ∧ GoodL l lots) → errs (cntF a b c d day) l = 0 → r.2 = 0 ∧ IsOrd (l.map (fun x => (cntF a b c d day x).1)) lots l.length r.1
theorem OrderRes.unique {a b c d : Int} {l : List S25} {day : Int} {lots : List Int} {r r' : List Int × Int} (h : OrderRes a b c d l day lots r) (k : OrderRes a b c d l day lots r') : r = r' := by
  by_cases g : validW a b c d = true ∧ l.length ≤ 64 ∧ GoodL l lots
  · by_cases e : errs (cntF a b c d day) l = 0
    · obtain ⟨h1, h2⟩ := h.ord g e
      obtain ⟨k1, k2⟩ := k.ord g e
      exact Prod.ext (h2.unique k2) (h1.trans k1.symm)
    · rw [h.err g e, k.err g e]
  · rw [h.bad g, k.bad g]
end Go.Proofs.YtfhmbfadbfnnaaaDoor.Pts
