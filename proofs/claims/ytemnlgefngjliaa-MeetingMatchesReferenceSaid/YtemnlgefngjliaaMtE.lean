/- What the reference says of weights and flaws, and that it is what the meeting's own functions say. Conditions: as each theorem states. -/
import Derived.Test.YtemnlgefngjliaaMtF
import Derived.Test.YtemnlgefngjliaaPx23
import Derived.Test.YtemnlgefngjliaaPx28
import Derived.Test.YtemnlgefngjliaaPx29
import Derived.Test.YtemnlgefngjliaaPx14
import Derived.Test.YtemnlgefngjliaaPx22
import Derived.Test.YtemnlgefngjliaaPx26
import Derived.Test.YtemnlgefngjliaaPx27
import Derived.Test.YtemnlgefngjliaaPx25
import Derived.Test.YtemnlgefngjliaaPx13
namespace Go.Proofs.Ytemnlgefngjliaa.Meet
open Go.RowKit Go.Proofs.YtemnlgefngjliaaW.PrintWords Go.Proofs.Ytemnlgefngjliaa.Given Go.Proofs.Ytemnlgefngjliaa.Px
open Go.Proofs.Ytemnlgefngjliaa.Cal
set_option linter.unusedVariables false
set_option linter.unusedSimpArgs false
def sm : List Int → Int
  | [] => 0
  | x :: t => x + sm t
theorem sm_set (v : Int) : ∀ (l : List Int) (k : Nat), k < l.length → sm (l.set k v) = sm l - l.getD k 0 + v
  | [], k, h => by simp at h
  | x :: t, 0, h => by simp [sm]; omega
  | x :: t, k + 1, h => by
    have := sm_set v t k (by simpa using h)
    simp [sm] at this ⊢
    omega
theorem rd_set (l : List Int) (k j v : Int) (h0 : 0 ≤ k) (h1 : k < l.length) (j0 : 0 ≤ j) : rd (l.set k.toNat v) j = if j = k then v else rd l j := by
  unfold rd
  by_cases c : j = k
  · subst c
    rw [if_pos rfl, List.getD_eq_getElem?_getD, List.getElem?_set_self (by omega), Option.getD_some]
  · rw [if_neg c, List.getD_eq_getElem?_getD, List.getElem?_set_ne (by omega), List.getD_eq_getElem?_getD]
def BD (l : List Int) (M : Int) : Prop := ∀ j : Int, 0 ≤ j → j < l.length → 0 ≤ rd l j ∧ rd l j ≤ M
theorem sumF_eq {l : List Int} {M : Int} (hb : BD l M) (hM : 0 ≤ M) (hM2 : M ≤ 1000000) (hl : l.length ≤ 1000) : ∀ (n : Nat) (i s : Int), 0 ≤ i → i + n = l.length → 0 ≤ s → s ≤ M * i → sumF l n i s = s + sm (l.drop i.toNat) := by
  intro n
  induction n with
  | zero =>
    intro i s h0 hi _ _
    rw [List.drop_eq_nil_of_le (by omega)]
    simp [sumF, sm]
  | succ n ih =>
    intro i s h0 hi hs hs2
    have hv := hb i h0 (by omega)
    have e : M * (i + 1) = M * i + M := by rw [Int.mul_add, Int.mul_one]
    have e2 : M * i ≤ 1000000 * 1000 := Int.mul_le_mul hM2 (by omega) h0 (by omega)
    rw [sumF, w64 (by omega) (by omega), ih (i + 1) _ (by omega) (by omega) (by omega) (by omega), drop_cons_int l i h0 (by omega)]
    simp only [sm]
    omega
def allE (vs : List S43) : Nat → Int → Int
  | 0, _ => 0
  | n + 1, i => (rd_T43 vs i).f1 + allE vs n (i + 1)
theorem allF_eq {vs : List S43} (ok : ∀ j : Int, 0 ≤ j → j < vs.length → okv vs j = true) (hl : vs.length ≤ 64) : ∀ (n : Nat) (i s : Int), 0 ≤ i → i + n = vs.length → 0 ≤ s → s ≤ 1000 * i → allF vs n i s = s + allE vs n i := by
  intro n
  induction n with
  | zero => intro i s _ _ _ _; simp [allF, allE]
  | succ n ih =>
    intro i s h0 hi hs hs2
    have hv := of_decide_eq_true (ok i h0 (by omega))
    rw [allF, w64 (by omega) (by omega), ih (i + 1) _ (by omega) (by omega) (by omega) (by omega), allE]
    omega
noncomputable def thereE (vs : List S43) (here : List Int) : Nat → Int → Int
  | 0, _ => 0
  | n + 1, i => (if 0 ≤ byI vs here i then (rd_T43 vs i).f1 else 0) + thereE vs here n (i + 1)
theorem stepW_bd {own : S43 → Int} {vs : List S43} {here : List Int} {i : Int} {o : List Int} {M D : Int} (h1 : i < vs.length) (ho : o.length = vs.length) (hb : BD o M) (hv : 0 ≤ own (rd_T43 vs i) ∧ own (rd_T43 vs i) ≤ D) (hM : M ≤ 1000000000) (hD : D ≤ 1000000) (hM0 : 0 ≤ M) :
    BD (stepW own vs here i o) (M + D) := by
  intro j j0 j1
  rw [stepW_len] at j1
  unfold stepW
  by_cases c : 0 ≤ byI vs here i
  · have hlt := byI_lt (here := here) h1
    rw [if_pos c, rd_set _ _ _ _ c (by omega) j0]
    have hk := hb _ c (by omega)
    split
    · rw [w64 (by omega) (by omega)]; omega
    · have := hb j j0 j1; omega
  · rw [if_neg c]
    have := hb j j0 j1
    omega
theorem W_sm {vs : List S43} {here : List Int} (g : Good vs here) : ∀ (n : Nat) (i : Int) (o : List Int), 0 ≤ i → i + n = vs.length → o.length = vs.length → BD o (1000 * i) →
    sm (W (·.f1) vs here n i o) = sm o + thereE vs here n i ∧ BD (W (·.f1) vs here n i o) (1000 * (i + n)) := by
  intro n
  induction n with
  | zero =>
    intro i o h0 hi ho hb
    exact ⟨by simp [W, thereE], by simpa [W] using hb⟩
  | succ n ih =>
    intro i o h0 hi ho hb
    have hv := of_decide_eq_true (g.ok i h0 (by omega))
    have hlv := g.lv
    have hs := stepW_bd (own := (·.f1)) (vs := vs) (here := here) (i := i) (o := o) (M := 1000 * i) (D := 1000) (by omega) ho hb hv.2.2.2 (by omega) (by omega) (by omega)
    obtain ⟨e, hb2⟩ := ih (i + 1) (stepW (·.f1) vs here i o) (by omega) (by omega) (by rw [stepW_len, ho]) (by rw [show 1000 * (i + 1) = 1000 * i + 1000 by omega]; exact hs)
    refine ⟨?_, ?_⟩
    · rw [W, e, thereE]
      unfold stepW
      dsimp only
      by_cases c : 0 ≤ byI vs here i
      · have hlt := byI_lt (here := here) (show i < vs.length by omega)
        have hk := hb _ c (by omega)
        rw [if_pos c, if_pos c, sm_set _ _ _ (by omega), w64 (by omega) (by omega)]
        unfold rd
        omega
      · rw [if_neg c, if_neg c]
        omega
    · rw [W, show i + ((n + 1 : Nat) : Int) = i + 1 + n by omega]
      exact hb2
theorem rd_replicate (m : Nat) (j : Int) : rd (List.replicate m 0) j = 0 := by
  unfold rd
  rw [List.getD_eq_getElem?_getD, List.getElem?_replicate]
  split <;> rfl
theorem sm_replicate : ∀ m : Nat, sm (List.replicate m 0) = 0
  | 0 => rfl
  | m + 1 => by rw [List.replicate_succ, sm, sm_replicate m]; rfl
theorem BD_replicate (m : Nat) {M : Int} (h : 0 ≤ M) : BD (List.replicate m 0) M := fun j _ _ => by rw [rd_replicate]; omega
theorem wgt_sum {vs : List S43} {here : List Int} (g : Good vs here) : sumF (wgt (·.f1) vs here) vs.length 0 0 = thereE vs here vs.length 0 := by
  obtain ⟨e, hb⟩ := W_sm g vs.length 0 (List.replicate vs.length 0) (by omega) (by omega) (by rw [List.length_replicate]) (BD_replicate _ (by omega))
  have hlv := g.lv
  have hb' : BD (wgt (·.f1) vs here) (1000 * (0 + (vs.length : Int))) := hb
  have h := sumF_eq (l := wgt (·.f1) vs here) (M := 64000) (fun j j0 j1 => by have := hb' j j0 j1; omega) (by omega) (by omega) (by rw [wgt_len]; omega) vs.length 0 0 (by omega) (by rw [wgt_len]; omega) (by omega) (by omega)
  rw [h]
  show 0 + sm (wgt (·.f1) vs here) = _
  unfold wgt
  rw [e, sm_replicate]
  omega
def votesOf (here : List Int) (v : S43) : Int := if v.f0 ∈ here then v.f0 else if v.f2 = 0 then 0 else if v.f2 ∈ here then v.f2 else 0
theorem zero_no {vs : List S43} {here : List Int} (g : Good vs here) : idxV vs 0 = -1 :=
  idxV_no fun t t0 t1 e => by have := of_decide_eq_true (g.ok t t0 t1); omega
theorem votes_idx {vs : List S43} {here : List Int} (g : Good vs here) {i : Int} (h0 : 0 ≤ i) (h1 : i < vs.length) : idxV vs (votesOf here (rd_T43 vs i)) = byI vs here i := by
  unfold votesOf byI
  by_cases c1 : (rd_T43 vs i).f0 ∈ here
  · rw [if_pos c1, if_pos c1]
    exact idxV_eq g.sv ⟨h0, h1, rfl⟩
  · rw [if_neg c1, if_neg c1]
    by_cases c2 : (rd_T43 vs i).f2 = 0
    · rw [if_pos c2, c2, zero_no g, if_neg]
      intro h
      have := g.hi 0 h
      rw [zero_no g] at this
      omega
    · rw [if_neg c2]
      by_cases c3 : (rd_T43 vs i).f2 ∈ here
      · rw [if_pos c3, if_pos c3]
      · rw [if_neg c3, if_neg c3, zero_no g]
theorem votes_zero {vs : List S43} {here : List Int} (g : Good vs here) {i : Int} (h0 : 0 ≤ i) (h1 : i < vs.length) : votesOf here (rd_T43 vs i) = 0 ↔ ¬ 0 ≤ byI vs here i := by
  constructor
  · intro h
    rw [← votes_idx g h0 h1, h, zero_no g]
    omega
  · intro h
    unfold byI at h
    unfold votesOf
    by_cases c1 : (rd_T43 vs i).f0 ∈ here
    · rw [if_pos c1] at h; exact absurd h0 h
    · rw [if_neg c1] at h ⊢
      by_cases c2 : (rd_T43 vs i).f2 = 0
      · rw [if_pos c2]
      · rw [if_neg c2]
        by_cases c3 : (rd_T43 vs i).f2 ∈ here
        · rw [if_pos c3] at h; exact absurd (g.hi _ c3) h
        · rw [if_neg c3]
section
variable (t0 t1 t2 t3 : Int) (t4 : Bool) (m0 m1 m2 : Int) (ag : List ByteArray) (vs : List S43) (here : List Int) (act : ByteArray) (hol : List Int)
theorem here_l0 (x : Int) (hh : here.length ≤ 1000000) : ∀ (n : Nat) (i : Int), 0 ≤ i → i + n = here.length →
    Ev (fun k => RfHere.l0 k x i m0 m1 m2 ag vs here) (decide (x ∈ here.drop i.toNat)) := by
  intro n
  induction n with
  | zero =>
    intro i h0 hi
    refine evUp 0 fun k _ => ?_
    rw [RfHere.l0, if_neg (by omega), List.drop_eq_nil_of_le (by omega)]
    simp
  | succ n ih =>
    intro i h0 hi
    obtain ⟨K, hK⟩ := ih (i + 1) (by omega) (by omega)
    dsimp only at hK
    refine evUp K fun k hk => ?_
    rw [RfHere.l0, if_pos (by omega), if_pos h0, drop_cons_int here i h0 (by omega)]
    by_cases c : rd here i = x
    · rw [if_pos c, decide_eq_true (by rw [c]; exact List.mem_cons_self)]
    · rw [if_neg c, w64 (by omega) (by omega), hK k hk]
      congr 1
      rw [decide_eq_decide, List.mem_cons]
      constructor
      · exact .inr
      · rintro (h | h)
        · exact absurd h.symm c
        · exact h
theorem here_ev (x : Int) (hh : here.length ≤ 1000000) : Ev (fun k => RfHere.f k m0 m1 m2 ag vs here x) (decide (x ∈ here)) :=
  here_l0 m0 m1 m2 ag vs here x hh here.length 0 (by omega) (by omega)
theorem votes_ev (v : S43) (hh : here.length ≤ 1000000) : Ev (fun k => RfVotes.f k m0 m1 m2 ag vs here v.f0 v.f1 v.f2) (votesOf here v) := by
  obtain ⟨K1, hK1⟩ := here_ev m0 m1 m2 ag vs here v.f0 hh
  obtain ⟨K2, hK2⟩ := here_ev m0 m1 m2 ag vs here v.f2 hh
  dsimp only at hK1 hK2
  refine ⟨K1 + K2, fun k hk => ?_⟩
  show RfVotes.f k m0 m1 m2 ag vs here v.f0 v.f1 v.f2 = _
  unfold RfVotes.f votesOf
  rw [hK1 k (by omega), Option.bind_some]
  by_cases c1 : v.f0 ∈ here
  · rw [if_pos (decide_eq_true c1), if_pos c1]
  · rw [if_neg (by simpa using c1), if_neg c1]
    by_cases c2 : v.f2 = 0
    · rw [if_pos c2, if_pos c2]
    · rw [if_neg c2, if_neg c2, hK2 k (by omega), Option.bind_some]
      by_cases c3 : v.f2 ∈ here
      · rw [if_pos (decide_eq_true c3), if_pos c3]
      · rw [if_neg (by simpa using c3), if_neg c3]
def ownT (b : Bool) (v : S43) : Int := if b = true then 1 else v.f1
theorem rw_l0 (hl : vs.length ≤ 1000000) (hh : here.length ≤ 1000000) (g : Good vs here) : ∀ (n : Nat) (i : Int) (o : List Int), 0 ≤ i → i + n = vs.length → o.length = vs.length →
    Ev (fun k => RfWeights.l0 k o i t0 t1 t2 t3 t4 m0 m1 m2 ag vs here) (W (ownT t4) vs here n i o, 0) := by
  intro n
  induction n with
  | zero =>
    intro i o h0 hi ho
    refine evUp 0 fun k _ => ?_
    rw [RfWeights.l0, if_neg (by omega)]
    rfl
  | succ n ih =>
    intro i o h0 hi ho
    obtain ⟨K, hK⟩ := ih (i + 1) (stepW (ownT t4) vs here i o) (by omega) (by omega) (by rw [stepW_len, ho])
    obtain ⟨K2, hK2⟩ := votes_ev m0 m1 m2 ag vs here (rd_T43 vs i) hh
    obtain ⟨K3, hK3⟩ := voter_ev vs (votesOf here (rd_T43 vs i)) hl g.sv
    rw [votes_idx g h0 (by omega)] at hK3
    dsimp only at hK hK2 hK3
    refine evUp (K + K2 + K3) fun k hk => ?_
    have ho2 : Rfown.f t0 t1 t2 t3 t4 (rd_T43 vs i).f0 (rd_T43 vs i).f1 (rd_T43 vs i).f2 = some (ownT t4 (rd_T43 vs i)) := by
      unfold Rfown.f ownT
      split <;> rfl
    rw [RfWeights.l0, if_pos (by omega), if_pos h0, hK2 k (by omega), Option.bind_some, hK3 k (by omega), Option.bind_some, w64 (x := i + 1) (by omega) (by omega), W]
    have hlt := byI_lt (here := here) (show i < vs.length by omega)
    by_cases c : 0 ≤ byI vs here i
    · rw [if_pos c, if_pos c, if_pos (by omega), ho2, Option.bind_some]
      refine Eq.trans ?_ (hK k (by omega))
      unfold stepW
      rw [if_pos c]
    · rw [if_neg c]
      refine Eq.trans ?_ (hK k (by omega))
      unfold stepW
      rw [if_neg c]
noncomputable def weightsOf : List Int × Int := if termsB t0 t1 t2 t3 = true ∧ validM m0 m1 m2 ag vs here = true then (wgt (ownT t4) vs here, 0) else ([], 1)
theorem rweights_ev (hp : -9223372036854775808 ≤ t1) (hp2 : t1 ≤ 9223372036854775807) (hq2 : t2 ≤ 9223372036854775807) (ha : ag.length ≤ 1000000) (hl : vs.length ≤ 1000000) (hh : here.length ≤ 1000000) :
    Ev (fun k => RfWeights.f k t0 t1 t2 t3 t4 m0 m1 m2 ag vs here) (weightsOf t0 t1 t2 t3 t4 m0 m1 m2 ag vs here) := by
  obtain ⟨K1, hK1⟩ := rterms_ev (n := t0) (x := t3) t4 hp hp2 hq2
  obtain ⟨K2, hK2⟩ := rvalid_ev m0 m1 m2 ag vs here hl hh ha
  dsimp only at hK1 hK2
  by_cases c : termsB t0 t1 t2 t3 = true ∧ validM m0 m1 m2 ag vs here = true
  · obtain ⟨K, hK⟩ := rw_l0 t0 t1 t2 t3 t4 m0 m1 m2 ag vs here hl hh (validM_good c.2) vs.length 0 (List.replicate vs.length 0) (by omega) (by omega) (by rw [List.length_replicate])
    dsimp only at hK
    refine evUp (K1 + K2 + K) fun k hk => ?_
    unfold RfWeights.f weightsOf
    rw [hK1 (k + 1) (by omega), Option.bind_some, if_pos c.1, hK2 (k + 1) (by omega), Option.bind_some, if_pos c, c.2, RfWeights.j0, if_neg (by simp), if_pos (by omega), Int.toNat_natCast, if_pos (by omega), hK k (by omega)]
    rfl
  · refine evUp (K1 + K2) fun k hk => ?_
    have e : RfWeights.j0 (k + 1) true t0 t1 t2 t3 t4 m0 m1 m2 ag vs here = some ([], 1) := by rw [RfWeights.j0, if_pos rfl]
    unfold RfWeights.f weightsOf
    rw [hK1 (k + 1) (by omega), Option.bind_some, hK2 (k + 1) (by omega), Option.bind_some, if_neg c, e]
    by_cases c1 : termsB t0 t1 t2 t3 = true
    · rw [if_pos c1, Bool.eq_false_iff.mpr (fun c2 => c ⟨c1, c2⟩)]
      exact e
    · rw [if_neg c1]
theorem weights_ev (hs : Small ag) (ha : ag.length ≤ 1000000) (hl : vs.length ≤ 1000000) (hh : here.length ≤ 1000000) :
    Ev (fun k => MgWeights.f k t0 t1 t2 t3 t4 m0 m1 m2 ag vs here) (weightsOf t0 t1 t2 t3 t4 m0 m1 m2 ag vs here) := by
  obtain ⟨K2, hK2⟩ := valid_ev t0 t1 t2 t3 t4 m0 m1 m2 ag vs here (⟨#[]⟩ : ByteArray) [] hl hh ha hs
  dsimp only at hK2
  by_cases c : termsB t0 t1 t2 t3 = true ∧ validM m0 m1 m2 ag vs here = true
  · have g := validM_good c.2
    obtain ⟨K3, hK3⟩ := weighS_ev t0 t1 t2 t3 t4 m0 m1 m2 ag vs here (⟨#[]⟩ : ByteArray) [] hl hh g
    obtain ⟨K4, hK4⟩ := weighO_ev t0 t1 t2 t3 t4 m0 m1 m2 ag vs here (⟨#[]⟩ : ByteArray) [] hl hh g
    dsimp only at hK3 hK4
    refine evUp (K2 + K3 + K4) fun k hk => ?_
    unfold MgWeights.f weightsOf
    rw [validTerms_eq, Option.bind_some, if_pos c.1, hK2 (k + 1) (by omega), Option.bind_some, if_pos c, c.2, MgWeights.j0, if_neg (by simp), hK3 k (by omega), hK4 k (by omega), Option.bind_some, Option.bind_some]
    cases t4 with
    | true => rfl
    | false => rfl
  · refine evUp K2 fun k hk => ?_
    have e : MgWeights.j0 (k + 1) true t0 t1 t2 t3 t4 t0 t1 t2 t3 t4 m0 m1 m2 ag vs here (⟨#[]⟩ : ByteArray) = some ([], 1) := by rw [MgWeights.j0, if_pos rfl]
    unfold MgWeights.f weightsOf
    rw [validTerms_eq, Option.bind_some, hK2 (k + 1) (by omega), Option.bind_some, if_neg c, e]
    by_cases c1 : termsB t0 t1 t2 t3 = true
    · rw [if_pos c1, Bool.eq_false_iff.mpr (fun c2 => c ⟨c1, c2⟩)]
      exact e
    · rw [if_neg c1]
theorem Valid_ev (hs : Small ag) (ha : ag.length ≤ 1000000) (hl : vs.length ≤ 1000000) (hh : here.length ≤ 1000000) : Ev (fun k => MgValid.f k m0 m1 m2 ag vs here) (validM m0 m1 m2 ag vs here) := by
  obtain ⟨K2, hK2⟩ := valid_ev 0 0 0 0 false m0 m1 m2 ag vs here (⟨#[]⟩ : ByteArray) [] hl hh ha hs
  dsimp only at hK2
  refine ⟨K2, fun k hk => ?_⟩
  show MgValid.f k m0 m1 m2 ag vs here = _
  unfold MgValid.f
  rw [hK2 k hk]
  rfl
noncomputable def thF (vs : List S43) (here : List Int) : Nat → Int → Int → Int
  | 0, _, s => s
  | n + 1, i, s => thF vs here n (i + 1) (if votesOf here (rd_T43 vs i) = 0 then s else wrap64 (s + (rd_T43 vs i).f1))
theorem thF_eq {vs : List S43} {here : List Int} (g : Good vs here) : ∀ (n : Nat) (i s : Int), 0 ≤ i → i + n = vs.length → 0 ≤ s → s ≤ 1000 * i → thF vs here n i s = s + thereE vs here n i := by
  intro n
  induction n with
  | zero => intro i s _ _ _ _; simp [thF, thereE]
  | succ n ih =>
    intro i s h0 hi hs hs2
    have hv := of_decide_eq_true (g.ok i h0 (by omega))
    have hz := votes_zero g h0 (show i < vs.length by omega)
    have hlv := g.lv
    rw [thF, thereE]
    by_cases c : 0 ≤ byI vs here i
    · rw [if_neg (fun h => (hz.mp h) c), if_pos c, w64 (by omega) (by omega), ih (i + 1) _ (by omega) (by omega) (by omega) (by omega)]
      omega
    · rw [if_pos (hz.mpr c), if_neg c, ih (i + 1) _ (by omega) (by omega) (by omega) (by omega)]
      omega
theorem q_l0 (hl : vs.length ≤ 1000000) (hh : here.length ≤ 1000000) : ∀ (n : Nat) (i a s : Int), 0 ≤ i → i + n = vs.length →
    Ev (fun k => Rfquorum.l0 k a s i t0 t1 t2 t3 t4 m0 m1 m2 ag vs here) (decide (wrap64 (thF vs here n i s * t2) ≥ wrap64 (t1 * allF vs n i a))) := by
  intro n
  induction n with
  | zero =>
    intro i a s h0 hi
    refine evUp 0 fun k _ => ?_
    rw [Rfquorum.l0, if_neg (by omega)]
    rfl
  | succ n ih =>
    intro i a s h0 hi
    obtain ⟨K, hK⟩ := ih (i + 1) (wrap64 (a + (rd_T43 vs i).f1)) (if votesOf here (rd_T43 vs i) = 0 then s else wrap64 (s + (rd_T43 vs i).f1)) (by omega) (by omega)
    obtain ⟨K2, hK2⟩ := votes_ev m0 m1 m2 ag vs here (rd_T43 vs i) hh
    dsimp only at hK hK2
    refine evUp (K + K2) fun k hk => ?_
    rw [Rfquorum.l0, if_pos (by omega), if_pos h0, hK2 k (by omega), Option.bind_some, w64 (x := i + 1) (by omega) (by omega)]
    refine Eq.trans ?_ (hK k (by omega))
    by_cases c : votesOf here (rd_T43 vs i) = 0
    · rw [if_pos c, if_pos c]
    · rw [if_neg c, if_neg c]
theorem quorum_ev (hl : vs.length ≤ 1000000) (hh : here.length ≤ 1000000) (g : Good vs here) : Ev (fun k => Rfquorum.f k t0 t1 t2 t3 t4 m0 m1 m2 ag vs here) (!fewB t1 t2 vs here) := by
  have h := q_l0 t0 t1 t2 t3 t4 m0 m1 m2 ag vs here hl hh vs.length 0 0 0 (by omega) (by omega)
  have e : (!fewB t1 t2 vs here) = decide (wrap64 (thF vs here vs.length 0 0 * t2) ≥ wrap64 (t1 * allF vs vs.length 0 0)) := by
    unfold fewB
    rw [wgt_sum g, thF_eq g vs.length 0 0 (by omega) (by omega) (by omega) (by omega), Int.zero_add, ← decide_not, decide_eq_decide]
    omega
  rw [e]
  exact h
noncomputable def cntE (vs : List S43) (here : List Int) (x : Int) : Nat → Int → Int
  | 0, _ => 0
  | n + 1, i => (if byI vs here i = x then 1 else 0) + cntE vs here x n (i + 1)
theorem W_cnt {vs : List S43} {here : List Int} (hl : vs.length ≤ 64) {x : Int} (x0 : 0 ≤ x) (x1 : x < vs.length) : ∀ (n : Nat) (i : Int) (o : List Int), 0 ≤ i → i + n = vs.length → o.length = vs.length → BD o i →
    rd (W (fun _ => 1) vs here n i o) x = rd o x + cntE vs here x n i := by
  intro n
  induction n with
  | zero => intro i o _ _ _ _; simp [W, cntE]
  | succ n ih =>
    intro i o h0 hi ho hb
    have hs := stepW_bd (own := fun _ => 1) (vs := vs) (here := here) (i := i) (o := o) (M := i) (D := 1) (by omega) ho hb ⟨by omega, by omega⟩ (by omega) (by omega) (by omega)
    rw [W, ih (i + 1) _ (by omega) (by omega) (by rw [stepW_len, ho]) hs, cntE]
    unfold stepW
    dsimp only
    by_cases c : 0 ≤ byI vs here i
    · have hlt := byI_lt (here := here) (show i < vs.length by omega)
      have hk := hb _ c (by omega)
      rw [if_pos c, rd_set _ _ _ _ c (by omega) x0, w64 (by omega) (by omega)]
      by_cases d : x = byI vs here i
      · rw [if_pos d, if_pos d.symm, d]
        omega
      · rw [if_neg d, if_neg (fun h => d h.symm)]
        omega
    · rw [if_neg c, if_neg (by omega)]
      omega
theorem wgt_cnt {vs : List S43} {here : List Int} (hl : vs.length ≤ 64) {x : Int} (x0 : 0 ≤ x) (x1 : x < vs.length) : rd (wgt (fun _ => 1) vs here) x = cntE vs here x vs.length 0 := by
  unfold wgt
  rw [W_cnt hl x0 x1 vs.length 0 _ (by omega) (by omega) (by rw [List.length_replicate]) (BD_replicate _ (by omega)), rd_replicate]
  omega
def othE (vs : List S43) (here : List Int) (h : Int) : Nat → Int → Int
  | 0, _ => 0
  | n + 1, i => (if (rd_T43 vs i).f0 ≠ h ∧ votesOf here (rd_T43 vs i) = h then 1 else 0) + othE vs here h n (i + 1)
theorem others_l0 (h : Int) (hl : vs.length ≤ 1000000) (hh : here.length ≤ 1000000) : ∀ (n : Nat) (i s : Int), 0 ≤ i → i + n = vs.length → 0 ≤ s → s ≤ i →
    Ev (fun k => RfOthers.l0 k h s i m0 m1 m2 ag vs here) (s + othE vs here h n i) := by
  intro n
  induction n with
  | zero =>
    intro i s h0 hi _ _
    refine evUp 0 fun k _ => ?_
    rw [RfOthers.l0, if_neg (by omega)]
    simp [othE]
  | succ n ih =>
    intro i s h0 hi hs hs2
    obtain ⟨K2, hK2⟩ := votes_ev m0 m1 m2 ag vs here (rd_T43 vs i) hh
    dsimp only at hK2
    by_cases c1 : (rd_T43 vs i).f0 = h
    · obtain ⟨K, hK⟩ := ih (i + 1) s (by omega) (by omega) (by omega) (by omega)
      dsimp only at hK
      refine evUp K fun k hk => ?_
      rw [RfOthers.l0, if_pos (by omega), if_pos h0, if_pos c1, w64 (by omega) (by omega), hK k hk, othE, if_neg (fun q => q.1 c1)]
      congr 1
      omega
    · by_cases c2 : votesOf here (rd_T43 vs i) = h
      · obtain ⟨K, hK⟩ := ih (i + 1) (s + 1) (by omega) (by omega) (by omega) (by omega)
        dsimp only at hK
        refine evUp (K + K2) fun k hk => ?_
        rw [RfOthers.l0, if_pos (by omega), if_pos h0, if_neg c1, hK2 k (by omega), Option.bind_some, if_pos c2, w64 (by omega) (by omega), w64 (by omega) (by omega), hK k (by omega), othE, if_pos ⟨c1, c2⟩]
        congr 1
        omega
      · obtain ⟨K, hK⟩ := ih (i + 1) s (by omega) (by omega) (by omega) (by omega)
        dsimp only at hK
        refine evUp (K + K2) fun k hk => ?_
        rw [RfOthers.l0, if_pos (by omega), if_pos h0, if_neg c1, hK2 k (by omega), Option.bind_some, if_neg c2, w64 (by omega) (by omega), hK k (by omega), othE, if_neg (fun q => c2 q.2)]
        congr 1
        omega
def othO (vs : List S43) (here : List Int) (h : Int) : Int := othE vs here h vs.length 0
theorem others_ev (h : Int) (hl : vs.length ≤ 1000000) (hh : here.length ≤ 1000000) : Ev (fun k => RfOthers.f k m0 m1 m2 ag vs here h) (othO vs here h) := by
  have e := others_l0 m0 m1 m2 ag vs here h hl hh vs.length 0 0 (by omega) (by omega) (by omega) (by omega)
  rw [Int.zero_add] at e
  exact e
theorem cnt_oth {vs : List S43} {here : List Int} (g : Good vs here) {h k : Int} (hm : h ∈ here) (hk : isAt vs h k) : ∀ (n : Nat) (i : Int), 0 ≤ i → i + n = vs.length →
    cntE vs here k n i = othE vs here h n i + (if i ≤ k then 1 else 0) := by
  intro n
  induction n with
  | zero =>
    intro i h0 hi
    have := hk.2.1
    rw [if_neg (by omega)]
    rfl
  | succ n ih =>
    intro i h0 hi
    rw [cntE, othE, ih (i + 1) (by omega) (by omega)]
    by_cases c : i = k
    · subst c
      have e : byI vs here i = i := by
        unfold byI
        rw [if_pos (by rw [hk.2.2]; exact hm)]
      rw [if_pos e, if_neg (show ¬ ((rd_T43 vs i).f0 ≠ h ∧ votesOf here (rd_T43 vs i) = h) from fun q => q.1 hk.2.2), if_neg (show ¬ i + 1 ≤ i by omega), if_pos (Int.le_refl _)]
      omega
    · have hf : (rd_T43 vs i).f0 ≠ h := fun q => by
        have a := idxV_eq g.sv ⟨h0, show i < vs.length by omega, q⟩
        have b := idxV_eq g.sv hk
        omega
      have hb : byI vs here i = k ↔ votesOf here (rd_T43 vs i) = h := by
        rw [← votes_idx g h0 (by omega)]
        constructor
        · intro q
          have a := idxV_at (vs := vs) (x := votesOf here (rd_T43 vs i)) (by rw [q]; exact hk.1)
          rw [q] at a
          rw [← a.2.2, hk.2.2]
        · intro q
          rw [q]
          exact idxV_eq g.sv hk
      by_cases d : byI vs here i = k
      · rw [if_pos d, if_pos (show (rd_T43 vs i).f0 ≠ h ∧ votesOf here (rd_T43 vs i) = h from ⟨hf, hb.mp d⟩)]
        by_cases e : i ≤ k
        · rw [if_pos (show i + 1 ≤ k by omega), if_pos e]; omega
        · rw [if_neg (show ¬ i + 1 ≤ k by omega), if_neg e]; omega
      · rw [if_neg d, if_neg (show ¬ ((rd_T43 vs i).f0 ≠ h ∧ votesOf here (rd_T43 vs i) = h) from fun q => d (hb.mpr q.2))]
        by_cases e : i ≤ k
        · rw [if_pos (show i + 1 ≤ k by omega), if_pos e]; omega
        · rw [if_neg (show ¬ i + 1 ≤ k by omega), if_neg e]; omega
theorem cnt_away {vs : List S43} {here : List Int} {k : Int} (k0 : 0 ≤ k) (hm : ¬ (rd_T43 vs k).f0 ∈ here) : ∀ (n : Nat) (i : Int), cntE vs here k n i = 0 := by
  intro n
  induction n with
  | zero => intro i; rfl
  | succ n ih =>
    intro i
    rw [cntE, ih (i + 1), if_neg]
    · rfl
    · intro q
      unfold byI at q
      by_cases c1 : (rd_T43 vs i).f0 ∈ here
      · rw [if_pos c1] at q
        subst q
        exact hm c1
      · rw [if_neg c1] at q
        by_cases c2 : (rd_T43 vs i).f2 ∈ here
        · rw [if_pos c2] at q
          have a := idxV_at (vs := vs) (x := (rd_T43 vs i).f2) (by rw [q]; exact k0)
          rw [q] at a
          rw [a.2.2] at hm
          exact hm c2
        · rw [if_neg c2] at q
          omega
def mostF (vs : List S43) (here : List Int) : Nat → Int → Int → Int
  | 0, _, s => s
  | n + 1, i, s => mostF vs here n (i + 1) (mx s (othO vs here (rd here i)))
theorem mx_gt (a b t : Int) : mx a b > t ↔ a > t ∨ b > t := by
  unfold mx
  first
    | omega
    | (split <;> omega)
theorem mostF_gt (vs : List S43) (here : List Int) (t : Int) : ∀ (n : Nat) (i s : Int), mostF vs here n i s > t ↔ s > t ∨ ∃ j : Int, i ≤ j ∧ j < i + n ∧ othO vs here (rd here j) > t := by
  intro n
  induction n with
  | zero =>
    intro i s
    constructor
    · exact .inl
    · rintro (h | ⟨j, j0, j1, _⟩)
      · exact h
      · omega
  | succ n ih =>
    intro i s
    rw [mostF, ih, mx_gt]
    constructor
    · rintro ((h | h) | ⟨j, j0, j1, h⟩)
      · exact .inl h
      · exact .inr ⟨i, by omega, by omega, h⟩
      · exact .inr ⟨j, by omega, by omega, h⟩
    · rintro (h | ⟨j, j0, j1, h⟩)
      · exact .inl (.inl h)
      · by_cases c : j = i
        · subst c; exact .inl (.inr h)
        · exact .inr ⟨j, by omega, by omega, h⟩
theorem crowdB_iff (p : Int) (l : List Int) : crowdB p l = true ↔ ∃ j : Int, 0 ≤ j ∧ j < l.length ∧ rd l j > wrap64 (p + 1) := by
  unfold crowdB anyTo overB
  simp only [List.any_eq_true, List.mem_range, decide_eq_true_eq]
  constructor
  · rintro ⟨i, hi, h⟩
    exact ⟨i, by omega, by omega, h⟩
  · rintro ⟨j, j0, j1, h⟩
    exact ⟨j.toNat, by omega, by rw [Int.toNat_of_nonneg j0]; exact h⟩
theorem crowd_eq {vs : List S43} {here : List Int} (g : Good vs here) {p : Int} (p0 : 0 ≤ p) (p1 : p ≤ 64) : crowdB p (wgt (fun _ => 1) vs here) = decide (mostF vs here here.length 0 0 > p) := by
  rw [Bool.eq_iff_iff, crowdB_iff, decide_eq_true_eq, mostF_gt, w64 (x := p + 1) (by omega) (by omega)]
  constructor
  · rintro ⟨k, k0, k1, h⟩
    rw [wgt_len] at k1
    rw [wgt_cnt g.lv k0 k1] at h
    by_cases c : (rd_T43 vs k).f0 ∈ here
    · rw [cnt_oth g c ⟨k0, k1, rfl⟩ vs.length 0 (by omega) (by omega), if_pos k0] at h
      obtain ⟨j, j0, j1, e⟩ := mem_rd c
      refine .inr ⟨j, j0, by omega, ?_⟩
      rw [e]
      unfold othO
      omega
    · rw [cnt_away k0 c] at h
      omega
  · rintro (h | ⟨j, j0, j1, h⟩)
    · omega
    · have hm : rd here j ∈ here := rd_mem j0 (by omega)
      have hk := idxV_at (g.hi _ hm)
      refine ⟨idxV vs (rd here j), hk.1, by rw [wgt_len]; exact hk.2.1, ?_⟩
      rw [wgt_cnt g.lv hk.1 hk.2.1, cnt_oth g hm hk vs.length 0 (by omega) (by omega), if_pos hk.1]
      unfold othO at h
      omega
theorem rlate_ev (hd : hol.length ≤ 1000000) : Ev (fun k => Rflate.f k t0 t1 t2 t3 t4 m0 m1 m2 ag vs here hol) (lateB t0 m0 m1 m2 hol) := by
  obtain ⟨K, hK⟩ := rdeadline_ev m0 t0 m1 hol hd
  dsimp only at hK
  refine ⟨K, fun k hk => ?_⟩
  show Rflate.f k t0 t1 t2 t3 t4 m0 m1 m2 ag vs here hol = _
  unfold Rflate.f lateB
  rw [hK k hk, Option.bind_some]
  split <;> rfl
theorem rf_l0 (o : List Int) (ho : o.length ≤ 3) (hl : vs.length ≤ 1000000) (hh : here.length ≤ 1000000) : ∀ (n : Nat) (i s : Int), 0 ≤ i → i + n = here.length →
    Ev (fun k => RfFlaws.l0 k o s i t0 t1 t2 t3 t4 m0 m1 m2 ag vs here) (o ++ flawL (decide (mostF vs here n i s > t3)) 4, 0) := by
  intro n
  induction n with
  | zero =>
    intro i s h0 hi
    refine evUp 0 fun k _ => ?_
    rw [RfFlaws.l0, if_neg (by omega), mostF]
    by_cases c : s > t3
    · rw [if_pos c, if_pos (by omega), decide_eq_true c]
      rfl
    · rw [if_neg c, decide_eq_false c]
      simp [flawL]
  | succ n ih =>
    intro i s h0 hi
    obtain ⟨K, hK⟩ := ih (i + 1) (mx s (othO vs here (rd here i))) (by omega) (by omega)
    obtain ⟨K2, hK2⟩ := others_ev m0 m1 m2 ag vs here (rd here i) hl hh
    dsimp only at hK hK2
    refine evUp (K + K2) fun k hk => ?_
    rw [RfFlaws.l0, if_pos (by omega), if_pos h0, hK2 k (by omega), Option.bind_some, w64 (by omega) (by omega), hK k (by omega)]
    rfl
theorem hol_working (hol : List Int) : (workingOf 0 hol).2 = 0 ↔ holB hol = true := by
  unfold workingOf
  rw [if_pos (by decide)]
  split
  · simp_all
  · simp_all
theorem rflaws_ev (hp : -9223372036854775808 ≤ t1) (hp2 : t1 ≤ 9223372036854775807) (hq2 : t2 ≤ 9223372036854775807) (ha : ag.length ≤ 1000000) (hl : vs.length ≤ 1000000) (hh : here.length ≤ 1000000) (hd : hol.length ≤ 1000000) :
    Ev (fun k => RfFlaws.f k t0 t1 t2 t3 t4 m0 m1 m2 ag vs here act hol) (flawsOf t0 t1 t2 t3 m0 m1 m2 ag vs here act hol) := by
  obtain ⟨K1, hK1⟩ := rterms_ev (n := t0) (x := t3) t4 hp hp2 hq2
  obtain ⟨K2, hK2⟩ := rvalid_ev m0 m1 m2 ag vs here hl hh ha
  obtain ⟨K3, hK3⟩ := name_ev act
  obtain ⟨K4, hK4⟩ := rh_ev hol hd
  dsimp only at hK1 hK2 hK3 hK4
  by_cases c : (workingOf 0 hol).2 = 0 ∧ termsB t0 t1 t2 t3 = true ∧ validM m0 m1 m2 ag vs here = true ∧ nameB act = true
  · have g := validM_good c.2.2.1
    have ht := c.2.1
    unfold termsB at ht
    simp only [Bool.and_eq_true, decide_eq_true_eq] at ht
    obtain ⟨K5, hK5⟩ := rlate_ev t0 t1 t2 t3 t4 m0 m1 m2 ag vs here hol hd
    obtain ⟨K6, hK6⟩ := has_ev ag act ha
    obtain ⟨K7, hK7⟩ := quorum_ev t0 t1 t2 t3 t4 m0 m1 m2 ag vs here hl hh g
    have key : ∀ o : List Int, o.length ≤ 3 → ∃ K, ∀ k, K ≤ k → RfFlaws.l0 k o 0 0 t0 t1 t2 t3 t4 m0 m1 m2 ag vs here = some (o ++ flawL (crowdB t3 (wgt (fun _ => 1) vs here)) 4, 0) := by
      intro o ho
      rw [crowd_eq g ht.2.2.1 ht.2.2.2]
      exact rf_l0 t0 t1 t2 t3 t4 m0 m1 m2 ag vs here o ho hl hh here.length 0 0 (by omega) (by omega)
    have h1 := flawL_len (lateB t0 m0 m1 m2 hol) 1
    have h2 := flawL_len (!hasB ag act) 2
    have h3 := flawL_len (fewB t1 t2 vs here) 3
    obtain ⟨K8, hK8⟩ := key (flawL (lateB t0 m0 m1 m2 hol) 1 ++ flawL (!hasB ag act) 2 ++ flawL (fewB t1 t2 vs here) 3) (by simp only [List.length_append]; omega)
    dsimp only at hK5 hK6 hK7
    refine evUp (K1 + K2 + K3 + K4 + K5 + K6 + K7 + K8 + 4) fun k hk => ?_
    obtain ⟨j, rfl⟩ : ∃ j, k = j + 4 := ⟨k - 4, by omega⟩
    unfold RfFlaws.f flawsOf
    rw [hK1 _ (by omega), Option.bind_some, if_pos c.2.1, hK2 _ (by omega), Option.bind_some, if_pos c.2.2.1, hK3 _ (by omega), Option.bind_some, if_pos c.2.2.2, hK4 _ (by omega), Option.bind_some, if_pos c, (hol_working hol).mp c.1, RfFlaws.j0, if_neg (by simp), hK5 _ (by omega), Option.bind_some]
    have s1 : ∀ o : List Int, o.length ≤ 1 → RfFlaws.j1 (j + 4) act o t0 t1 t2 t3 t4 m0 m1 m2 ag vs here = RfFlaws.j2 (j + 3) (o ++ flawL (!hasB ag act) 2) t0 t1 t2 t3 t4 m0 m1 m2 ag vs here := by
      intro o ho
      rw [RfFlaws.j1, hK6 _ (by omega), Option.bind_some]
      cases hasB ag act with
      | true => rw [if_pos rfl]; simp [flawL]
      | false => rw [if_neg (by simp), if_pos (by omega)]; rfl
    have s2 : ∀ o : List Int, o.length ≤ 2 → RfFlaws.j2 (j + 3) o t0 t1 t2 t3 t4 m0 m1 m2 ag vs here = RfFlaws.j3 (j + 2) (o ++ flawL (fewB t1 t2 vs here) 3) t0 t1 t2 t3 t4 m0 m1 m2 ag vs here := by
      intro o ho
      rw [RfFlaws.j2, hK7 _ (by omega), Option.bind_some]
      cases fewB t1 t2 vs here with
      | false => rw [Bool.not_false, if_pos rfl]; simp [flawL]
      | true => rw [Bool.not_true, if_neg (by simp), if_pos (by omega)]; rfl
    have s3 : RfFlaws.j1 (j + 4) act (flawL (lateB t0 m0 m1 m2 hol) 1) t0 t1 t2 t3 t4 m0 m1 m2 ag vs here = some (flawL (lateB t0 m0 m1 m2 hol) 1 ++ flawL (!hasB ag act) 2 ++ flawL (fewB t1 t2 vs here) 3 ++ flawL (crowdB t3 (wgt (fun _ => 1) vs here)) 4, 0) := by
      rw [s1 _ h1, s2 _ (by simp only [List.length_append]; omega), RfFlaws.j3, hK8 _ (by omega)]
    refine Eq.trans ?_ s3
    cases lateB t0 m0 m1 m2 hol with
    | true => rw [if_pos rfl, if_pos (by simp)]; rfl
    | false => rw [if_neg (by simp)]; rfl
  · refine evUp (K1 + K2 + K3 + K4) fun k hk => ?_
    have e : RfFlaws.j0 (k + 1) act hol true t0 t1 t2 t3 t4 m0 m1 m2 ag vs here = some ([], 1) := by rw [RfFlaws.j0, if_pos rfl]
    unfold RfFlaws.f flawsOf
    rw [hK1 _ (by omega), Option.bind_some, hK2 _ (by omega), Option.bind_some, hK3 _ (by omega), Option.bind_some, hK4 _ (by omega), Option.bind_some, e, if_neg c]
    by_cases c1 : termsB t0 t1 t2 t3 = true
    · rw [if_pos c1]
      by_cases c2 : validM m0 m1 m2 ag vs here = true
      · rw [if_pos c2]
        by_cases c3 : nameB act = true
        · rw [if_pos c3, Bool.eq_false_iff.mpr (fun c4 => c ⟨(hol_working hol).mpr c4, c1, c2, c3⟩)]
          exact e
        · rw [if_neg c3]
      · rw [if_neg c2]
    · rw [if_neg c1]
end
theorem same_l0 (l : List Int) (hl : l.length ≤ 1000000) : ∀ (n : Nat) (i : Int), 0 ≤ i → i + n = l.length → Ev (fun k => RfSameInts.l0 k l l i) true := by
  intro n
  induction n with
  | zero =>
    intro i h0 hi
    refine evUp 0 fun k _ => ?_
    rw [RfSameInts.l0, if_neg (by omega)]
  | succ n ih =>
    intro i h0 hi
    obtain ⟨K, hK⟩ := ih (i + 1) (by omega) (by omega)
    dsimp only at hK
    refine evUp K fun k hk => ?_
    rw [RfSameInts.l0, if_pos (by omega), if_pos h0, if_pos (by omega), if_pos rfl, w64 (by omega) (by omega), hK k hk]
theorem same_ev (l : List Int) (hl : l.length ≤ 1000000) : Ev (fun k => RfSameInts.f k l l) true := by
  obtain ⟨K, hK⟩ := same_l0 l hl l.length 0 (by omega) (by omega)
  dsimp only at hK
  refine ⟨K, fun k hk => ?_⟩
  show RfSameInts.f k l l = _
  unfold RfSameInts.f
  rw [if_pos rfl, hK k hk]
theorem partB_of (p q : Int) : partB p q = partOf p q := by
  unfold partB
  rw [isPart_eq]
  rfl
theorem rpassed_ev {y n p q : Int} (hp : -9223372036854775808 ≤ p) (hp2 : p ≤ 9223372036854775807) (hq2 : q ≤ 9223372036854775807) : Ev (fun k => RfPassed.f k y n p q) (passB y n p q) := by
  obtain ⟨K, hK⟩ := rpart_ev hp hp2 hq2
  dsimp only at hK
  refine evUp K fun k hk => ?_
  have e : RfPassed.j0 (k + 1) y n true p q = some (false, 1) := by rw [RfPassed.j0, if_pos rfl]
  unfold RfPassed.f passB
  rw [hK _ (by omega), Option.bind_some, e, partB_of]
  by_cases c1 : y < 0
  · rw [if_pos c1, if_neg (by omega)]
  · rw [if_neg c1]
    by_cases c2 : y > 1000000
    · rw [if_pos c2, if_neg (by omega)]
    · rw [if_neg c2]
      by_cases c3 : n < 0
      · rw [if_pos c3, if_neg (by omega)]
      · rw [if_neg c3]
        by_cases c4 : n > 1000000
        · rw [if_pos c4, if_neg (by omega)]
        · rw [if_neg c4]
          cases c5 : partOf p q with
          | false => rw [Bool.not_false, e, if_neg (by simp)]
          | true =>
            have c6 : partB p q = true := by rw [partB_of, c5]
            obtain ⟨q1, q2, p1, p2⟩ := part_true c6
            have e1 : y * q ≤ 1000000 * 1000000000 := Int.mul_le_mul (by omega) q2 (by omega) (by omega)
            have e2 : 0 ≤ y * q := Int.mul_nonneg (by omega) (by omega)
            have e3 : p * (y + n) ≤ 1000000000 * 2000000 := Int.mul_le_mul (by omega) (by omega) (by omega) (by omega)
            have e4 : 0 ≤ p * (y + n) := Int.mul_nonneg p1 (by omega)
            rw [Bool.not_true, RfPassed.j0, if_neg (by simp), if_pos ⟨by omega, by omega, rfl⟩, w64 (x := y + n) (by omega) (by omega), w64 (x := y * q) (by omega) (by omega), w64 (x := p * (y + n)) (by omega) (by omega), Int.mul_comm p (y + n)]
end Go.Proofs.Ytemnlgefngjliaa.Meet
