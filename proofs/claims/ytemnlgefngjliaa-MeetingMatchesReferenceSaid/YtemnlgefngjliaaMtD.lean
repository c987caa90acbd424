/- What the meeting's functions say of weights and flaws. Conditions: as each theorem states. -/
import Derived.Test.YtemnlgefngjliaaMtC
import Derived.Test.YtemnlgefngjliaaMtCal
import Derived.Test.YtemnlgefngjliaaPx5
import Derived.Test.YtemnlgefngjliaaPx7
import Derived.Test.YtemnlgefngjliaaPx6
import Derived.Test.YtemnlgefngjliaaPx3
import Derived.Test.YtemnlgefngjliaaPx4
import Derived.Test.YtemnlgefngjliaaGCrowd
import Derived.Test.YtemnlgefngjliaaGFlaws
namespace Go.Proofs.Ytemnlgefngjliaa.Meet
open Go.RowKit Go.Proofs.YtemnlgefngjliaaW.PrintWords Go.Proofs.Ytemnlgefngjliaa.Given Go.Proofs.Ytemnlgefngjliaa.Px
open Go.Proofs.Ytemnlgefngjliaa.Cal
set_option linter.unusedVariables false
set_option linter.unusedSimpArgs false
def SortedI (l : List Int) : Prop := ∀ a b : Int, 0 ≤ a → a < b → b < l.length → rd l a < rd l b
open Classical in
theorem pb_l0 (l : List Int) (x : Int) (hl : l.length ≤ 1000000) (hp : SortedI l) : ∀ (n : Nat) (i j : Int), 0 ≤ i → i ≤ j → j ≤ l.length → j - i ≤ n →
    (∀ t : Int, 0 ≤ t → t < i → rd l t < x) → (∀ t : Int, j ≤ t → t < l.length → x ≤ rd l t) →
    ∃ p, Ev (fun k => Sb.l0 k l x (l.length : Int) i j) (p, decide (x ∈ l)) := by
  intro n
  induction n with
  | zero =>
    intro i j h0 hij hj hn hlo hhi
    obtain rfl : i = j := by omega
    by_cases c : i < l.length
    · by_cases d : rd l i = x
      · refine ⟨i, evUp 0 fun k _ => ?_⟩
        rw [Sb.l0, if_neg (by omega), if_pos c, if_pos h0, if_pos c, if_pos d, decide_eq_true (d ▸ rd_mem h0 c)]
      · have hm : ¬ x ∈ l := fun h => by
          obtain ⟨t, t0, t1, rfl⟩ := mem_rd h
          rcases Int.lt_trichotomy t i with e | e | e
          · have := hlo t t0 e; omega
          · subst e; exact d rfl
          · have := hhi i (by omega) c
            have := hp i t h0 e t1
            omega
        refine ⟨i, evUp 0 fun k _ => ?_⟩
        rw [Sb.l0, if_neg (by omega), if_pos c, if_pos h0, if_pos c, if_neg d, decide_eq_false hm]
        unfold slices_isNaN_int.f
        simp
    · have hm : ¬ x ∈ l := fun h => by
        obtain ⟨t, t0, t1, rfl⟩ := mem_rd h
        have := hlo t t0 (by omega)
        omega
      refine ⟨i, evUp 0 fun k _ => ?_⟩
      rw [Sb.l0, if_neg (by omega), if_neg (by omega), decide_eq_false hm]
  | succ n ih =>
    intro i j h0 hij hj hn hlo hhi
    by_cases e : i = j
    · exact ih i j h0 hij hj (by omega) hlo hhi
    · have hm : wrap64 (IntKind.u64.wrap (wrap64 (i + j)) / 2) = (i + j) / 2 := by
        rw [w64 (x := i + j) (by omega) (by omega), u64w (by omega) (by omega), w64 (by omega) (by omega)]
      by_cases d : rd l ((i + j) / 2) < x
      · obtain ⟨p, K, hK⟩ := ih ((i + j) / 2 + 1) j (by omega) (by omega) hj (by omega) (fun t t0 t1 => by
          by_cases q : t = (i + j) / 2
          · subst q; exact d
          · have := hp t ((i + j) / 2) t0 (by omega) (by omega)
            omega) hhi
        dsimp only at hK
        refine ⟨p, evUp K fun k hk => ?_⟩
        rw [Sb.l0, if_pos (by omega), hm, if_pos (by omega), if_pos (by omega), less_eq, Option.bind_some, if_pos (decide_eq_true d), w64 (by omega) (by omega)]
        exact hK k hk
      · obtain ⟨p, K, hK⟩ := ih i ((i + j) / 2) h0 (by omega) (by omega) (by omega) hlo (fun t t0 t1 => by
          by_cases q : t = (i + j) / 2
          · subst q; omega
          · have := hp ((i + j) / 2) t (by omega) (by omega) t1
            omega)
        dsimp only at hK
        refine ⟨p, evUp K fun k hk => ?_⟩
        rw [Sb.l0, if_pos (by omega), hm, if_pos (by omega), if_pos (by omega), less_eq, Option.bind_some, if_neg (by simpa using d)]
        exact hK k hk
theorem hB_at {vs : List S43} {here : List Int} : ∀ {n : Nat} {i : Int}, hB vs here n i = true → ∀ j : Int, i ≤ j → j < i + n → okh vs here j = true
  | 0, i, _, j, h1, h2 => by omega
  | n + 1, i, h, j, h1, h2 => by
    rw [hB, Bool.and_eq_true] at h
    by_cases c : j = i
    · subst c; exact h.1
    · exact hB_at h.2 j (by omega) (by omega)
structure Good (vs : List S43) (here : List Int) : Prop where
  sv : SortedV vs
  lv : vs.length ≤ 64
  ok : ∀ j : Int, 0 ≤ j → j < vs.length → okv vs j = true
  px : ∀ j : Int, 0 ≤ j → j < vs.length → okp vs j = true
  sh : SortedI here
  hi : ∀ x, x ∈ here → 0 ≤ idxV vs x
theorem good_of {vs : List S43} {here : List Int} (h1 : votersB vs = true) (h2 : hB vs here here.length 0 = true) : Good vs here := by
  have k := h1
  unfold votersB at k
  rw [Bool.and_eq_true, Bool.and_eq_true] at k
  refine ⟨votersB_sorted h1, of_decide_eq_true k.2.2, fun j j0 j1 => vA_at k.1 j (by omega) (by omega), fun j j0 j1 => vB_at k.2.1 j (by omega) (by omega), ?_, fun x hx => ?_⟩
  · have key : ∀ (n : Nat) (a b : Int), 0 ≤ a → b = a + 1 + n → b < here.length → rd here a < rd here b := by
      intro n
      induction n with
      | zero =>
        intro a b h0 hb h1
        have q := hB_at h2 b (by omega) (by omega)
        unfold okh at q
        rw [Bool.and_eq_true, decide_eq_true_eq, decide_eq_true_eq] at q
        have := q.2 (by omega)
        rw [show b - 1 = a by omega] at this
        exact this
      | succ n ih =>
        intro a b h0 hb h1
        have q := hB_at h2 b (by omega) (by omega)
        unfold okh at q
        rw [Bool.and_eq_true, decide_eq_true_eq, decide_eq_true_eq] at q
        have := q.2 (by omega)
        have := ih a (b - 1) h0 (by omega) (by omega)
        omega
    intro a b h0 hab h1
    exact key (b - a - 1).toNat a b h0 (by omega) h1
  · obtain ⟨t, t0, t1, rfl⟩ := mem_rd hx
    have q := hB_at h2 t (by omega) (by omega)
    unfold okh at q
    rw [Bool.and_eq_true, decide_eq_true_eq, decide_eq_true_eq] at q
    exact q.1
theorem validM_good {m0 m1 m2 : Int} {ag : List ByteArray} {vs : List S43} {here : List Int} (h : validM m0 m1 m2 ag vs here = true) : Good vs here := by
  unfold validM at h
  simp only [Bool.and_eq_true] at h
  exact good_of h.2.2.2.2.1 h.2.2.2.2.2
open Classical in
noncomputable def byI (vs : List S43) (here : List Int) (i : Int) : Int :=
  if (rd_T43 vs i).f0 ∈ here then i else if (rd_T43 vs i).f2 ∈ here then idxV vs (rd_T43 vs i).f2 else -1
theorem byI_lt {vs : List S43} {here : List Int} {i : Int} (h : i < vs.length) : byI vs here i < vs.length := by
  unfold byI
  split
  · exact h
  · split
    · by_cases c : 0 ≤ idxV vs (rd_T43 vs i).f2
      · exact (idxV_at c).2.1
      · omega
    · omega
noncomputable def stepW (own : S43 → Int) (vs : List S43) (here : List Int) (i : Int) (o : List Int) : List Int :=
  if 0 ≤ byI vs here i then o.set (byI vs here i).toNat (wrap64 (rd o (byI vs here i) + own (rd_T43 vs i))) else o
noncomputable def W (own : S43 → Int) (vs : List S43) (here : List Int) : Nat → Int → List Int → List Int
  | 0, _, o => o
  | n + 1, i, o => W own vs here n (i + 1) (stepW own vs here i o)
noncomputable def wgt (own : S43 → Int) (vs : List S43) (here : List Int) : List Int := W own vs here vs.length 0 (List.replicate vs.length 0)
theorem stepW_len (own : S43 → Int) (vs : List S43) (here : List Int) (i : Int) (o : List Int) : (stepW own vs here i o).length = o.length := by
  unfold stepW
  split
  · rw [List.length_set]
  · rfl
theorem W_len (own : S43 → Int) (vs : List S43) (here : List Int) : ∀ (n : Nat) (i : Int) (o : List Int), (W own vs here n i o).length = o.length
  | 0, _, _ => rfl
  | n + 1, i, o => by rw [W, W_len, stepW_len]
theorem wgt_len (own : S43 → Int) (vs : List S43) (here : List Int) : (wgt own vs here).length = vs.length := by
  unfold wgt
  rw [W_len, List.length_replicate]
def sumF (l : List Int) : Nat → Int → Int → Int
  | 0, _, s => s
  | n + 1, i, s => sumF l n (i + 1) (wrap64 (s + rd l i))
def allF (vs : List S43) : Nat → Int → Int → Int
  | 0, _, s => s
  | n + 1, i, s => allF vs n (i + 1) (wrap64 (s + (rd_T43 vs i).f1))
theorem sum_l0 (l : List Int) (hl : l.length ≤ 1000000) : ∀ (n : Nat) (i s : Int), 0 ≤ i → i + n = l.length → Ev (fun k => Mgsum.l0 k s l (l.length : Int) i) (sumF l n i s) := by
  intro n
  induction n with
  | zero =>
    intro i s h0 hi
    refine evUp 0 fun k _ => ?_
    rw [Mgsum.l0, if_neg (by omega)]
    rfl
  | succ n ih =>
    intro i s h0 hi
    obtain ⟨K, hK⟩ := ih (i + 1) (wrap64 (s + rd l i)) (by omega) (by omega)
    dsimp only at hK
    refine evUp K fun k hk => ?_
    rw [Mgsum.l0, if_pos (by omega), if_pos h0, if_pos (by omega), w64 (x := i + 1) (by omega) (by omega), hK k hk]
    rfl
theorem sum_ev (l : List Int) (hl : l.length ≤ 1000000) : Ev (fun k => Mgsum.f k l) (sumF l l.length 0 0) := sum_l0 l hl l.length 0 0 (by omega) (by omega)
noncomputable def fewB (p q : Int) (vs : List S43) (here : List Int) : Bool := decide (wrap64 (sumF (wgt (·.f1) vs here) vs.length 0 0 * q) < wrap64 (p * allF vs vs.length 0 0))
noncomputable def lateB (n m0 m1 m2 : Int) (hol : List Int) : Bool := if (deadlineOf m0 n m1 hol).2 = 0 then decide (m2 < (deadlineOf m0 n m1 hol).1) else true
section
variable (t0 t1 t2 t3 : Int) (t4 : Bool) (m0 m1 m2 : Int) (ag : List ByteArray) (vs : List S43) (here : List Int) (act : ByteArray) (hol : List Int)
open Classical in
theorem present_ev (x : Int) (hh : here.length ≤ 1000000) (hs : SortedI here) : Ev (fun k => Mhpresent.f k t0 t1 t2 t3 t4 m0 m1 m2 ag vs here act hol x) (decide (x ∈ here)) := by
  obtain ⟨p, K, hK⟩ := pb_l0 here x hh hs here.length 0 here.length (by omega) (by omega) (by omega) (by omega) (fun t a b => by omega) (fun t a b => by omega)
  dsimp only at hK
  refine ⟨K, fun k hk => ?_⟩
  show Mhpresent.f k t0 t1 t2 t3 t4 m0 m1 m2 ag vs here act hol x = _
  unfold Mhpresent.f Sb.f
  rw [hK k hk]
  rfl
theorem by_ev (i : Int) (h0 : 0 ≤ i) (h1 : i < vs.length) (hl : vs.length ≤ 1000000) (hh : here.length ≤ 1000000) (g : Good vs here) :
    ∃ p, (0 ≤ byI vs here i → p = byI vs here i) ∧ Ev (fun k => Mhby.f k t0 t1 t2 t3 t4 m0 m1 m2 ag vs here act hol i) (p, decide (0 ≤ byI vs here i)) := by
  obtain ⟨K1, hK1⟩ := present_ev t0 t1 t2 t3 t4 m0 m1 m2 ag vs here act hol (rd_T43 vs i).f0 hh g.sh
  obtain ⟨K2, hK2⟩ := present_ev t0 t1 t2 t3 t4 m0 m1 m2 ag vs here act hol (rd_T43 vs i).f2 hh g.sh
  obtain ⟨p, hp, K3, hK3⟩ := find_ev t0 t1 t2 t3 t4 m0 m1 m2 ag vs here act hol (rd_T43 vs i).f2 hl g.sv
  dsimp only at hK1 hK2 hK3
  unfold byI
  by_cases c1 : (rd_T43 vs i).f0 ∈ here
  · rw [if_pos c1]
    refine ⟨i, fun _ => rfl, K1, fun k hk => ?_⟩
    show Mhby.f k t0 t1 t2 t3 t4 m0 m1 m2 ag vs here act hol i = _
    unfold Mhby.f
    rw [if_pos h0, if_pos h1, hK1 k hk, Option.bind_some, if_pos (decide_eq_true c1), decide_eq_true h0]
  · rw [if_neg c1]
    by_cases c2 : (rd_T43 vs i).f2 ∈ here
    · rw [if_pos c2]
      refine ⟨p, hp, K1 + K2 + K3, fun k hk => ?_⟩
      show Mhby.f k t0 t1 t2 t3 t4 m0 m1 m2 ag vs here act hol i = _
      unfold Mhby.f
      rw [if_pos h0, if_pos h1, hK1 k (by omega), Option.bind_some, if_neg (by simpa using c1), hK2 k (by omega), Option.bind_some, if_pos (decide_eq_true c2), hK3 k (by omega)]
      rfl
    · rw [if_neg c2]
      refine ⟨0, fun h => by omega, K1 + K2, fun k hk => ?_⟩
      show Mhby.f k t0 t1 t2 t3 t4 m0 m1 m2 ag vs here act hol i = _
      unfold Mhby.f
      rw [if_pos h0, if_pos h1, hK1 k (by omega), Option.bind_some, if_neg (by simpa using c1), hK2 k (by omega), Option.bind_some, if_neg (by simpa using c2)]
      rfl
theorem weighS_l0 (hl : vs.length ≤ 1000000) (hh : here.length ≤ 1000000) (g : Good vs here) : ∀ (n : Nat) (i : Int) (o : List Int), 0 ≤ i → i + n = vs.length → o.length = vs.length →
    Ev (fun k => Mhweigh_shares.l0 k o vs (vs.length : Int) i t0 t1 t2 t3 t4 m0 m1 m2 ag vs here act hol) (W (·.f1) vs here n i o) := by
  intro n
  induction n with
  | zero =>
    intro i o h0 hi ho
    refine evUp 0 fun k _ => ?_
    rw [Mhweigh_shares.l0, if_neg (by omega)]
    rfl
  | succ n ih =>
    intro i o h0 hi ho
    obtain ⟨K, hK⟩ := ih (i + 1) (stepW (·.f1) vs here i o) (by omega) (by omega) (by rw [stepW_len, ho])
    obtain ⟨p, hp, K2, hK2⟩ := by_ev t0 t1 t2 t3 t4 m0 m1 m2 ag vs here act hol i h0 (by omega) hl hh g
    dsimp only at hK hK2
    refine evUp (K + K2) fun k hk => ?_
    rw [Mhweigh_shares.l0, if_pos (by omega), if_pos h0, if_pos (by omega), hK2 k (by omega), Option.bind_some, w64 (x := i + 1) (by omega) (by omega), W]
    have hlt := byI_lt (here := here) (show i < vs.length by omega)
    by_cases c : 0 ≤ byI vs here i
    · rw [if_pos (decide_eq_true c), hp c, if_pos c, if_pos (by omega)]
      unfold Mgshares.f
      rw [Option.bind_some]
      refine Eq.trans ?_ (hK k (by omega))
      unfold stepW
      rw [if_pos c]
    · rw [if_neg (by simpa using c)]
      refine Eq.trans ?_ (hK k (by omega))
      unfold stepW
      rw [if_neg c]
theorem weighS_ev (hl : vs.length ≤ 1000000) (hh : here.length ≤ 1000000) (g : Good vs here) : Ev (fun k => Mhweigh_shares.f k t0 t1 t2 t3 t4 m0 m1 m2 ag vs here act hol) (wgt (·.f1) vs here) := by
  obtain ⟨K, hK⟩ := weighS_l0 t0 t1 t2 t3 t4 m0 m1 m2 ag vs here act hol hl hh g vs.length 0 (List.replicate vs.length 0) (by omega) (by omega) (by rw [List.length_replicate])
  dsimp only at hK
  refine ⟨K, fun k hk => ?_⟩
  show Mhweigh_shares.f k t0 t1 t2 t3 t4 m0 m1 m2 ag vs here act hol = _
  unfold Mhweigh_shares.f
  rw [if_pos (by omega), Int.toNat_natCast, if_pos (by omega), hK k hk]
  rfl
theorem weighO_l0 (hl : vs.length ≤ 1000000) (hh : here.length ≤ 1000000) (g : Good vs here) : ∀ (n : Nat) (i : Int) (o : List Int), 0 ≤ i → i + n = vs.length → o.length = vs.length →
    Ev (fun k => Mhweigh_one.l0 k o vs (vs.length : Int) i t0 t1 t2 t3 t4 m0 m1 m2 ag vs here act hol) (W (fun _ => 1) vs here n i o) := by
  intro n
  induction n with
  | zero =>
    intro i o h0 hi ho
    refine evUp 0 fun k _ => ?_
    rw [Mhweigh_one.l0, if_neg (by omega)]
    rfl
  | succ n ih =>
    intro i o h0 hi ho
    obtain ⟨K, hK⟩ := ih (i + 1) (stepW (fun _ => 1) vs here i o) (by omega) (by omega) (by rw [stepW_len, ho])
    obtain ⟨p, hp, K2, hK2⟩ := by_ev t0 t1 t2 t3 t4 m0 m1 m2 ag vs here act hol i h0 (by omega) hl hh g
    dsimp only at hK hK2
    refine evUp (K + K2) fun k hk => ?_
    rw [Mhweigh_one.l0, if_pos (by omega), if_pos h0, if_pos (by omega), hK2 k (by omega), Option.bind_some, w64 (x := i + 1) (by omega) (by omega), W]
    have hlt := byI_lt (here := here) (show i < vs.length by omega)
    by_cases c : 0 ≤ byI vs here i
    · rw [if_pos (decide_eq_true c), hp c, if_pos c, if_pos (by omega)]
      unfold Mgone.f
      rw [Option.bind_some]
      refine Eq.trans ?_ (hK k (by omega))
      unfold stepW
      rw [if_pos c]
    · rw [if_neg (by simpa using c)]
      refine Eq.trans ?_ (hK k (by omega))
      unfold stepW
      rw [if_neg c]
theorem weighO_ev (hl : vs.length ≤ 1000000) (hh : here.length ≤ 1000000) (g : Good vs here) : Ev (fun k => Mhweigh_one.f k t0 t1 t2 t3 t4 m0 m1 m2 ag vs here act hol) (wgt (fun _ => 1) vs here) := by
  obtain ⟨K, hK⟩ := weighO_l0 t0 t1 t2 t3 t4 m0 m1 m2 ag vs here act hol hl hh g vs.length 0 (List.replicate vs.length 0) (by omega) (by omega) (by rw [List.length_replicate])
  dsimp only at hK
  refine ⟨K, fun k hk => ?_⟩
  show Mhweigh_one.f k t0 t1 t2 t3 t4 m0 m1 m2 ag vs here act hol = _
  unfold Mhweigh_one.f
  rw [if_pos (by omega), Int.toNat_natCast, if_pos (by omega), hK k hk]
  rfl
theorem few_l0' (hl : vs.length ≤ 1000000) (hh : here.length ≤ 1000000) (g : Good vs here) : ∀ (n : Nat) (i s : Int), 0 ≤ i → i + n = vs.length →
    Ev (fun k => Mhfew.l0 k s vs (vs.length : Int) i t0 t1 t2 t3 t4 m0 m1 m2 ag vs here act hol) (decide (wrap64 (sumF (wgt (·.f1) vs here) vs.length 0 0 * t2) < wrap64 (t1 * allF vs n i s))) := by
  intro n
  induction n with
  | zero =>
    intro i s h0 hi
    obtain ⟨K, hK⟩ := weighS_ev t0 t1 t2 t3 t4 m0 m1 m2 ag vs here act hol hl hh g
    obtain ⟨K2, hK2⟩ := sum_ev (wgt (·.f1) vs here) (by rw [wgt_len]; exact hl)
    dsimp only at hK hK2
    refine evUp (K + K2) fun k hk => ?_
    rw [Mhfew.l0, if_neg (by omega), hK k (by omega), Option.bind_some, hK2 k (by omega), Option.bind_some, wgt_len]
    rfl
  | succ n ih =>
    intro i s h0 hi
    obtain ⟨K, hK⟩ := ih (i + 1) (wrap64 (s + (rd_T43 vs i).f1)) (by omega) (by omega)
    dsimp only at hK
    refine evUp K fun k hk => ?_
    rw [Mhfew.l0, if_pos (by omega), if_pos h0, if_pos (by omega), w64 (x := i + 1) (by omega) (by omega), hK k hk]
    rfl
theorem few_ev' (hl : vs.length ≤ 1000000) (hh : here.length ≤ 1000000) (g : Good vs here) : Ev (fun k => Mhfew.f k t0 t1 t2 t3 t4 m0 m1 m2 ag vs here act hol) (fewB t1 t2 vs here) :=
  few_l0' t0 t1 t2 t3 t4 m0 m1 m2 ag vs here act hol hl hh g vs.length 0 0 (by omega) (by omega)
theorem crowded_ev (hl : vs.length ≤ 1000000) (hh : here.length ≤ 1000000) (g : Good vs here) : Ev (fun k => Mhcrowded.f k t0 t1 t2 t3 t4 m0 m1 m2 ag vs here act hol) (crowdB t3 (wgt (fun _ => 1) vs here)) := by
  obtain ⟨K, hK⟩ := weighO_ev t0 t1 t2 t3 t4 m0 m1 m2 ag vs here act hol hl hh g
  dsimp only at hK
  refine ⟨K, fun k hk => ?_⟩
  show Mhcrowded.f k t0 t1 t2 t3 t4 m0 m1 m2 ag vs here act hol = _
  unfold Mhcrowded.f
  rw [hK k hk, Option.bind_some, if_pos (by rw [wgt_len]; exact hl)]
theorem late_ev (hh : hol.length ≤ 1000000) : Ev (fun k => Mhlate.f k t0 t1 t2 t3 t4 m0 m1 m2 ag vs here act hol) (lateB t0 m0 m1 m2 hol) := by
  obtain ⟨K, hK⟩ := deadline_ev m0 t0 m1 hol hh
  dsimp only at hK
  refine ⟨K, fun k hk => ?_⟩
  show Mhlate.f k t0 t1 t2 t3 t4 m0 m1 m2 ag vs here act hol = _
  unfold Mhlate.f lateB
  rw [hK k hk, Option.bind_some]
  split <;> rfl
theorem missing_ev (ha : ag.length ≤ 1000000) : Ev (fun k => Mhmissing.f k t0 t1 t2 t3 t4 m0 m1 m2 ag vs here act hol) (!hasB ag act) := by
  obtain ⟨K, hK⟩ := contains_ev ag act ha
  dsimp only at hK
  refine ⟨K, fun k hk => ?_⟩
  show Mhmissing.f k t0 t1 t2 t3 t4 m0 m1 m2 ag vs here act hol = _
  unfold Mhmissing.f
  rw [hK k hk]
  rfl
noncomputable def flawsOf : List Int × Int :=
  if (workingOf 0 hol).2 = 0 ∧ termsB t0 t1 t2 t3 = true ∧ validM m0 m1 m2 ag vs here = true ∧ nameB act = true then
    (flawL (lateB t0 m0 m1 m2 hol) 1 ++ flawL (!hasB ag act) 2 ++ flawL (fewB t1 t2 vs here) 3 ++ flawL (crowdB t3 (wgt (fun _ => 1) vs here)) 4, 0) else ([], 1)
theorem flaws_ev (hs : Small ag) (ha : ag.length ≤ 1000000) (hl : vs.length ≤ 1000000) (hh : here.length ≤ 1000000) (hd : hol.length ≤ 1000000) (hc : act.size ≤ 1000000) :
    Ev (fun k => MgFlaws.f k t0 t1 t2 t3 t4 m0 m1 m2 ag vs here act hol) (flawsOf t0 t1 t2 t3 m0 m1 m2 ag vs here act hol) := by
  obtain ⟨K1, hK1⟩ := working_ev 0 hol hd
  obtain ⟨K2, hK2⟩ := valid_ev t0 t1 t2 t3 t4 m0 m1 m2 ag vs here act hol hl hh ha hs
  obtain ⟨K3, hK3⟩ := late_ev t0 t1 t2 t3 t4 m0 m1 m2 ag vs here act hol hd
  obtain ⟨K4, hK4⟩ := missing_ev t0 t1 t2 t3 t4 m0 m1 m2 ag vs here act hol ha
  dsimp only at hK1 hK2 hK3 hK4
  by_cases c : (workingOf 0 hol).2 = 0 ∧ termsB t0 t1 t2 t3 = true ∧ validM m0 m1 m2 ag vs here = true ∧ nameB act = true
  · have g := validM_good c.2.2.1
    obtain ⟨K5, hK5⟩ := few_ev' t0 t1 t2 t3 t4 m0 m1 m2 ag vs here act hol hl hh g
    obtain ⟨K6, hK6⟩ := crowded_ev t0 t1 t2 t3 t4 m0 m1 m2 ag vs here act hol hl hh g
    dsimp only at hK5 hK6
    refine ⟨K1 + K2 + K3 + K4 + K5 + K6, fun k hk => ?_⟩
    show MgFlaws.f k t0 t1 t2 t3 t4 m0 m1 m2 ag vs here act hol = _
    unfold MgFlaws.f flawsOf
    rw [hK1 k (by omega), Option.bind_some, if_pos c.1, validTerms_eq, Option.bind_some, if_pos c.2.1, hK2 k (by omega), Option.bind_some, if_pos c.2.2.1, isName_eq hc, Option.bind_some, if_pos c.2.2.2, hK3 k (by omega), Option.bind_some, hK4 k (by omega), Option.bind_some, hK5 k (by omega), Option.bind_some, hK6 k (by omega), Option.bind_some, if_pos c]
  · refine ⟨K1 + K2, fun k hk => ?_⟩
    show MgFlaws.f k t0 t1 t2 t3 t4 m0 m1 m2 ag vs here act hol = _
    unfold MgFlaws.f flawsOf
    rw [hK1 k (by omega), Option.bind_some, validTerms_eq, Option.bind_some, hK2 k (by omega), Option.bind_some, isName_eq hc, Option.bind_some, if_neg c]
    by_cases c1 : (workingOf 0 hol).2 = 0
    · rw [if_pos c1]
      by_cases c2 : termsB t0 t1 t2 t3 = true
      · rw [if_pos c2]
        by_cases c3 : validM m0 m1 m2 ag vs here = true
        · rw [if_pos c3, if_neg (fun c4 => c ⟨c1, c2, c3, c4⟩)]
        · rw [if_neg c3]
      · rw [if_neg c2]
    · rw [if_neg c1]
end
end Go.Proofs.Ytemnlgefngjliaa.Meet
