/- What the meeting's functions say of weights and flaws. Conditions: as each theorem states. -/
import Derived.Test.YtemnlgefngjliaaMtC
import Derived.Test.YtemnlgefngjliaaMtCal
import Derived.Test.YtemnlgefngjliaaPx5
import Derived.Test.YtemnlgefngjliaaPx7
import Derived.Test.YtemnlgefngjliaaPx6
import Derived.Test.YtemnlgefngjliaaPx3
import Derived.Test.YtemnlgefngjliaaPx4
import Derived.Test.YtemnlgefngjliaaGCrowd
import Derived.Test.YtemnlgefngjliaaGFlaws
namespace Go.Proofs.Ytemnlgefngjliaa.Meet
open Go.RowKit Go.Proofs.YtemnlgefngjliaaW.PrintWords Go.Proofs.Ytemnlgefngjliaa.Given Go.Proofs.Ytemnlgefngjliaa.Px
open Go.Proofs.Ytemnlgefngjliaa.Cal
set_option linter.unusedVariables false
set_option linter.unusedSimpArgs false
def a8v (l : List Int) : Prop := ∀ a b : Int, 0 ≤ a → a < b → b < l.length → rd l a < rd l b
open Classical in
theorem b9b (l : List Int) (x : Int) (hl : l.length ≤ 1000000) (hp : a8v l) : ∀ (n : Nat) (i j : Int), 0 ≤ i → i ≤ j → j ≤ l.length → j - i ≤ n →
    (∀ t : Int, 0 ≤ t → t < i → rd l t < x) → (∀ t : Int, j ≤ t → t < l.length → x ≤ rd l t) →
    ∃ p, Ev (fun k => Sb.l0 k l x (l.length : Int) i j) (p, decide (x ∈ l)) := by
  intro n
  induction n with
  | zero =>
    intro i j h0 hij hj hn hlo hhi
    obtain rfl : i = j := by omega
    by_cases c : i < l.length
    · by_cases d : rd l i = x
      · refine ⟨i, evUp 0 fun k _ => ?_⟩
        rw [Sb.l0, if_neg (by omega), if_pos c, if_pos h0, if_pos c, if_pos d, decide_eq_true (d ▸ a9r h0 c)]
      · have hm : ¬ x ∈ l := fun h => by
          obtain ⟨t, t0, t1, rfl⟩ := a7r h
          rcases Int.lt_trichotomy t i with e | e | e
          · have := hlo t t0 e; omega
          · subst e; exact d rfl
          · have := hhi i (by omega) c
            have := hp i t h0 e t1
            omega
        refine ⟨i, evUp 0 fun k _ => ?_⟩
        rw [Sb.l0, if_neg (by omega), if_pos c, if_pos h0, if_pos c, if_neg d, decide_eq_false hm]
        unfold a2a.f
        simp
    · have hm : ¬ x ∈ l := fun h => by
        obtain ⟨t, t0, t1, rfl⟩ := a7r h
        have := hlo t t0 (by omega)
        omega
      refine ⟨i, evUp 0 fun k _ => ?_⟩
      rw [Sb.l0, if_neg (by omega), if_neg (by omega), decide_eq_false hm]
  | succ n ih =>
    intro i j h0 hij hj hn hlo hhi
    by_cases e : i = j
    · exact ih i j h0 hij hj (by omega) hlo hhi
    · have hm : wrap64 (IntKind.u64.wrap (wrap64 (i + j)) / 2) = (i + j) / 2 := by
        rw [w64 (x := i + j) (by omega) (by omega), u64w (by omega) (by omega), w64 (by omega) (by omega)]
      by_cases d : rd l ((i + j) / 2) < x
      · obtain ⟨p, K, hK⟩ := ih ((i + j) / 2 + 1) j (by omega) (by omega) hj (by omega) (fun t t0 t1 => by
          by_cases q : t = (i + j) / 2
          · subst q; exact d
          · have := hp t ((i + j) / 2) t0 (by omega) (by omega)
            omega) hhi
        dsimp only at hK
        refine ⟨p, evUp K fun k hk => ?_⟩
        rw [Sb.l0, if_pos (by omega), hm, if_pos (by omega), if_pos (by omega), a8u, Option.bind_some, if_pos (decide_eq_true d), w64 (by omega) (by omega)]
        exact hK k hk
      · obtain ⟨p, K, hK⟩ := ih i ((i + j) / 2) h0 (by omega) (by omega) (by omega) hlo (fun t t0 t1 => by
          by_cases q : t = (i + j) / 2
          · subst q; omega
          · have := hp ((i + j) / 2) t (by omega) (by omega) t1
            omega)
        dsimp only at hK
        refine ⟨p, evUp K fun k hk => ?_⟩
        rw [Sb.l0, if_pos (by omega), hm, if_pos (by omega), if_pos (by omega), a8u, Option.bind_some, if_neg (by simpa using d)]
        exact hK k hk
theorem b1a {vs : List S43} {here : List Int} : ∀ {n : Nat} {i : Int}, hB vs here n i = true → ∀ j : Int, i ≤ j → j < i + n → okh vs here j = true
  | 0, i, _, j, h1, h2 => by omega
  | n + 1, i, h, j, h1, h2 => by
    rw [hB, Bool.and_eq_true] at h
    by_cases c : j = i
    · subst c; exact h.1
    · exact b1a h.2 j (by omega) (by omega)
structure Good (vs : List S43) (here : List Int) : Prop where
  sv : a5a vs
  lv : vs.length ≤ 64
  ok : ∀ j : Int, 0 ≤ j → j < vs.length → okv vs j = true
  px : ∀ j : Int, 0 ≤ j → j < vs.length → okp vs j = true
  sh : a8v here
  hi : ∀ x, x ∈ here → 0 ≤ idxV vs x
theorem b6w {vs : List S43} {here : List Int} (h1 : a4l vs = true) (h2 : hB vs here here.length 0 = true) : Good vs here := by
  have k := h1
  unfold a4l at k
  rw [Bool.and_eq_true, Bool.and_eq_true] at k
  refine ⟨a6j h1, of_decide_eq_true k.2.2, fun j j0 j1 => b3i k.1 j (by omega) (by omega), fun j j0 j1 => b6f k.2.1 j (by omega) (by omega), ?_, fun x hx => ?_⟩
  · have key : ∀ (n : Nat) (a b : Int), 0 ≤ a → b = a + 1 + n → b < here.length → rd here a < rd here b := by
      intro n
      induction n with
      | zero =>
        intro a b h0 hb h1
        have q := b1a h2 b (by omega) (by omega)
        unfold okh at q
        rw [Bool.and_eq_true, decide_eq_true_eq, decide_eq_true_eq] at q
        have := q.2 (by omega)
        rw [show b - 1 = a by omega] at this
        exact this
      | succ n ih =>
        intro a b h0 hb h1
        have q := b1a h2 b (by omega) (by omega)
        unfold okh at q
        rw [Bool.and_eq_true, decide_eq_true_eq, decide_eq_true_eq] at q
        have := q.2 (by omega)
        have := ih a (b - 1) h0 (by omega) (by omega)
        omega
    intro a b h0 hab h1
    exact key (b - a - 1).toNat a b h0 (by omega) h1
  · obtain ⟨t, t0, t1, rfl⟩ := a7r hx
    have q := b1a h2 t (by omega) (by omega)
    unfold okh at q
    rw [Bool.and_eq_true, decide_eq_true_eq, decide_eq_true_eq] at q
    exact q.1
theorem a9d {m0 m1 m2 : Int} {ag : List ByteArray} {vs : List S43} {here : List Int} (h : a4v m0 m1 m2 ag vs here = true) : Good vs here := by
  unfold a4v at h
  simp only [Bool.and_eq_true] at h
  exact b6w h.2.2.2.2.1 h.2.2.2.2.2
open Classical in
noncomputable def byI (vs : List S43) (here : List Int) (i : Int) : Int :=
  if (a0a vs i).f0 ∈ here then i else if (a0a vs i).f2 ∈ here then idxV vs (a0a vs i).f2 else -1
theorem a9s {vs : List S43} {here : List Int} {i : Int} (h : i < vs.length) : byI vs here i < vs.length := by
  unfold byI
  split
  · exact h
  · split
    · by_cases c : 0 ≤ idxV vs (a0a vs i).f2
      · exact (b2w c).2.1
      · omega
    · omega
noncomputable def stepW (own : S43 → Int) (vs : List S43) (here : List Int) (i : Int) (o : List Int) : List Int :=
  if 0 ≤ byI vs here i then o.set (byI vs here i).toNat (wrap64 (rd o (byI vs here i) + own (a0a vs i))) else o
noncomputable def W (own : S43 → Int) (vs : List S43) (here : List Int) : Nat → Int → List Int → List Int
  | 0, _, o => o
  | n + 1, i, o => W own vs here n (i + 1) (stepW own vs here i o)
noncomputable def wgt (own : S43 → Int) (vs : List S43) (here : List Int) : List Int := W own vs here vs.length 0 (List.replicate vs.length 0)
theorem a6q (own : S43 → Int) (vs : List S43) (here : List Int) (i : Int) (o : List Int) : (stepW own vs here i o).length = o.length := by
  unfold stepW
  split
  · rw [List.length_set]
  · rfl
theorem b6h (own : S43 → Int) (vs : List S43) (here : List Int) : ∀ (n : Nat) (i : Int) (o : List Int), (W own vs here n i o).length = o.length
  | 0, _, _ => rfl
  | n + 1, i, o => by rw [W, b6h, a6q]
theorem a7s (own : S43 → Int) (vs : List S43) (here : List Int) : (wgt own vs here).length = vs.length := by
  unfold wgt
  rw [b6h, List.length_replicate]
def sumF (l : List Int) : Nat → Int → Int → Int
  | 0, _, s => s
  | n + 1, i, s => sumF l n (i + 1) (wrap64 (s + rd l i))
def allF (vs : List S43) : Nat → Int → Int → Int
  | 0, _, s => s
  | n + 1, i, s => allF vs n (i + 1) (wrap64 (s + (a0a vs i).f1))
theorem b8b (l : List Int) (hl : l.length ≤ 1000000) : ∀ (n : Nat) (i s : Int), 0 ≤ i → i + n = l.length → Ev (fun k => a3v.l0 k s l (l.length : Int) i) (sumF l n i s) := by
  intro n
  induction n with
  | zero =>
    intro i s h0 hi
    refine evUp 0 fun k _ => ?_
    rw [a3v.l0, if_neg (by omega)]
    rfl
  | succ n ih =>
    intro i s h0 hi
    obtain ⟨K, hK⟩ := ih (i + 1) (wrap64 (s + rd l i)) (by omega) (by omega)
    dsimp only at hK
    refine evUp K fun k hk => ?_
    rw [a3v.l0, if_pos (by omega), if_pos h0, if_pos (by omega), w64 (x := i + 1) (by omega) (by omega), hK k hk]
    rfl
theorem b8c (l : List Int) (hl : l.length ≤ 1000000) : Ev (fun k => a3v.f k l) (sumF l l.length 0 0) := b8b l hl l.length 0 0 (by omega) (by omega)
noncomputable def fewB (p q : Int) (vs : List S43) (here : List Int) : Bool := decide (wrap64 (sumF (wgt (·.f1) vs here) vs.length 0 0 * q) < wrap64 (p * allF vs vs.length 0 0))
noncomputable def a8w (n m0 m1 m2 : Int) (hol : List Int) : Bool := if (a6y m0 n m1 hol).2 = 0 then decide (m2 < (a6y m0 n m1 hol).1) else true
section
variable (t0 t1 t2 t3 : Int) (t4 : Bool) (m0 m1 m2 : Int) (ag : List ByteArray) (vs : List S43) (here : List Int) (act : ByteArray) (hol : List Int)
open Classical in
theorem a9t (x : Int) (hh : here.length ≤ 1000000) (hs : a8v here) : Ev (fun k => a3b.f k t0 t1 t2 t3 t4 m0 m1 m2 ag vs here act hol x) (decide (x ∈ here)) := by
  obtain ⟨p, K, hK⟩ := b9b here x hh hs here.length 0 here.length (by omega) (by omega) (by omega) (by omega) (fun t a b => by omega) (fun t a b => by omega)
  dsimp only at hK
  refine ⟨K, fun k hk => ?_⟩
  show a3b.f k t0 t1 t2 t3 t4 m0 m1 m2 ag vs here act hol x = _
  unfold a3b.f Sb.f
  rw [hK k hk]
  rfl
theorem b6i (i : Int) (h0 : 0 ≤ i) (h1 : i < vs.length) (hl : vs.length ≤ 1000000) (hh : here.length ≤ 1000000) (g : Good vs here) :
    ∃ p, (0 ≤ byI vs here i → p = byI vs here i) ∧ Ev (fun k => Mhby.f k t0 t1 t2 t3 t4 m0 m1 m2 ag vs here act hol i) (p, decide (0 ≤ byI vs here i)) := by
  obtain ⟨K1, hK1⟩ := a9t t0 t1 t2 t3 t4 m0 m1 m2 ag vs here act hol (a0a vs i).f0 hh g.sh
  obtain ⟨K2, hK2⟩ := a9t t0 t1 t2 t3 t4 m0 m1 m2 ag vs here act hol (a0a vs i).f2 hh g.sh
  obtain ⟨p, hp, K3, hK3⟩ := b0i t0 t1 t2 t3 t4 m0 m1 m2 ag vs here act hol (a0a vs i).f2 hl g.sv
  dsimp only at hK1 hK2 hK3
  unfold byI
  by_cases c1 : (a0a vs i).f0 ∈ here
  · rw [if_pos c1]
    refine ⟨i, fun _ => rfl, K1, fun k hk => ?_⟩
    show Mhby.f k t0 t1 t2 t3 t4 m0 m1 m2 ag vs here act hol i = _
    unfold Mhby.f
    rw [if_pos h0, if_pos h1, hK1 k hk, Option.bind_some, if_pos (decide_eq_true c1), decide_eq_true h0]
  · rw [if_neg c1]
    by_cases c2 : (a0a vs i).f2 ∈ here
    · rw [if_pos c2]
      refine ⟨p, hp, K1 + K2 + K3, fun k hk => ?_⟩
      show Mhby.f k t0 t1 t2 t3 t4 m0 m1 m2 ag vs here act hol i = _
      unfold Mhby.f
      rw [if_pos h0, if_pos h1, hK1 k (by omega), Option.bind_some, if_neg (by simpa using c1), hK2 k (by omega), Option.bind_some, if_pos (decide_eq_true c2), hK3 k (by omega)]
      rfl
    · rw [if_neg c2]
      refine ⟨0, fun h => by omega, K1 + K2, fun k hk => ?_⟩
      show Mhby.f k t0 t1 t2 t3 t4 m0 m1 m2 ag vs here act hol i = _
      unfold Mhby.f
      rw [if_pos h0, if_pos h1, hK1 k (by omega), Option.bind_some, if_neg (by simpa using c1), hK2 k (by omega), Option.bind_some, if_neg (by simpa using c2)]
      rfl
theorem b4r (hl : vs.length ≤ 1000000) (hh : here.length ≤ 1000000) (g : Good vs here) : ∀ (n : Nat) (i : Int) (o : List Int), 0 ≤ i → i + n = vs.length → o.length = vs.length →
    Ev (fun k => a0o.l0 k o vs (vs.length : Int) i t0 t1 t2 t3 t4 m0 m1 m2 ag vs here act hol) (W (·.f1) vs here n i o) := by
  intro n
  induction n with
  | zero =>
    intro i o h0 hi ho
    refine evUp 0 fun k _ => ?_
    rw [a0o.l0, if_neg (by omega)]
    rfl
  | succ n ih =>
    intro i o h0 hi ho
    obtain ⟨K, hK⟩ := ih (i + 1) (stepW (·.f1) vs here i o) (by omega) (by omega) (by rw [a6q, ho])
    obtain ⟨p, hp, K2, hK2⟩ := b6i t0 t1 t2 t3 t4 m0 m1 m2 ag vs here act hol i h0 (by omega) hl hh g
    dsimp only at hK hK2
    refine evUp (K + K2) fun k hk => ?_
    rw [a0o.l0, if_pos (by omega), if_pos h0, if_pos (by omega), hK2 k (by omega), Option.bind_some, w64 (x := i + 1) (by omega) (by omega), W]
    have hlt := a9s (here := here) (show i < vs.length by omega)
    by_cases c : 0 ≤ byI vs here i
    · rw [if_pos (decide_eq_true c), hp c, if_pos c, if_pos (by omega)]
      unfold a6f.f
      rw [Option.bind_some]
      refine Eq.trans ?_ (hK k (by omega))
      unfold stepW
      rw [if_pos c]
    · rw [if_neg (by simpa using c)]
      refine Eq.trans ?_ (hK k (by omega))
      unfold stepW
      rw [if_neg c]
theorem b4s (hl : vs.length ≤ 1000000) (hh : here.length ≤ 1000000) (g : Good vs here) : Ev (fun k => a0o.f k t0 t1 t2 t3 t4 m0 m1 m2 ag vs here act hol) (wgt (·.f1) vs here) := by
  obtain ⟨K, hK⟩ := b4r t0 t1 t2 t3 t4 m0 m1 m2 ag vs here act hol hl hh g vs.length 0 (List.replicate vs.length 0) (by omega) (by omega) (by rw [List.length_replicate])
  dsimp only at hK
  refine ⟨K, fun k hk => ?_⟩
  show a0o.f k t0 t1 t2 t3 t4 m0 m1 m2 ag vs here act hol = _
  unfold a0o.f
  rw [if_pos (by omega), Int.toNat_natCast, if_pos (by omega), hK k hk]
  rfl
theorem b4t (hl : vs.length ≤ 1000000) (hh : here.length ≤ 1000000) (g : Good vs here) : ∀ (n : Nat) (i : Int) (o : List Int), 0 ≤ i → i + n = vs.length → o.length = vs.length →
    Ev (fun k => a1b.l0 k o vs (vs.length : Int) i t0 t1 t2 t3 t4 m0 m1 m2 ag vs here act hol) (W (fun _ => 1) vs here n i o) := by
  intro n
  induction n with
  | zero =>
    intro i o h0 hi ho
    refine evUp 0 fun k _ => ?_
    rw [a1b.l0, if_neg (by omega)]
    rfl
  | succ n ih =>
    intro i o h0 hi ho
    obtain ⟨K, hK⟩ := ih (i + 1) (stepW (fun _ => 1) vs here i o) (by omega) (by omega) (by rw [a6q, ho])
    obtain ⟨p, hp, K2, hK2⟩ := b6i t0 t1 t2 t3 t4 m0 m1 m2 ag vs here act hol i h0 (by omega) hl hh g
    dsimp only at hK hK2
    refine evUp (K + K2) fun k hk => ?_
    rw [a1b.l0, if_pos (by omega), if_pos h0, if_pos (by omega), hK2 k (by omega), Option.bind_some, w64 (x := i + 1) (by omega) (by omega), W]
    have hlt := a9s (here := here) (show i < vs.length by omega)
    by_cases c : 0 ≤ byI vs here i
    · rw [if_pos (decide_eq_true c), hp c, if_pos c, if_pos (by omega)]
      unfold a7w.f
      rw [Option.bind_some]
      refine Eq.trans ?_ (hK k (by omega))
      unfold stepW
      rw [if_pos c]
    · rw [if_neg (by simpa using c)]
      refine Eq.trans ?_ (hK k (by omega))
      unfold stepW
      rw [if_neg c]
theorem b4u (hl : vs.length ≤ 1000000) (hh : here.length ≤ 1000000) (g : Good vs here) : Ev (fun k => a1b.f k t0 t1 t2 t3 t4 m0 m1 m2 ag vs here act hol) (wgt (fun _ => 1) vs here) := by
  obtain ⟨K, hK⟩ := b4t t0 t1 t2 t3 t4 m0 m1 m2 ag vs here act hol hl hh g vs.length 0 (List.replicate vs.length 0) (by omega) (by omega) (by rw [List.length_replicate])
  dsimp only at hK
  refine ⟨K, fun k hk => ?_⟩
  show a1b.f k t0 t1 t2 t3 t4 m0 m1 m2 ag vs here act hol = _
  unfold a1b.f
  rw [if_pos (by omega), Int.toNat_natCast, if_pos (by omega), hK k hk]
  rfl
theorem b6x (hl : vs.length ≤ 1000000) (hh : here.length ≤ 1000000) (g : Good vs here) : ∀ (n : Nat) (i s : Int), 0 ≤ i → i + n = vs.length →
    Ev (fun k => a3i.l0 k s vs (vs.length : Int) i t0 t1 t2 t3 t4 m0 m1 m2 ag vs here act hol) (decide (wrap64 (sumF (wgt (·.f1) vs here) vs.length 0 0 * t2) < wrap64 (t1 * allF vs n i s))) := by
  intro n
  induction n with
  | zero =>
    intro i s h0 hi
    obtain ⟨K, hK⟩ := b4s t0 t1 t2 t3 t4 m0 m1 m2 ag vs here act hol hl hh g
    obtain ⟨K2, hK2⟩ := b8c (wgt (·.f1) vs here) (by rw [a7s]; exact hl)
    dsimp only at hK hK2
    refine evUp (K + K2) fun k hk => ?_
    rw [a3i.l0, if_neg (by omega), hK k (by omega), Option.bind_some, hK2 k (by omega), Option.bind_some, a7s]
    rfl
  | succ n ih =>
    intro i s h0 hi
    obtain ⟨K, hK⟩ := ih (i + 1) (wrap64 (s + (a0a vs i).f1)) (by omega) (by omega)
    dsimp only at hK
    refine evUp K fun k hk => ?_
    rw [a3i.l0, if_pos (by omega), if_pos h0, if_pos (by omega), w64 (x := i + 1) (by omega) (by omega), hK k hk]
    rfl
theorem b6y (hl : vs.length ≤ 1000000) (hh : here.length ≤ 1000000) (g : Good vs here) : Ev (fun k => a3i.f k t0 t1 t2 t3 t4 m0 m1 m2 ag vs here act hol) (fewB t1 t2 vs here) :=
  b6x t0 t1 t2 t3 t4 m0 m1 m2 ag vs here act hol hl hh g vs.length 0 0 (by omega) (by omega)
theorem b3l (hl : vs.length ≤ 1000000) (hh : here.length ≤ 1000000) (g : Good vs here) : Ev (fun k => a4e.f k t0 t1 t2 t3 t4 m0 m1 m2 ag vs here act hol) (a6d t3 (wgt (fun _ => 1) vs here)) := by
  obtain ⟨K, hK⟩ := b4u t0 t1 t2 t3 t4 m0 m1 m2 ag vs here act hol hl hh g
  dsimp only at hK
  refine ⟨K, fun k hk => ?_⟩
  show a4e.f k t0 t1 t2 t3 t4 m0 m1 m2 ag vs here act hol = _
  unfold a4e.f
  rw [hK k hk, Option.bind_some, if_pos (by rw [a7s]; exact hl)]
theorem b6z (hh : hol.length ≤ 1000000) : Ev (fun k => a5n.f k t0 t1 t2 t3 t4 m0 m1 m2 ag vs here act hol) (a8w t0 m0 m1 m2 hol) := by
  obtain ⟨K, hK⟩ := b2l m0 t0 m1 hol hh
  dsimp only at hK
  refine ⟨K, fun k hk => ?_⟩
  show a5n.f k t0 t1 t2 t3 t4 m0 m1 m2 ag vs here act hol = _
  unfold a5n.f a8w
  rw [hK k hk, Option.bind_some]
  split <;> rfl
theorem b3m (ha : ag.length ≤ 1000000) : Ev (fun k => a4h.f k t0 t1 t2 t3 t4 m0 m1 m2 ag vs here act hol) (!hasB ag act) := by
  obtain ⟨K, hK⟩ := a9b ag act ha
  dsimp only at hK
  refine ⟨K, fun k hk => ?_⟩
  show a4h.f k t0 t1 t2 t3 t4 m0 m1 m2 ag vs here act hol = _
  unfold a4h.f
  rw [hK k hk]
  rfl
noncomputable def a5p : List Int × Int :=
  if (a5w 0 hol).2 = 0 ∧ a4r t0 t1 t2 t3 = true ∧ a4v m0 m1 m2 ag vs here = true ∧ a4w act = true then
    (a3j (a8w t0 m0 m1 m2 hol) 1 ++ a3j (!hasB ag act) 2 ++ a3j (fewB t1 t2 vs here) 3 ++ a3j (a6d t3 (wgt (fun _ => 1) vs here)) 4, 0) else ([], 1)
theorem b5s (hs : Small ag) (ha : ag.length ≤ 1000000) (hl : vs.length ≤ 1000000) (hh : here.length ≤ 1000000) (hd : hol.length ≤ 1000000) (hc : act.size ≤ 1000000) :
    Ev (fun k => a2q.f k t0 t1 t2 t3 t4 m0 m1 m2 ag vs here act hol) (a5p t0 t1 t2 t3 m0 m1 m2 ag vs here act hol) := by
  obtain ⟨K1, hK1⟩ := b3k 0 hol hd
  obtain ⟨K2, hK2⟩ := b5n t0 t1 t2 t3 t4 m0 m1 m2 ag vs here act hol hl hh ha hs
  obtain ⟨K3, hK3⟩ := b6z t0 t1 t2 t3 t4 m0 m1 m2 ag vs here act hol hd
  obtain ⟨K4, hK4⟩ := b3m t0 t1 t2 t3 t4 m0 m1 m2 ag vs here act hol ha
  dsimp only at hK1 hK2 hK3 hK4
  by_cases c : (a5w 0 hol).2 = 0 ∧ a4r t0 t1 t2 t3 = true ∧ a4v m0 m1 m2 ag vs here = true ∧ a4w act = true
  · have g := a9d c.2.2.1
    obtain ⟨K5, hK5⟩ := b6y t0 t1 t2 t3 t4 m0 m1 m2 ag vs here act hol hl hh g
    obtain ⟨K6, hK6⟩ := b3l t0 t1 t2 t3 t4 m0 m1 m2 ag vs here act hol hl hh g
    dsimp only at hK5 hK6
    refine ⟨K1 + K2 + K3 + K4 + K5 + K6, fun k hk => ?_⟩
    show a2q.f k t0 t1 t2 t3 t4 m0 m1 m2 ag vs here act hol = _
    unfold a2q.f a5p
    rw [hK1 k (by omega), Option.bind_some, if_pos c.1, a8f, Option.bind_some, if_pos c.2.1, hK2 k (by omega), Option.bind_some, if_pos c.2.2.1, a8m hc, Option.bind_some, if_pos c.2.2.2, hK3 k (by omega), Option.bind_some, hK4 k (by omega), Option.bind_some, hK5 k (by omega), Option.bind_some, hK6 k (by omega), Option.bind_some, if_pos c]
  · refine ⟨K1 + K2, fun k hk => ?_⟩
    show a2q.f k t0 t1 t2 t3 t4 m0 m1 m2 ag vs here act hol = _
    unfold a2q.f a5p
    rw [hK1 k (by omega), Option.bind_some, a8f, Option.bind_some, hK2 k (by omega), Option.bind_some, a8m hc, Option.bind_some, if_neg c]
    by_cases c1 : (a5w 0 hol).2 = 0
    · rw [if_pos c1]
      by_cases c2 : a4r t0 t1 t2 t3 = true
      · rw [if_pos c2]
        by_cases c3 : a4v m0 m1 m2 ag vs here = true
        · rw [if_pos c3, if_neg (fun c4 => c ⟨c1, c2, c3, c4⟩)]
        · rw [if_neg c3]
      · rw [if_neg c2]
    · rw [if_neg c1]
end
end Go.Proofs.Ytemnlgefngjliaa.Meet
