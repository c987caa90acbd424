/- What the meeting's functions and the reference's say of voters and of valid meetings. Conditions: as each theorem states. -/
import Derived.Test.YtemnlgefngjliaaMtB
import Derived.Test.YtemnlgefngjliaaPx4
import Derived.Test.YtemnlgefngjliaaPx11
import Derived.Test.YtemnlgefngjliaaPx12
import Derived.Test.YtemnlgefngjliaaPx14
import Derived.Test.YtemnlgefngjliaaPx19
import Derived.Test.YtemnlgefngjliaaPx20
import Derived.Test.YtemnlgefngjliaaPx21
namespace Go.Proofs.Ytemnlgefngjliaa.Meet
open Go.RowKit Go.Proofs.YtemnlgefngjliaaW.PrintWords Go.Proofs.Ytemnlgefngjliaa.Given Go.Proofs.Ytemnlgefngjliaa.Px
set_option linter.unusedVariables false
set_option linter.unusedSimpArgs false
def isAt (vs : List S43) (x t : Int) : Prop := 0 ≤ t ∧ t < vs.length ∧ (a0a vs t).f0 = x
def a5a (vs : List S43) : Prop := ∀ a b : Int, 0 ≤ a → a < b → b < vs.length → (a0a vs a).f0 < (a0a vs b).f0
open Classical in
noncomputable def idxV (vs : List S43) (x : Int) : Int := if h : ∃ t, isAt vs x t then h.choose else -1
theorem b2w {vs : List S43} {x : Int} (h : 0 ≤ idxV vs x) : isAt vs x (idxV vs x) := by
  unfold idxV at *
  by_cases e : ∃ t, isAt vs x t
  · rw [dif_pos e]; exact e.choose_spec
  · rw [dif_neg e] at h; omega
theorem a8s {vs : List S43} {x : Int} (h : ∀ t : Int, 0 ≤ t → t < vs.length → (a0a vs t).f0 ≠ x) : idxV vs x = -1 := by
  unfold idxV
  rw [dif_neg]
  rintro ⟨t, t0, t1, e⟩
  exact h t t0 t1 e
theorem b2x {vs : List S43} {x t : Int} (hs : a5a vs) (h : isAt vs x t) : idxV vs x = t := by
  have e : ∃ t, isAt vs x t := ⟨t, h⟩
  unfold idxV
  rw [dif_pos e]
  have k := e.choose_spec
  generalize e.choose = u at k
  rcases Int.lt_trichotomy u t with c | c | c
  · have := hs u t k.1 c h.2.1; have := k.2.2; have := h.2.2; omega
  · exact c
  · have := hs t u h.1 c k.2.1; have := k.2.2; have := h.2.2; omega
theorem a9g {vs : List S43} {x t : Int} (h : isAt vs x t) : 0 ≤ idxV vs x := by
  have e : ∃ t, isAt vs x t := ⟨t, h⟩
  unfold idxV
  rw [dif_pos e]
  exact e.choose_spec.1
theorem b5m (vs : List S43) (x : Int) (hl : vs.length ≤ 1000000) (hs : a5a vs) : ∀ (n : Nat) (i : Int), 0 ≤ i → i + n = vs.length → (∀ t : Int, 0 ≤ t → t < i → (a0a vs t).f0 ≠ x) →
    Ev (fun k => a1r.l0 k vs x i) (idxV vs x) := by
  intro n
  induction n with
  | zero =>
    intro i h0 hi hn
    refine evUp 0 fun k _ => ?_
    rw [a1r.l0, if_neg (by omega), a8s (fun t t0 t1 => hn t t0 (by omega))]
  | succ n ih =>
    intro i h0 hi hn
    by_cases c : (a0a vs i).f0 = x
    · refine evUp 0 fun k _ => ?_
      rw [a1r.l0, if_pos (by omega), if_pos h0, if_pos c, b2x hs ⟨h0, by omega, c⟩]
    · obtain ⟨K, hK⟩ := ih (i + 1) (by omega) (by omega) (fun t t0 t1 => by
        by_cases d : t = i
        · subst d; exact c
        · exact hn t t0 (by omega))
      dsimp only at hK
      refine evUp K fun k hk => ?_
      rw [a1r.l0, if_pos (by omega), if_pos h0, if_neg c, w64 (by omega) (by omega)]
      exact hK k hk
theorem b1u (vs : List S43) (x : Int) (hl : vs.length ≤ 1000000) (hs : a5a vs) : Ev (fun k => a1r.f k vs x) (idxV vs x) :=
  b5m vs x hl hs vs.length 0 (by omega) (by omega) (fun t t0 t1 => by omega)
theorem a7z (a b c x : Int) : a5k.f a b c x = some (if a < x then -1 else if a > x then 1 else 0) := by
  unfold a5k.f cmp_Compare_int.f cmp_isNaN_int.f
  simp
  by_cases h : a < x
  · rw [if_pos h, if_pos h]
  · rw [if_neg h, if_neg h]
    by_cases h2 : x < a
    · rw [if_pos h2, if_pos h2]
    · rw [if_neg h2, if_neg h2]
theorem b8r (vs : List S43) (x : Int) (hl : vs.length ≤ 1000000) (hs : a5a vs) : ∀ (n : Nat) (i j : Int), 0 ≤ i → i ≤ j → j ≤ vs.length → j - i ≤ n →
    (∀ t : Int, 0 ≤ t → t < i → (a0a vs t).f0 < x) → (∀ t : Int, j ≤ t → t < vs.length → x ≤ (a0a vs t).f0) →
    ∃ p, (0 ≤ idxV vs x → p = idxV vs x) ∧ Ev (fun k => Av.l0 k vs x (vs.length : Int) i j) (p, decide (0 ≤ idxV vs x)) := by
  intro n
  induction n with
  | zero =>
    intro i j h0 hij hj hn hlo hhi
    obtain rfl : i = j := by omega
    by_cases c : i < vs.length
    · by_cases d : (a0a vs i).f0 = x
      · have e := b2x hs ⟨h0, c, d⟩
        refine ⟨i, fun _ => e.symm, evUp 0 fun k _ => ?_⟩
        rw [Av.l0, if_neg (by omega), if_pos c, if_pos h0, if_pos c, a7z, Option.bind_some, if_neg (by omega), if_neg (by omega), e, decide_eq_true h0]
        rfl
      · have e : idxV vs x = -1 := a8s (fun t t0 t1 h => by
          rcases Int.lt_trichotomy t i with e | e | e
          · have := hlo t t0 e; omega
          · subst e; exact d h
          · have := hhi i (by omega) c
            have := hs i t h0 e t1
            omega)
        refine ⟨i, fun h => by omega, evUp 0 fun k _ => ?_⟩
        have hx := hhi i (by omega) c
        rw [Av.l0, if_neg (by omega), if_pos c, if_pos h0, if_pos c, a7z, Option.bind_some, if_neg (by omega), if_pos (by omega), e]
        rfl
    · have e : idxV vs x = -1 := a8s (fun t t0 t1 h => by have := hlo t t0 (by omega); omega)
      refine ⟨i, fun h => by omega, evUp 0 fun k _ => ?_⟩
      rw [Av.l0, if_neg (by omega), if_neg (by omega), e]
      rfl
  | succ n ih =>
    intro i j h0 hij hj hn hlo hhi
    by_cases e : i = j
    · exact ih i j h0 hij hj (by omega) hlo hhi
    · have hm : wrap64 (IntKind.u64.wrap (wrap64 (i + j)) / 2) = (i + j) / 2 := by
        rw [w64 (x := i + j) (by omega) (by omega), u64w (by omega) (by omega), w64 (by omega) (by omega)]
      by_cases d : (a0a vs ((i + j) / 2)).f0 < x
      · obtain ⟨p, hp, K, hK⟩ := ih ((i + j) / 2 + 1) j (by omega) (by omega) hj (by omega) (fun t t0 t1 => by
          by_cases q : t = (i + j) / 2
          · subst q; exact d
          · have := hs t ((i + j) / 2) t0 (by omega) (by omega)
            omega) hhi
        dsimp only at hK
        refine ⟨p, hp, evUp K fun k hk => ?_⟩
        rw [Av.l0, if_pos (by omega), hm, if_pos (by omega), if_pos (by omega), a7z, if_pos d, Option.bind_some, if_pos (by decide), w64 (by omega) (by omega)]
        exact hK k hk
      · obtain ⟨p, hp, K, hK⟩ := ih i ((i + j) / 2) h0 (by omega) (by omega) (by omega) hlo (fun t t0 t1 => by
          by_cases q : t = (i + j) / 2
          · subst q; omega
          · have := hs ((i + j) / 2) t (by omega) (by omega) t1
            omega)
        dsimp only at hK
        refine ⟨p, hp, evUp K fun k hk => ?_⟩
        have hc : ¬ (if (a0a vs ((i + j) / 2)).f0 < x then (-1 : Int) else if (a0a vs ((i + j) / 2)).f0 > x then 1 else 0) < 0 := by
          rw [if_neg d]
          split <;> omega
        rw [Av.l0, if_pos (by omega), hm, if_pos (by omega), if_pos (by omega), a7z, Option.bind_some, if_neg hc]
        exact hK k hk
section
variable (t0 t1 t2 t3 : Int) (t4 : Bool) (m0 m1 m2 : Int) (ag : List ByteArray) (vs : List S43) (here : List Int) (act : ByteArray) (hol : List Int)
theorem b0i (x : Int) (hl : vs.length ≤ 1000000) (hs : a5a vs) :
    ∃ p, (0 ≤ idxV vs x → p = idxV vs x) ∧ Ev (fun k => a3c.f k t0 t1 t2 t3 t4 m0 m1 m2 ag vs here act hol x) (p, decide (0 ≤ idxV vs x)) := by
  obtain ⟨p, hp, K, hK⟩ := b8r vs x hl hs vs.length 0 vs.length (by omega) (by omega) (by omega) (by omega) (fun t a b => by omega) (fun t a b => by omega)
  dsimp only at hK
  refine ⟨p, hp, K, fun k hk => ?_⟩
  show a3c.f k t0 t1 t2 t3 t4 m0 m1 m2 ag vs here act hol x = _
  unfold a3c.f Av.f
  rw [hK k hk]
  rfl
def okv (vs : List S43) (i : Int) : Bool := decide (1 ≤ (a0a vs i).f0 ∧ (a0a vs i).f0 ≤ 64 ∧ (0 < i → (a0a vs (i - 1)).f0 < (a0a vs i).f0) ∧ 0 ≤ (a0a vs i).f1 ∧ (a0a vs i).f1 ≤ 1000)
def vA (vs : List S43) : Nat → Int → Bool
  | 0, _ => true
  | n + 1, i => okv vs i && vA vs n (i + 1)
noncomputable def okp (vs : List S43) (i : Int) : Bool := decide ((a0a vs i).f2 = 0) || (decide ((a0a vs i).f2 ≠ (a0a vs i).f0) && decide (0 ≤ idxV vs (a0a vs i).f2))
noncomputable def vB (vs : List S43) : Nat → Int → Bool
  | 0, _ => true
  | n + 1, i => okp vs i && vB vs n (i + 1)
theorem b3i {vs : List S43} : ∀ {n : Nat} {i : Int}, vA vs n i = true → ∀ j : Int, i ≤ j → j < i + n → okv vs j = true
  | 0, i, _, j, h1, h2 => by omega
  | n + 1, i, h, j, h1, h2 => by
    rw [vA, Bool.and_eq_true] at h
    by_cases c : j = i
    · subst c; exact h.1
    · exact b3i h.2 j (by omega) (by omega)
theorem b6f {vs : List S43} : ∀ {n : Nat} {i : Int}, vB vs n i = true → ∀ j : Int, i ≤ j → j < i + n → okp vs j = true
  | 0, i, _, j, h1, h2 => by omega
  | n + 1, i, h, j, h1, h2 => by
    rw [vB, Bool.and_eq_true] at h
    by_cases c : j = i
    · subst c; exact h.1
    · exact b6f h.2 j (by omega) (by omega)
theorem a8n {vs : List S43} (h : ∀ j : Int, 0 ≤ j → j < vs.length → okv vs j = true) : a5a vs := by
  have key : ∀ (n : Nat) (a b : Int), 0 ≤ a → b = a + 1 + n → b < vs.length → (a0a vs a).f0 < (a0a vs b).f0 := by
    intro n
    induction n with
    | zero =>
      intro a b h0 hb h1
      have k := of_decide_eq_true (h b (by omega) h1)
      have := k.2.2.1 (by omega)
      rw [show b - 1 = a by omega] at this
      exact this
    | succ n ih =>
      intro a b h0 hb h1
      have k := of_decide_eq_true (h b (by omega) h1)
      have := k.2.2.1 (by omega)
      have := ih a (b - 1) h0 (by omega) (by omega)
      omega
  intro a b h0 hab h1
  exact key (b - a - 1).toNat a b h0 (by omega) h1
noncomputable def a4l (vs : List S43) : Bool := vA vs vs.length 0 && (vB vs vs.length 0 && decide (vs.length ≤ 64))
theorem b8s (hl : vs.length ≤ 1000000) (hs : a5a vs) : ∀ (n : Nat) (i : Int), 0 ≤ i → i + n = vs.length →
    Ev (fun k => a0c.l1 k vs (vs.length : Int) i t0 t1 t2 t3 t4 m0 m1 m2 ag vs here act hol) (vB vs n i && decide (vs.length ≤ 64)) := by
  intro n
  induction n with
  | zero =>
    intro i h0 hi
    refine evUp 0 fun k _ => ?_
    rw [a0c.l1, if_neg (by omega)]
    congr 1
    rw [vB, Bool.true_and, decide_eq_decide]
    omega
  | succ n ih =>
    intro i h0 hi
    obtain ⟨K, hK⟩ := ih (i + 1) (by omega) (by omega)
    obtain ⟨p, hp, K2, hK2⟩ := b0i t0 t1 t2 t3 t4 m0 m1 m2 ag vs here act hol (a0a vs i).f2 hl hs
    dsimp only at hK hK2
    refine evUp (K + K2 + 1) fun k hk => ?_
    obtain ⟨j, rfl⟩ : ∃ j, k = j + 1 := ⟨k - 1, by omega⟩
    have step : ∀ b, a0c.j3 (j + 1) vs (vs.length : Int) i b t0 t1 t2 t3 t4 m0 m1 m2 ag vs here act hol = some (!b && (vB vs n (i + 1) && decide (vs.length ≤ 64))) := by
      intro b
      rw [a0c.j3]
      cases b with
      | true => rw [if_pos rfl]; rfl
      | false => rw [if_neg (by simp), w64 (by omega) (by omega), hK j (by omega)]; rfl
    rw [a0c.l1, if_pos (by omega), if_pos h0, if_pos (by omega), hK2 (j + 1) (by omega), Option.bind_some, step, step, step, vB, Bool.and_assoc]
    unfold okp
    by_cases c : (a0a vs i).f2 = 0
    · rw [if_pos c, decide_eq_true c]; rfl
    · rw [if_neg c, decide_eq_false c]
      by_cases d : 0 ≤ idxV vs (a0a vs i).f2
      · rw [if_pos (decide_eq_true d), decide_eq_true d]
        by_cases e : (a0a vs i).f2 = (a0a vs i).f0
        · rw [e]; simp
        · rw [decide_eq_true e, beq_false_of_ne e]; rfl
      · rw [if_neg (by simpa using d), decide_eq_false d]; simp
theorem b8t (hl : vs.length ≤ 1000000) : ∀ (n : Nat) (i : Int), 0 ≤ i → i + n = vs.length → (∀ j : Int, 0 ≤ j → j < i → okv vs j = true) →
    Ev (fun k => a0c.l0 k vs (vs.length : Int) i t0 t1 t2 t3 t4 m0 m1 m2 ag vs here act hol) (vA vs n i && (vB vs vs.length 0 && decide (vs.length ≤ 64))) := by
  intro n
  induction n with
  | zero =>
    intro i h0 hi hv
    obtain ⟨K, hK⟩ := b8s t0 t1 t2 t3 t4 m0 m1 m2 ag vs here act hol hl (a8n fun j j0 j1 => hv j j0 (by omega)) vs.length 0 (by omega) (by omega)
    dsimp only at hK
    refine evUp K fun k hk => ?_
    rw [a0c.l0, if_neg (by omega), hK k hk]
    rfl
  | succ n ih =>
    intro i h0 hi hv
    by_cases ok : okv vs i = true
    · obtain ⟨K, hK⟩ := ih (i + 1) (by omega) (by omega) (fun j j0 j1 => by
        by_cases c : j = i
        · subst c; exact ok
        · exact hv j j0 (by omega))
      dsimp only at hK
      refine evUp (K + 1) fun k hk => ?_
      obtain ⟨j, rfl⟩ : ∃ j, k = j + 1 := ⟨k - 1, by omega⟩
      rw [vA, ok, Bool.true_and]
      have q := of_decide_eq_true ok
      have step : a0c.j1 (j + 1) vs (vs.length : Int) i false t0 t1 t2 t3 t4 m0 m1 m2 ag vs here act hol = some (vA vs n (i + 1) && (vB vs vs.length 0 && decide (vs.length ≤ 64))) := by
        rw [a0c.j1, if_neg (by simp), w64 (by omega) (by omega), hK j (by omega)]
      rw [a0c.l0, if_pos (by omega), if_pos h0, if_pos (by omega), a4x, decide_eq_true ⟨q.1, q.2.1⟩, Option.bind_some, if_pos rfl, a4x, decide_eq_true q.2.2.2, Option.bind_some, Bool.not_true, step]
      by_cases c : i > 0
      · have := q.2.2.1 c
        rw [if_pos c, w64 (x := i - 1) (by omega) (by omega), if_pos (by omega), if_pos (by omega), if_neg (by omega)]
      · rw [if_neg c]
    · refine evUp 1 fun k hk => ?_
      obtain ⟨j, rfl⟩ : ∃ j, k = j + 1 := ⟨k - 1, by omega⟩
      have step : a0c.j1 (j + 1) vs (vs.length : Int) i true t0 t1 t2 t3 t4 m0 m1 m2 ag vs here act hol = some false := by rw [a0c.j1, if_pos rfl]
      rw [vA, Bool.eq_false_iff.mpr ok, Bool.false_and, Bool.false_and]
      rw [a0c.l0, if_pos (by omega), if_pos h0, if_pos (by omega), a4x, Option.bind_some, a4x, Option.bind_some]
      by_cases c1 : 1 ≤ (a0a vs i).f0 ∧ (a0a vs i).f0 ≤ 64
      · rw [if_pos (decide_eq_true c1)]
        by_cases c2 : 0 ≤ (a0a vs i).f1 ∧ (a0a vs i).f1 ≤ 1000
        · have c3 : i > 0 ∧ (a0a vs i).f0 ≤ (a0a vs (i - 1)).f0 := by
            rcases Int.lt_or_le 0 i with e | e
            · rcases Int.lt_or_le (a0a vs (i - 1)).f0 (a0a vs i).f0 with f | f
              · exact absurd (decide_eq_true ⟨c1.1, c1.2, fun _ => f, c2⟩) ok
              · exact ⟨e, f⟩
            · exact absurd (decide_eq_true ⟨c1.1, c1.2, fun e' => by omega, c2⟩) ok
          rw [if_pos c3.1, w64 (x := i - 1) (by omega) (by omega), if_pos (by omega), if_pos (by omega), if_pos c3.2, step]
        · rw [decide_eq_false c2, Bool.not_false, step]
          by_cases c : i > 0
          · rw [if_pos c, w64 (x := i - 1) (by omega) (by omega), if_pos (by omega), if_pos (by omega)]
            split <;> rfl
          · rw [if_neg c]
      · rw [if_neg (by simpa using c1), step]
theorem b0j (hl : vs.length ≤ 1000000) : Ev (fun k => a0c.f k t0 t1 t2 t3 t4 m0 m1 m2 ag vs here act hol) (a4l vs) :=
  b8t t0 t1 t2 t3 t4 m0 m1 m2 ag vs here act hol hl vs.length 0 (by omega) (by omega) (fun j j0 j1 => by omega)
theorem b8u (hl : vs.length ≤ 1000000) (hs : a5a vs) : ∀ (n : Nat) (i : Int), 0 ≤ i → i + n = vs.length →
    Ev (fun k => a0i.l1 k vs i) (vB vs n i) := by
  intro n
  induction n with
  | zero =>
    intro i h0 hi
    refine evUp 0 fun k _ => ?_
    rw [a0i.l1, if_neg (by omega)]
    rfl
  | succ n ih =>
    intro i h0 hi
    obtain ⟨K, hK⟩ := ih (i + 1) (by omega) (by omega)
    obtain ⟨K2, hK2⟩ := b1u vs (a0a vs i).f2 hl hs
    dsimp only at hK hK2
    refine evUp (K + K2 + 1) fun k hk => ?_
    obtain ⟨j, rfl⟩ : ∃ j, k = j + 1 := ⟨k - 1, by omega⟩
    have step : ∀ b, a0i.j3 (j + 1) vs i b = some (!b && vB vs n (i + 1)) := by
      intro b
      rw [a0i.j3]
      cases b with
      | true => rw [if_pos rfl]; rfl
      | false => rw [if_neg (by simp), w64 (by omega) (by omega), hK j (by omega)]; rfl
    rw [a0i.l1, if_pos (by omega), if_pos h0, hK2 (j + 1) (by omega), Option.bind_some, step, step, step, vB]
    unfold okp
    by_cases c : (a0a vs i).f2 = 0
    · rw [if_pos c, decide_eq_true c]; rfl
    · rw [if_neg c, decide_eq_false c]
      by_cases e : (a0a vs i).f2 = (a0a vs i).f0
      · rw [if_pos e]; simp [e]
      · rw [if_neg e, decide_eq_true e, Bool.false_or, Bool.true_and]
        congr 2
        rw [Bool.eq_iff_iff]
        simp
theorem b8v (hl : vs.length ≤ 1000000) : ∀ (n : Nat) (i : Int), 0 ≤ i → i + n = vs.length → (∀ j : Int, 0 ≤ j → j < i → okv vs j = true) →
    Ev (fun k => a0i.l0 k vs i) (vA vs n i && vB vs vs.length 0) := by
  intro n
  induction n with
  | zero =>
    intro i h0 hi hv
    obtain ⟨K, hK⟩ := b8u vs hl (a8n fun j j0 j1 => hv j j0 (by omega)) vs.length 0 (by omega) (by omega)
    dsimp only at hK
    refine evUp K fun k hk => ?_
    rw [a0i.l0, if_neg (by omega), hK k hk]
    rfl
  | succ n ih =>
    intro i h0 hi hv
    by_cases ok : okv vs i = true
    · obtain ⟨K, hK⟩ := ih (i + 1) (by omega) (by omega) (fun j j0 j1 => by
        by_cases c : j = i
        · subst c; exact ok
        · exact hv j j0 (by omega))
      dsimp only at hK
      refine evUp (K + 1) fun k hk => ?_
      obtain ⟨j, rfl⟩ : ∃ j, k = j + 1 := ⟨k - 1, by omega⟩
      rw [vA, ok, Bool.true_and]
      have q := of_decide_eq_true ok
      have step : a0i.j1 (j + 1) vs i false = some (vA vs n (i + 1) && vB vs vs.length 0) := by
        rw [a0i.j1, if_neg (by simp), w64 (by omega) (by omega), hK j (by omega)]
      rw [a0i.l0, if_pos (by omega), if_pos h0, if_neg (by omega), if_neg (by omega), decide_eq_false (show ¬ (a0a vs i).f1 > 1000 by omega), step]
      by_cases c : i > 0
      · have := q.2.2.1 c
        rw [if_pos c, w64 (x := i - 1) (by omega) (by omega), if_pos (by omega), if_pos (by omega), if_neg (by omega), if_neg (by omega)]
      · rw [if_neg c, if_neg (by omega)]
    · refine evUp 1 fun k hk => ?_
      obtain ⟨j, rfl⟩ : ∃ j, k = j + 1 := ⟨k - 1, by omega⟩
      have step : a0i.j1 (j + 1) vs i true = some false := by rw [a0i.j1, if_pos rfl]
      rw [vA, Bool.eq_false_iff.mpr ok, Bool.false_and, Bool.false_and]
      rw [a0i.l0, if_pos (by omega), if_pos h0, step]
      by_cases c1 : (a0a vs i).f0 < 1
      · rw [if_pos c1]
      · rw [if_neg c1]
        by_cases c2 : (a0a vs i).f0 > 64
        · rw [if_pos c2]
        · rw [if_neg c2]
          by_cases c3 : i > 0
          · rw [if_pos c3, w64 (x := i - 1) (by omega) (by omega), if_pos (by omega), if_pos (by omega)]
            by_cases c4 : (a0a vs i).f0 ≤ (a0a vs (i - 1)).f0
            · rw [if_pos c4]
            · rw [if_neg c4]
              by_cases c5 : (a0a vs i).f1 < 0
              · rw [if_pos c5]
              · rw [if_neg c5]
                by_cases c6 : (a0a vs i).f1 > 1000
                · rw [decide_eq_true c6, step]
                · exact absurd (decide_eq_true ⟨by omega, by omega, fun _ => by omega, by omega, by omega⟩) ok
          · rw [if_neg c3]
            by_cases c5 : (a0a vs i).f1 < 0
            · rw [if_pos c5]
            · rw [if_neg c5]
              by_cases c6 : (a0a vs i).f1 > 1000
              · rw [decide_eq_true c6, step]
              · exact absurd (decide_eq_true ⟨by omega, by omega, fun e => by omega, by omega, by omega⟩) ok
theorem b4p (hl : vs.length ≤ 1000000) : Ev (fun k => a0i.f k vs) (a4l vs) := by
  unfold a4l
  by_cases c : (vs.length : Int) > 64
  · refine ⟨0, fun k _ => ?_⟩
    show a0i.f k vs = _
    unfold a0i.f
    rw [if_pos c, decide_eq_false (show ¬ vs.length ≤ 64 by omega), Bool.and_false, Bool.and_false]
  · obtain ⟨K, hK⟩ := b8v vs hl vs.length 0 (by omega) (by omega) (fun j j0 j1 => by omega)
    dsimp only at hK
    refine ⟨K, fun k hk => ?_⟩
    show a0i.f k vs = _
    unfold a0i.f
    rw [if_neg c, hK k hk, decide_eq_true (show vs.length ≤ 64 by omega), Bool.and_true]
noncomputable def okh (vs : List S43) (here : List Int) (i : Int) : Bool := decide (0 ≤ idxV vs (rd here i)) && decide (0 < i → rd here (i - 1) < rd here i)
noncomputable def hB (vs : List S43) (here : List Int) : Nat → Int → Bool
  | 0, _ => true
  | n + 1, i => okh vs here i && hB vs here n (i + 1)
noncomputable def a4v (m0 m1 m2 : Int) (ag : List ByteArray) (vs : List S43) (here : List Int) : Bool :=
  decide (0 ≤ m0 ∧ m0 ≤ 36524) && (decide (m0 ≤ m2 ∧ m2 ≤ 36524) && (decide (1 ≤ m1 ∧ m1 ≤ 2) && (agB ag && (a4l vs && hB vs here here.length 0))))
theorem a6j {vs : List S43} (h : a4l vs = true) : a5a vs := by
  unfold a4l at h
  rw [Bool.and_eq_true] at h
  exact a8n fun j j0 j1 => b3i h.1 j (by omega) (by omega)
theorem b8w (hl : vs.length ≤ 1000000) (hh : here.length ≤ 1000000) (hs : a5a vs) : ∀ (n : Nat) (i : Int), 0 ≤ i → i + n = here.length →
    Ev (fun k => a0l.l0 k here (here.length : Int) i t0 t1 t2 t3 t4 m0 m1 m2 ag vs here act hol) (hB vs here n i) := by
  intro n
  induction n with
  | zero =>
    intro i h0 hi
    refine evUp 0 fun k _ => ?_
    rw [a0l.l0, if_neg (by omega)]
    rfl
  | succ n ih =>
    intro i h0 hi
    obtain ⟨K, hK⟩ := ih (i + 1) (by omega) (by omega)
    obtain ⟨p, hp, K2, hK2⟩ := b0i t0 t1 t2 t3 t4 m0 m1 m2 ag vs here act hol (rd here i) hl hs
    dsimp only at hK hK2
    refine evUp (K + K2 + 1) fun k hk => ?_
    obtain ⟨j, rfl⟩ : ∃ j, k = j + 1 := ⟨k - 1, by omega⟩
    have step : ∀ b, a0l.j2 (j + 1) here (here.length : Int) i b t0 t1 t2 t3 t4 m0 m1 m2 ag vs here act hol = some (!b && hB vs here n (i + 1)) := by
      intro b
      rw [a0l.j2]
      cases b with
      | true => rw [if_pos rfl]; rfl
      | false => rw [if_neg (by simp), w64 (by omega) (by omega), hK j (by omega)]; rfl
    rw [a0l.l0, if_pos (by omega), if_pos h0, if_pos (by omega), hK2 (j + 1) (by omega), Option.bind_some, step, step, step, hB]
    unfold okh
    by_cases c : 0 ≤ idxV vs (rd here i)
    · rw [if_pos (decide_eq_true c), decide_eq_true c]
      by_cases d : i > 0
      · rw [if_pos d, w64 (x := i - 1) (by omega) (by omega), if_pos (by omega), if_pos (by omega), Bool.true_and]
        congr 2
        rw [Bool.eq_iff_iff]
        simp [d]
      · rw [if_neg d, decide_eq_true (show 0 < i → rd here (i - 1) < rd here i from fun e => by omega)]
        rfl
    · rw [if_neg (by simpa using c), decide_eq_false c]
      rfl
theorem b5n (hl : vs.length ≤ 1000000) (hh : here.length ≤ 1000000) (ha : ag.length ≤ 1000000) (hs : Small ag) : Ev (fun k => a0l.f k t0 t1 t2 t3 t4 m0 m1 m2 ag vs here act hol) (a4v m0 m1 m2 ag vs here) := by
  obtain ⟨K1, hK1⟩ := b2j ag ha hs
  obtain ⟨K2, hK2⟩ := b0j t0 t1 t2 t3 t4 m0 m1 m2 ag vs here act hol hl
  obtain ⟨K3, hK3⟩ : ∃ K, a4l vs = true → ∀ k, K ≤ k → a0l.l0 k here (here.length : Int) 0 t0 t1 t2 t3 t4 m0 m1 m2 ag vs here act hol = some (hB vs here here.length 0) := by
    cases c : a4l vs with
    | false => exact ⟨0, fun h => by simp at h⟩
    | true =>
      obtain ⟨K, hK⟩ := b8w t0 t1 t2 t3 t4 m0 m1 m2 ag vs here act hol hl hh (a6j c) here.length 0 (by omega) (by omega)
      exact ⟨K, fun _ => hK⟩
  dsimp only at hK1 hK2
  refine evUp (K1 + K2 + K3) fun k hk => ?_
  have step : ∀ b, (b = false → a4l vs = true) → a0l.j0 (k + 1) b t0 t1 t2 t3 t4 m0 m1 m2 ag vs here act hol = some (!b && hB vs here here.length 0) := by
    intro b hb
    rw [a0l.j0]
    cases b with
    | true => rw [if_pos rfl]; rfl
    | false => rw [if_neg (by simp), hK3 (hb rfl) k (by omega)]; rfl
  unfold a0l.f a4v
  rw [a4x, Option.bind_some, a4x, Option.bind_some, a4x, Option.bind_some, hK1 (k + 1) (by omega), Option.bind_some, hK2 (k + 1) (by omega), Option.bind_some, step true (by simp), step (!a4l vs) (by simp)]
  by_cases c1 : 0 ≤ m0 ∧ m0 ≤ 36524
  · rw [decide_eq_true c1, if_pos rfl, Bool.true_and]
    by_cases c2 : m0 ≤ m2 ∧ m2 ≤ 36524
    · rw [decide_eq_true c2, if_pos rfl, Bool.true_and]
      by_cases c3 : 1 ≤ m1 ∧ m1 ≤ 2
      · rw [decide_eq_true c3, if_pos rfl, Bool.true_and]
        cases agB ag with
        | false => rw [if_neg (by simp)]; rfl
        | true => rw [if_pos rfl]; simp
      · rw [decide_eq_false c3, if_neg (by simp)]; rfl
    · rw [decide_eq_false c2, if_neg (by simp)]; rfl
  · rw [decide_eq_false c1, if_neg (by simp)]; rfl
theorem b8x (hl : vs.length ≤ 1000000) (hh : here.length ≤ 1000000) (hs : a5a vs) : ∀ (n : Nat) (i : Int), 0 ≤ i → i + n = here.length →
    Ev (fun k => a0g.l0 k i m0 m1 m2 ag vs here) (hB vs here n i) := by
  intro n
  induction n with
  | zero =>
    intro i h0 hi
    refine evUp 0 fun k _ => ?_
    rw [a0g.l0, if_neg (by omega)]
    rfl
  | succ n ih =>
    intro i h0 hi
    obtain ⟨K, hK⟩ := ih (i + 1) (by omega) (by omega)
    obtain ⟨K2, hK2⟩ := b1u vs (rd here i) hl hs
    dsimp only at hK hK2
    refine evUp (K + K2 + 1) fun k hk => ?_
    obtain ⟨j, rfl⟩ : ∃ j, k = j + 1 := ⟨k - 1, by omega⟩
    have step : ∀ b, a0g.j2 (j + 1) i b m0 m1 m2 ag vs here = some (!b && hB vs here n (i + 1)) := by
      intro b
      rw [a0g.j2]
      cases b with
      | true => rw [if_pos rfl]; rfl
      | false => rw [if_neg (by simp), w64 (by omega) (by omega), hK j (by omega)]; rfl
    rw [a0g.l0, if_pos (by omega), if_pos h0, hK2 (j + 1) (by omega), Option.bind_some, step, step, step, hB]
    unfold okh
    by_cases c : idxV vs (rd here i) < 0
    · rw [if_pos c, decide_eq_false (show ¬ 0 ≤ idxV vs (rd here i) by omega)]
      rfl
    · rw [if_neg c, decide_eq_true (show 0 ≤ idxV vs (rd here i) by omega)]
      by_cases d : i > 0
      · rw [if_pos d, w64 (x := i - 1) (by omega) (by omega), if_pos (by omega), if_pos (by omega), Bool.true_and]
        congr 2
        rw [Bool.eq_iff_iff]
        simp [d]
      · rw [if_neg d, decide_eq_true (show 0 < i → rd here (i - 1) < rd here i from fun e => by omega)]
        rfl
theorem b2y (d : Int) : RcIn.f d = some (decide (0 ≤ d ∧ d ≤ 36524)) := by
  unfold RcIn.f
  by_cases h : 0 ≤ d
  · rw [if_pos h]; simp [h]
  · rw [if_neg h]; simp [h]
theorem b4q (hl : vs.length ≤ 1000000) (hh : here.length ≤ 1000000) (ha : ag.length ≤ 1000000) : Ev (fun k => a0g.f k m0 m1 m2 ag vs here) (a4v m0 m1 m2 ag vs here) := by
  obtain ⟨K1, hK1⟩ := b4j ag ha
  obtain ⟨K2, hK2⟩ := b4p vs hl
  obtain ⟨K3, hK3⟩ : ∃ K, a4l vs = true → ∀ k, K ≤ k → a0g.l0 k 0 m0 m1 m2 ag vs here = some (hB vs here here.length 0) := by
    cases c : a4l vs with
    | false => exact ⟨0, fun h => by simp at h⟩
    | true =>
      obtain ⟨K, hK⟩ := b8x m0 m1 m2 ag vs here hl hh (a6j c) here.length 0 (by omega) (by omega)
      exact ⟨K, fun _ => hK⟩
  dsimp only at hK1 hK2
  refine evUp (K1 + K2 + K3) fun k hk => ?_
  have step : ∀ b, (b = false → a4l vs = true) → a0g.j0 (k + 1) b m0 m1 m2 ag vs here = some (!b && hB vs here here.length 0) := by
    intro b hb
    rw [a0g.j0]
    cases b with
    | true => rw [if_pos rfl]; rfl
    | false => rw [if_neg (by simp), hK3 (hb rfl) k (by omega)]; rfl
  unfold a0g.f a4v
  rw [b2y, Option.bind_some, b2y, Option.bind_some, hK1 (k + 1) (by omega), Option.bind_some, hK2 (k + 1) (by omega), Option.bind_some, step true (by simp), step (!a4l vs) (by simp)]
  by_cases c1 : 0 ≤ m0 ∧ m0 ≤ 36524
  · rw [decide_eq_true c1, if_pos rfl, Bool.true_and]
    by_cases c2 : 0 ≤ m2 ∧ m2 ≤ 36524
    · rw [decide_eq_true c2, if_pos rfl]
      by_cases c3 : m0 > m2
      · rw [if_pos c3, decide_eq_false (show ¬ (m0 ≤ m2 ∧ m2 ≤ 36524) by omega)]; rfl
      · rw [if_neg c3, decide_eq_true (show m0 ≤ m2 ∧ m2 ≤ 36524 by omega), Bool.true_and]
        by_cases c4 : m1 = 1
        · rw [if_pos c4, decide_eq_true (show 1 ≤ m1 ∧ m1 ≤ 2 by omega), Bool.true_and]
          cases agB ag with
          | false => rw [if_neg (by simp)]; rfl
          | true => rw [if_pos rfl]; simp
        · rw [if_neg c4]
          by_cases c5 : m1 = 2
          · rw [if_pos c5, decide_eq_true (show 1 ≤ m1 ∧ m1 ≤ 2 by omega), Bool.true_and]
            cases agB ag with
            | false => rw [if_neg (by simp)]; rfl
            | true => rw [if_pos rfl]; simp
          · rw [if_neg c5, decide_eq_false (show ¬ (1 ≤ m1 ∧ m1 ≤ 2) by omega)]; rfl
    · rw [decide_eq_false c2, if_neg (by simp), decide_eq_false (show ¬ (m0 ≤ m2 ∧ m2 ≤ 36524) by omega)]; rfl
  · rw [decide_eq_false c1, if_neg (by simp)]; rfl
end
end Go.Proofs.Ytemnlgefngjliaa.Meet
