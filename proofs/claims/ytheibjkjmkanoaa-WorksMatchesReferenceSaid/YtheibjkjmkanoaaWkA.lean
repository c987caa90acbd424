/- Words that the kit's print.sh printed, in a copy without what is not used. Conditions: as_ each theorem states. -/
import Derived.Test.YtheibjkjmkanoaaGMap
import Derived.Test.YtheibjkjmkanoaaPx0
import Derived.Test.YtheibjkjmkanoaaPx4
import Derived.Test.YtheibjkjmkanoaaPx5
import Derived.Test.YtheibjkjmkanoaaPx7
import Derived.Test.YtheibjkjmkanoaaPx12
import Derived.Test.YtheibjkjmkanoaaPx22
import Derived.Test.YtheibjkjmkanoaaPx23
import Derived.Test.YtheibjkjmkanoaaPx25
import Derived.Test.YtheibjkjmkanoaaPx28
import Derived.Test.YtheibjkjmkanoaaPx21
import Derived.Test.YtheibjkjmkanoaaPx20
namespace Go.Proofs.Ytheibjkjmkanoaa.Wk
open Go.RowKit Go.Proofs.YtheibjkjmkanoaaW.PrintWords Go.Proofs.YtheibjkjmkanoaaW.PrintMore Go.Proofs.Ytheibjkjmkanoaa.Given Go.Proofs.Ytheibjkjmkanoaa.Px
set_option linter.unusedVariables false
set_option linter.unusedSimpArgs false
theorem w64 {x : Int} (h : -9223372036854775808 ≤ x) (h2 : x ≤ 9223372036854775807) : wrap64 x = x := by unfold wrap64; omega
theorem evUp {α : Type} {g : Nat → Option α} {r : α} (K : Nat) (h : ∀ k, K ≤ k → g (k + 1) = some r) : Ev g r :=
 ⟨K + 1, fun k hk => by obtain ⟨k, rfl⟩ : ∃ j, k = j + 1 := ⟨k - 1, by omega⟩; exact h k (by omega)⟩
theorem a8j {α : Type} {g : Nat → Option α} {r : α} (h : ∀ k, g k = some r) : Ev g r := ⟨0, fun k _ => h k⟩
theorem a5h {α : Type} (L : Int → Nat → Option α) (n : Int) (n0 : 0 ≤ n) (good : Int → Prop) (f : Int → α) (e : α) (hend : Ev (L n) e)
  (hno : ∀ i, 0 ≤ i → i < n → ¬ good i → Ev (L i) (f i)) (hyes : ∀ i r, 0 ≤ i → i < n → good i → Ev (L (i + 1)) r → Ev (L i) r) :
  ((∀ i, 0 ≤ i → i < n → good i) ∧ Ev (L 0) e) ∨ (∃ i, 0 ≤ i ∧ i < n ∧ ¬ good i ∧ (∀ j, 0 ≤ j → j < i → good j) ∧ Ev (L 0) (f i)) := by
 have main : ∀ (m : Nat) (i : Int), 0 ≤ i → i + m = n → ((∀ j, i ≤ j → j < n → good j) ∧ Ev (L i) e) ∨ (∃ t, i ≤ t ∧ t < n ∧ ¬ good t ∧ (∀ j, i ≤ j → j < t → good j) ∧ Ev (L i) (f t)) := by
  intro m
  induction m with
  | zero => intro i i0 hi; exact .inl ⟨fun j a b => by omega, by rw [show i = n by omega]; exact hend⟩
  | succ m ih =>
   intro i i0 hi
   by_cases c : good i
   ·rcases ih (i + 1) (by omega) (by omega) with ⟨h1, h2⟩ | ⟨t, h1, h2, h3, h4, h5⟩
    ·refine .inl ⟨fun j a b => ?_, hyes i _ i0 (by omega) c h2⟩
     by_cases d : j = i
     ·rw [d]; exact c
     ·exact h1 j (by omega) b
    ·refine .inr ⟨t, by omega, h2, h3, fun j a b => ?_, hyes i _ i0 (by omega) c h5⟩
     by_cases d : j = i
     ·rw [d]; exact c
     ·exact h4 j (by omega) b
   ·exact .inr ⟨i, by omega, by omega, c, fun j a b => by omega, hno i i0 (by omega) c⟩
 exact main n.toNat 0 (by omega) (by omega)
theorem a6c (L : Int → Nat → Option Bool) (n : Int) (n0 : 0 ≤ n) (good : Int → Prop) (e : Bool) (hend : Ev (L n) e)
  (hno : ∀ i, 0 ≤ i → i < n → ¬ good i → Ev (L i) false) (hyes : ∀ i r, 0 ≤ i → i < n → good i → Ev (L (i + 1)) r → Ev (L i) r) :
  ∃ b, Ev (L 0) b ∧ (b = true ↔ (∀ i, 0 ≤ i → i < n → good i) ∧ e = true) := by
 rcases a5h L n n0 good (fun _ => false) e hend hno hyes with ⟨h1, h2⟩ | ⟨i, h1, h2, h3, h4, h5⟩
 ·exact ⟨e, h2, fun h => ⟨h1, h⟩, fun h => h.2⟩
 ·exact ⟨false, h5, fun h => by simp at h, fun h => absurd (h.1 i h1 h2) h3⟩
theorem b0r (L : Int → Nat → Option Bool) (n : Int) (n0 : 0 ≤ n) (hit : Int → Prop) (hend : Ev (L n) false)
  (hyes : ∀ i, 0 ≤ i → i < n → hit i → Ev (L i) true) (hno : ∀ i r, 0 ≤ i → i < n → ¬ hit i → Ev (L (i + 1)) r → Ev (L i) r) :
  ∃ b, Ev (L 0) b ∧ (b = true ↔ ∃ i, 0 ≤ i ∧ i < n ∧ hit i) := by
 rcases a5h L n n0 (fun i => ¬ hit i) (fun _ => true) false hend (fun i a b c => hyes i a b (Classical.not_not.1 c)) hno with ⟨h1, h2⟩ | ⟨i, h1, h2, h3, h4, h5⟩
 ·exact ⟨false, h2, fun h => by simp at h, fun ⟨i, a, b, c⟩ => absurd c (h1 i a b)⟩
 ·exact ⟨true, h5, fun _ => ⟨i, h1, h2, Classical.not_not.1 h3⟩, fun _ => rfl⟩
theorem a7r (L : Int → Nat → Option Int) (n : Int) (n0 : 0 ≤ n) (hit : Int → Prop) (hend : Ev (L n) (-1))
  (hyes : ∀ i, 0 ≤ i → i < n → hit i → Ev (L i) i) (hno : ∀ i r, 0 ≤ i → i < n → ¬ hit i → Ev (L (i + 1)) r → Ev (L i) r) :
  ∃ r, Ev (L 0) r ∧ ((r = -1 ∧ ∀ i, 0 ≤ i → i < n → ¬ hit i) ∨ (0 ≤ r ∧ r < n ∧ hit r ∧ ∀ i, 0 ≤ i → i < r → ¬ hit i)) := by
 rcases a5h L n n0 (fun i => ¬ hit i) (fun i => i) (-1) hend (fun i a b c => hyes i a b (Classical.not_not.1 c)) hno with ⟨h1, h2⟩ | ⟨i, h1, h2, h3, h4, h5⟩
 ·exact ⟨-1, h2, .inl ⟨rfl, h1⟩⟩
 ·exact ⟨i, h5, .inr ⟨h1, h2, Classical.not_not.1 h3, h4⟩⟩
theorem a9a {r n : Int} {hit : Int → Prop} (h : (r = -1 ∧ ∀ i, 0 ≤ i → i < n → ¬ hit i) ∨ (0 ≤ r ∧ r < n ∧ hit r ∧ ∀ i, 0 ≤ i → i < r → ¬ hit i)) : decide (r ≥ 0) = true ↔ ∃ i, 0 ≤ i ∧ i < n ∧ hit i := by
 rw [decide_eq_true_eq]
 rcases h with ⟨rfl, h⟩ | ⟨h1, h2, h3, _⟩
 ·exact ⟨fun h => by omega, fun ⟨i, a, b, c⟩ => absurd c (h i a b)⟩
 ·exact ⟨fun _ => ⟨r, h1, h2, h3⟩, fun _ => h1⟩
theorem b8n {a b : Bool} {P : Prop} (h : a = true ↔ P) (h2 : b = true ↔ P) : a = b := by
 cases a <;> cases b <;> simp_all
def stP (a b : Int) : Prop := 0 ≤ a ∧ a < b ∧ b ≤ 36525
theorem b0s (a b : Int) : ∃ t, a5b.f a b = some t ∧ (t = true ↔ stP a b) := by
 unfold a5b.f stP
 by_cases c : 0 ≤ a
 ·rw [if_pos c]
  by_cases d : a < b
  ·rw [if_pos d]; exact ⟨_, rfl, by simp; omega⟩
  ·rw [if_neg d]; exact ⟨_, rfl, by simp; omega⟩
 ·rw [if_neg c]; exact ⟨_, rfl, by simp; omega⟩
theorem a7i (a b : Int) : ∃ t, a3c.f a b = some t ∧ (t = true ↔ stP a b) := by
 unfold a3c.f stP
 by_cases c : a ≥ 0
 ·rw [if_pos c]
  by_cases d : a < b
  ·rw [if_pos d]; exact ⟨_, rfl, by simp; omega⟩
  ·rw [if_neg d]; exact ⟨_, rfl, by simp; omega⟩
 ·rw [if_neg c]; exact ⟨_, rfl, by simp; omega⟩
def spG (l : List S56) (i : Int) : Prop := stP (a0f l i).f0 (a0f l i).f1 ∧ (0 < i → (a0f l (i - 1)).f1 < (a0f l i).f0)
def spV (l : List S56) : Prop := (∀ i : Int, 0 ≤ i → i < l.length → spG l i) ∧ l.length ≤ 1000
theorem a9j (l : List S56) (hl : (l.length : Int) ≤ 9223372036854775806) : ∃ b, Ev (fun k => a2c.f k l) b ∧ (b = true ↔ spV l) := by
 have H := a6c (fun i k => a2c.l0 k l (l.length : Int) i) l.length (by omega) (spG l) (decide ((l.length : Int) ≤ 1000))
  (evUp 0 fun k _ => by rw [a2c.l0, if_neg (by omega)])
  (fun i i0 i1 hg => by
   obtain ⟨t, e, ht⟩ := b0s (a0f l i).f0 (a0f l i).f1
   refine evUp 1 fun k hk => ?_
   obtain ⟨k, rfl⟩ : ∃ j, k = j + 1 := ⟨k - 1, by omega⟩
   rw [a2c.l0, if_pos (by omega), if_pos i0, if_pos (by omega), e, Option.bind_some]
   by_cases c : t = true
   ·rw [if_pos c]
    have hn : 0 < i ∧ ¬ (a0f l (i - 1)).f1 < (a0f l i).f0 := by
     by_cases p : 0 < i
     ·exact ⟨p, fun q => hg ⟨ht.1 c, fun _ => q⟩⟩
     ·exact absurd ⟨ht.1 c, fun q => absurd q p⟩ hg
    rw [if_pos hn.1, w64 (by omega) (by omega), if_pos (by omega), if_pos (by omega), a2c.j1, decide_eq_true (by omega), if_pos rfl]
   ·rw [if_neg c, a2c.j1, if_pos rfl])
  (fun i r i0 i1 hg ⟨K, hK⟩ => by
   obtain ⟨t, e, ht⟩ := b0s (a0f l i).f0 (a0f l i).f1
   dsimp only at hK
   refine evUp (K + 1) fun k hk => ?_
   obtain ⟨k, rfl⟩ : ∃ j, k = j + 1 := ⟨k - 1, by omega⟩
   rw [a2c.l0, if_pos (by omega), if_pos i0, if_pos (by omega), e, Option.bind_some, if_pos (ht.2 hg.1)]
   have go : a2c.j1 (k + 1) l (l.length : Int) i false = some r := by
    rw [a2c.j1, if_neg (by decide), w64 (by omega) (by omega)]
    exact hK k (by omega)
   by_cases p : i > 0
   ·have := hg.2 p
    rw [if_pos p, w64 (by omega) (by omega), if_pos (by omega), if_pos (by omega), decide_eq_false (by omega)]
    exact go
   ·rw [if_neg p]
    exact go)
 obtain ⟨b, h1, h2⟩ := H
 refine ⟨b, h1, h2.trans ?_⟩
 unfold spV
 rw [decide_eq_true_eq]
 exact and_congr_right fun _ => by omega
theorem b3i (l : List S56) (hl : (l.length : Int) ≤ 9223372036854775806) : ∃ b, Ev (fun k => a1c.f k l) b ∧ (b = true ↔ spV l) := by
 have H := a6c (fun i k => a1c.l0 k l i) l.length (by omega) (spG l) (decide ((l.length : Int) ≤ 1000))
  (evUp 0 fun k _ => by rw [a1c.l0, if_neg (by omega)])
  (fun i i0 i1 hg => by
   obtain ⟨t, e, ht⟩ := a7i (a0f l i).f0 (a0f l i).f1
   refine evUp 1 fun k hk => ?_
   obtain ⟨k, rfl⟩ : ∃ j, k = j + 1 := ⟨k - 1, by omega⟩
   rw [a1c.l0, if_pos (by omega), if_pos i0, e, Option.bind_some]
   by_cases c : t = true
   ·rw [if_pos c]
    have hn : 0 < i ∧ ¬ (a0f l (i - 1)).f1 < (a0f l i).f0 := by
     by_cases p : 0 < i
     ·exact ⟨p, fun q => hg ⟨ht.1 c, fun _ => q⟩⟩
     ·exact absurd ⟨ht.1 c, fun q => absurd q p⟩ hg
    rw [if_pos hn.1, w64 (by omega) (by omega), if_pos (by omega), if_pos (by omega), a1c.j1, decide_eq_true (by omega), if_pos rfl]
   ·rw [if_neg c, a1c.j1, if_pos rfl])
  (fun i r i0 i1 hg ⟨K, hK⟩ => by
   obtain ⟨t, e, ht⟩ := a7i (a0f l i).f0 (a0f l i).f1
   dsimp only at hK
   refine evUp (K + 1) fun k hk => ?_
   obtain ⟨k, rfl⟩ : ∃ j, k = j + 1 := ⟨k - 1, by omega⟩
   rw [a1c.l0, if_pos (by omega), if_pos i0, e, Option.bind_some, if_pos (ht.2 hg.1)]
   have go : a1c.j1 (k + 1) l i false = some r := by
    rw [a1c.j1, if_neg (by decide), w64 (by omega) (by omega)]
    exact hK k (by omega)
   by_cases p : i > 0
   ·have := hg.2 p
    rw [if_pos p, w64 (by omega) (by omega), if_pos (by omega), if_pos (by omega), decide_eq_false (by omega)]
    exact go
   ·rw [if_neg p]
    exact go)
 obtain ⟨b, h1, h2⟩ := H
 refine ⟨b, h1, h2.trans ?_⟩
 unfold spV
 rw [decide_eq_true_eq]
 exact and_congr_right fun _ => by omega
def riG (l : List Int) (lo hi i : Int) : Prop := lo ≤ rd l i ∧ rd l i ≤ hi ∧ (0 < i → rd l (i - 1) < rd l i)
def riP (l : List Int) (lo hi : Int) : Prop := ∀ i : Int, 0 ≤ i → i < l.length → riG l lo hi i
theorem a8q (l : List Int) (hl : (l.length : Int) ≤ 9223372036854775806) (lo hi : Int) : ∃ b, Ev (fun k => a1i.f k l lo hi) b ∧ (b = true ↔ riP l lo hi) := by
 have H := a6c (fun i k => a1i.l0 k l lo hi l (l.length : Int) i) l.length (by omega) (riG l lo hi) true
  (evUp 0 fun k _ => by rw [a1i.l0, if_neg (by omega)])
  (fun i i0 i1 hg => by
   refine evUp 1 fun k hk => ?_
   obtain ⟨k, rfl⟩ : ∃ j, k = j + 1 := ⟨k - 1, by omega⟩
   rw [a1i.l0, if_pos (by omega), if_pos i0, if_pos (by omega)]
   by_cases c : rd l i < lo
   ·rw [if_pos c, a1i.j1, if_pos rfl]
   ·rw [if_neg c]
    by_cases d : rd l i > hi
    ·rw [if_pos d, a1i.j1, if_pos rfl]
    ·rw [if_neg d]
     have hn : 0 < i ∧ ¬ rd l (i - 1) < rd l i := by
      by_cases p : 0 < i
      ·exact ⟨p, fun q => hg ⟨by omega, by omega, fun _ => q⟩⟩
      ·exact absurd ⟨by omega, by omega, fun q => absurd q p⟩ hg
     rw [if_pos hn.1, w64 (by omega) (by omega), if_pos (by omega), if_pos (by omega), a1i.j1, decide_eq_true (by omega), if_pos rfl])
  (fun i r i0 i1 hg ⟨K, hK⟩ => by
   dsimp only at hK
   refine evUp (K + 1) fun k hk => ?_
   obtain ⟨k, rfl⟩ : ∃ j, k = j + 1 := ⟨k - 1, by omega⟩
   have go : a1i.j1 (k + 1) l lo hi l (l.length : Int) i false = some r := by
    rw [a1i.j1, if_neg (by decide), w64 (by omega) (by omega)]
    exact hK k (by omega)
   have h1 := hg.1
   have h2 := hg.2.1
   rw [a1i.l0, if_pos (by omega), if_pos i0, if_pos (by omega), if_neg (by omega), if_neg (by omega)]
   by_cases p : i > 0
   ·have := hg.2.2 p
    rw [if_pos p, w64 (by omega) (by omega), if_pos (by omega), if_pos (by omega), decide_eq_false (by omega)]
    exact go
   ·rw [if_neg p]
    exact go)
 obtain ⟨b, h1, h2⟩ := H
 exact ⟨b, h1, h2.trans ⟨fun h => h.1, fun h => ⟨h, rfl⟩⟩⟩
theorem a8r (l : List Int) (hl : (l.length : Int) ≤ 9223372036854775806) (lo hi : Int) : ∃ b, Ev (fun k => a0n.f k l lo hi) b ∧ (b = true ↔ riP l lo hi) := by
 have H := a6c (fun i k => a0n.l0 k l lo hi i) l.length (by omega) (riG l lo hi) true
  (evUp 0 fun k _ => by rw [a0n.l0, if_neg (by omega)])
  (fun i i0 i1 hg => by
   refine evUp 1 fun k hk => ?_
   obtain ⟨k, rfl⟩ : ∃ j, k = j + 1 := ⟨k - 1, by omega⟩
   rw [a0n.l0, if_pos (by omega), if_pos i0]
   by_cases c : rd l i < lo
   ·rw [if_pos c, a0n.j1, if_pos rfl]
   ·rw [if_neg c]
    by_cases d : rd l i > hi
    ·rw [if_pos d, a0n.j1, if_pos rfl]
    ·rw [if_neg d]
     have hn : 0 < i ∧ ¬ rd l (i - 1) < rd l i := by
      by_cases p : 0 < i
      ·exact ⟨p, fun q => hg ⟨by omega, by omega, fun _ => q⟩⟩
      ·exact absurd ⟨by omega, by omega, fun q => absurd q p⟩ hg
     rw [if_pos hn.1, w64 (by omega) (by omega), if_pos (by omega), if_pos (by omega), a0n.j1, decide_eq_true (by omega), if_pos rfl])
  (fun i r i0 i1 hg ⟨K, hK⟩ => by
   dsimp only at hK
   refine evUp (K + 1) fun k hk => ?_
   obtain ⟨k, rfl⟩ : ∃ j, k = j + 1 := ⟨k - 1, by omega⟩
   have go : a0n.j1 (k + 1) l lo hi i false = some r := by
    rw [a0n.j1, if_neg (by decide), w64 (by omega) (by omega)]
    exact hK k (by omega)
   have h1 := hg.1
   have h2 := hg.2.1
   rw [a0n.l0, if_pos (by omega), if_pos i0, if_neg (by omega), if_neg (by omega)]
   by_cases p : i > 0
   ·have := hg.2.2 p
    rw [if_pos p, w64 (by omega) (by omega), if_pos (by omega), if_pos (by omega), decide_eq_false (by omega)]
    exact go
   ·rw [if_neg p]
    exact go)
 obtain ⟨b, h1, h2⟩ := H
 exact ⟨b, h1, h2.trans ⟨fun h => h.1, fun h => ⟨h, rfl⟩⟩⟩
def inP (l : List Int) (a : Int) : Prop := ∃ i : Int, 0 ≤ i ∧ i < l.length ∧ rd l i = a
theorem a8k (l : List Int) (hl : (l.length : Int) ≤ 9223372036854775806) (a : Int) : ∃ b, Ev (fun k => a2r.f k l a) b ∧ (b = true ↔ inP l a) := by
 obtain ⟨r, ⟨K, hK⟩, hr⟩ := a7r (fun i k => a2i.l0 k l a (l.length : Int) i) l.length (by omega) (fun i => rd l i = a)
  (evUp 0 fun k _ => by rw [a2i.l0, if_neg (by omega)])
  (fun i i0 i1 h => evUp 0 fun k _ => by rw [a2i.l0, if_pos (by omega), if_pos i0, if_pos (by omega), if_pos h.symm])
  (fun i r i0 i1 h ⟨K, hK⟩ => evUp K fun k hk => by rw [a2i.l0, if_pos (by omega), if_pos i0, if_pos (by omega), if_neg (fun e => h e.symm), w64 (by omega) (by omega)]; exact hK k hk)
 refine ⟨decide (r ≥ 0), ⟨K, fun k hk => ?_⟩, a9a hr⟩
 dsimp only at hK ⊢
 unfold a2r.f a2i.f
 rw [hK k hk, Option.bind_some]
theorem b5d (l : List Int) (hl : (l.length : Int) ≤ 9223372036854775806) (a : Int) : ∃ b, Ev (fun k => a1w.f k l a) b ∧ (b = true ↔ inP l a) :=
 b0r (fun i k => a1w.l0 k l a i) l.length (by omega) (fun i => rd l i = a)
  (evUp 0 fun k _ => by rw [a1w.l0, if_neg (by omega)])
  (fun i i0 i1 h => evUp 0 fun k _ => by rw [a1w.l0, if_pos (by omega), if_pos i0, if_pos h])
  (fun i r i0 i1 h ⟨K, hK⟩ => evUp K fun k hk => by rw [a1w.l0, if_pos (by omega), if_pos i0, if_neg h, w64 (by omega) (by omega)]; exact hK k hk)
def comP (a b : List Int) : Prop := ∃ i : Int, 0 ≤ i ∧ i < a.length ∧ inP b (rd a i)
theorem b9z (a b : List Int) (ha : (a.length : Int) ≤ 9223372036854775806) (hb : (b.length : Int) ≤ 9223372036854775806) : ∃ t, Ev (fun k => a4j.f k a b) t ∧ (t = true ↔ comP a b) := by
 obtain ⟨r, ⟨K, hK⟩, hr⟩ := a7r (fun i k => a0l.l0 k a (a.length : Int) i b) a.length (by omega) (fun i => inP b (rd a i))
  (evUp 0 fun k _ => by rw [a0l.l0, if_neg (by omega)])
  (fun i i0 i1 h => by
   obtain ⟨t, ⟨K, hK⟩, ht⟩ := a8k b hb (rd a i)
   dsimp only at hK
   refine evUp K fun k hk => ?_
   rw [a0l.l0, if_pos (by omega), if_pos i0, if_pos (by omega), a3h.f, hK k hk, Option.bind_some, Option.bind_some, if_pos (ht.2 h)])
  (fun i r i0 i1 h ⟨K2, hK2⟩ => by
   obtain ⟨t, ⟨K, hK⟩, ht⟩ := a8k b hb (rd a i)
   dsimp only at hK hK2
   refine evUp (K + K2) fun k hk => ?_
   rw [a0l.l0, if_pos (by omega), if_pos i0, if_pos (by omega), a3h.f, hK k (by omega), Option.bind_some, Option.bind_some, if_neg (fun e => h (ht.1 e)), w64 (by omega) (by omega)]
   exact hK2 k (by omega))
 refine ⟨decide (r ≥ 0), ⟨K, fun k hk => ?_⟩, a9a hr⟩
 dsimp only at hK ⊢
 unfold a4j.f a2p.f a0l.f
 rw [hK k hk, Option.bind_some, Option.bind_some]
def wayP (a b : S51) : Prop := a.f1 = b.f1 ∨ comP a.f4 b.f4
theorem c3z (a b : S51) (ha : (a.f4.length : Int) ≤ 9223372036854775806) (hb : (b.f4.length : Int) ≤ 9223372036854775806) : ∃ t, Ev (fun k => a5x.f k a.f0 a.f1 a.f2 a.f3 a.f4 b.f0 b.f1 b.f2 b.f3 b.f4) t ∧ (t = true ↔ wayP a b) := by
 unfold a5x.f wayP
 by_cases c : a.f1 = b.f1
 ·exact ⟨true, a8j fun k => by rw [if_pos c], fun _ => .inl c, fun _ => rfl⟩
 ·obtain ⟨t, ⟨K, hK⟩, ht⟩ := b9z a.f4 b.f4 ha hb
  refine ⟨t, ⟨K, fun k hk => ?_⟩, ht.trans ⟨.inr, fun h => h.resolve_left c⟩⟩
  dsimp only at hK ⊢
  rw [if_neg c, hK k hk, Option.bind_some]
theorem b4r (a b : S51) (ha : (a.f4.length : Int) ≤ 9223372036854775806) (hb : (b.f4.length : Int) ≤ 9223372036854775806) : ∃ t, Ev (fun k => a2l.f k a.f0 a.f1 a.f2 a.f3 a.f4 b.f0 b.f1 b.f2 b.f3 b.f4) t ∧ (t = true ↔ wayP a b) := by
 unfold a2l.f wayP
 by_cases c : a.f1 = b.f1
 ·exact ⟨true, a8j fun k => by rw [if_pos c], fun _ => .inl c, fun _ => rfl⟩
 ·obtain ⟨t, ⟨K, hK⟩, ht⟩ := b0r (fun i k => a2l.l0 k i a.f0 a.f1 a.f2 a.f3 a.f4 b.f0 b.f1 b.f2 b.f3 b.f4) a.f4.length (by omega) (fun i => inP b.f4 (rd a.f4 i))
   (evUp 0 fun k _ => by rw [a2l.l0, if_neg (by omega)])
   (fun i i0 i1 h => by
    obtain ⟨t, ⟨K, hK⟩, ht⟩ := b5d b.f4 hb (rd a.f4 i)
    dsimp only at hK
    refine evUp K fun k hk => ?_
    rw [a2l.l0, if_pos (by omega), if_pos i0, hK k hk, Option.bind_some, if_pos (ht.2 h)])
   (fun i r i0 i1 h ⟨K2, hK2⟩ => by
    obtain ⟨t, ⟨K, hK⟩, ht⟩ := b5d b.f4 hb (rd a.f4 i)
    dsimp only at hK hK2
    refine evUp (K + K2) fun k hk => ?_
    rw [a2l.l0, if_pos (by omega), if_pos i0, hK k (by omega), Option.bind_some, if_neg (fun e => h (ht.1 e)), w64 (by omega) (by omega)]
    exact hK2 k (by omega))
  refine ⟨t, ⟨K, fun k hk => ?_⟩, ht.trans ⟨.inr, fun h => h.resolve_left c⟩⟩
  dsimp only at hK ⊢
  rw [if_neg c]
  exact hK k hk
def maP (j : List S51) (l : List S42) : Prop := l.length = j.length ∧ ∀ i : Int, 0 ≤ i → i < j.length → (a0b l i).f0 = (a0a j i).f0
theorem b3j (j : List S51) (l : List S42) (hj : (j.length : Int) ≤ 9223372036854775806) : ∃ t, Ev (fun k => a3n.f k j l) t ∧ (t = true ↔ maP j l) := by
 unfold a3n.f a1l.f maP
 by_cases c : (j.length : Int) = (l.length : Int)
 ·obtain ⟨t, ⟨K, hK⟩, ht⟩ := a6c (fun i k => a1l.l0 k l j (j.length : Int) i) j.length (by omega) (fun i => (a0b l i).f0 = (a0a j i).f0) true
   (evUp 0 fun k _ => by rw [a1l.l0, if_neg (by omega)])
   (fun i i0 i1 h => evUp 0 fun k _ => by rw [a1l.l0, if_pos (by omega), if_pos i0, if_pos (by omega), if_pos (by omega), a5v.f, Option.bind_some, if_neg (by rw [beq_iff_eq]; exact fun e => h e.symm)])
   (fun i r i0 i1 h ⟨K, hK⟩ => evUp K fun k hk => by rw [a1l.l0, if_pos (by omega), if_pos i0, if_pos (by omega), if_pos (by omega), a5v.f, Option.bind_some, if_pos (by rw [beq_iff_eq]; exact h.symm), w64 (by omega) (by omega)]; exact hK k hk)
  refine ⟨t, ⟨K, fun k hk => ?_⟩, ht.trans ⟨fun h => ⟨by omega, h.1⟩, fun h => ⟨h.2, rfl⟩⟩⟩
  dsimp only at hK ⊢
  rw [if_pos c, hK k hk, Option.bind_some]
 ·exact ⟨false, a8j fun k => by rw [if_neg c, Option.bind_some], fun h => by simp at h, fun h => absurd h.1 (by omega)⟩
theorem b5z (j : List S51) (l : List S42) (hj : (j.length : Int) ≤ 9223372036854775806) : ∃ t, Ev (fun k => a1y.f k j l) t ∧ (t = true ↔ maP j l) := by
 unfold a1y.f maP
 by_cases c : (l.length : Int) = (j.length : Int)
 ·obtain ⟨t, ⟨K, hK⟩, ht⟩ := a6c (fun i k => a1y.l0 k j l i) l.length (by omega) (fun i => (a0b l i).f0 = (a0a j i).f0) true
   (evUp 0 fun k _ => by rw [a1y.l0, if_neg (by omega)])
   (fun i i0 i1 h => evUp 0 fun k _ => by rw [a1y.l0, if_pos (by omega), if_pos i0, if_pos (by omega), if_neg h])
   (fun i r i0 i1 h ⟨K, hK⟩ => evUp K fun k hk => by rw [a1y.l0, if_pos (by omega), if_pos i0, if_pos (by omega), if_pos h, w64 (by omega) (by omega)]; exact hK k hk)
  refine ⟨t, ⟨K, fun k hk => ?_⟩, ht.trans ⟨fun h => ⟨by omega, fun i i0 i1 => h.1 i i0 (by omega)⟩, fun h => ⟨fun i i0 i1 => h.2 i i0 (by omega), rfl⟩⟩⟩
  dsimp only at hK ⊢
  rw [if_pos c]
  exact hK k hk
 ·exact ⟨false, a8j fun k => by rw [if_neg c], fun h => by simp at h, fun h => absurd h.1 (by omega)⟩
def feP (j : List S51) (t : List S58) : Prop := j.length ≤ 12 ∧ t.length ≤ 25 ∧ (∀ i : Int, 0 ≤ i → i < j.length → (a0a j i).f3.length ≤ 20 ∧ (a0a j i).f4.length ≤ 20) ∧ ∀ i : Int, 0 ≤ i → i < t.length → (a1x t i).f1.length ≤ 20
theorem c4a (j : List S51) (t : List S58) : ∃ b, Ev (fun k => a0r.f k j t) b ∧ (b = true ↔ feP j t) := by
 unfold a0r.f feP
 by_cases c : (j.length : Int) > 12
 ·exact ⟨false, evUp 0 fun k _ => by rw [if_pos c, a0r.j0, if_pos rfl], fun h => by simp at h, fun h => by omega⟩
 by_cases d : (t.length : Int) > 25
 ·exact ⟨false, evUp 0 fun k _ => by rw [if_neg c, decide_eq_true d, a0r.j0, if_pos rfl], fun h => by simp at h, fun h => by omega⟩
 obtain ⟨b1, hb1, h1⟩ := a6c (fun i k => a0r.l1 k t i) t.length (by omega) (fun i => (a1x t i).f1.length ≤ 20) true
  (evUp 0 fun k _ => by rw [a0r.l1, if_neg (by omega)])
  (fun i i0 i1 h => evUp 0 fun k _ => by rw [a0r.l1, if_pos (by omega), if_pos i0, if_pos (by omega)])
  (fun i r i0 i1 h ⟨K, hK⟩ => evUp K fun k hk => by rw [a0r.l1, if_pos (by omega), if_pos i0, if_neg (by omega), w64 (by omega) (by omega)]; exact hK k hk)
 obtain ⟨b, ⟨K, hK⟩, h2⟩ := a6c (fun i k => a0r.l0 k j t i) j.length (by omega) (fun i => (a0a j i).f3.length ≤ 20 ∧ (a0a j i).f4.length ≤ 20) b1
  (by
   obtain ⟨K, hK⟩ := hb1
   exact evUp K fun k hk => by rw [a0r.l0, if_neg (by omega)]; exact hK k hk)
  (fun i i0 i1 h => evUp 0 fun k _ => by
   rw [a0r.l0, if_pos (by omega), if_pos i0]
   by_cases e : (((a0a j i).f3).length : Int) > 20
   ·rw [if_pos e]
   ·rw [if_neg e, if_pos (by omega)])
  (fun i r i0 i1 h ⟨K, hK⟩ => evUp K fun k hk => by rw [a0r.l0, if_pos (by omega), if_pos i0, if_neg (by omega), if_neg (by omega), w64 (by omega) (by omega)]; exact hK k hk)
 refine ⟨b, evUp K fun k hk => ?_, ?_⟩
 ·dsimp only at hK
  rw [if_neg c, decide_eq_false d, a0r.j0, if_neg (by decide)]
  exact hK k hk
 ·rw [h2, h1]
  exact ⟨fun h => ⟨by omega, by omega, h.1, h.2.1⟩, fun h => ⟨h.2.2.1, h.2.2.2, rfl⟩⟩
theorem c1t (l : List S42) {i : Nat} (h : i < l.length) : a0b l (i : Int) = l[i] := by
 unfold a0b
 rw [Int.toNat_natCast, List.getD_eq_getElem?_getD, List.getElem?_eq_getElem h]
 rfl
theorem b2b (l : List S56) {i : Nat} (h : i < l.length) : a0f l (i : Int) = l[i] := by
 unfold a0f
 rw [Int.toNat_natCast, List.getD_eq_getElem?_getD, List.getElem?_eq_getElem h]
 rfl
theorem c1u {a b : List S42} (hl : a.length = b.length) (h : ∀ i : Int, 0 ≤ i → i < a.length → a0b a i = a0b b i) : a = b := by
 refine List.ext_getElem hl fun i h1 h2 => ?_
 rw [← c1t a h1, ← c1t b h2]
 exact h i (by omega) (by omega)
theorem c1v {a b : List S56} (hl : a.length = b.length) (h : ∀ i : Int, 0 ≤ i → i < a.length → a0f a i = a0f b i) : a = b := by
 refine List.ext_getElem hl fun i h1 h2 => ?_
 rw [← b2b a h1, ← b2b b h2]
 exact h i (by omega) (by omega)
theorem b4s (a b : List S42) (ha : (a.length : Int) ≤ 9223372036854775806) : ∃ t, Ev (fun k => a1a.f k a b) t ∧ (t = true ↔ a = b) := by
 unfold a1a.f
 by_cases c : (a.length : Int) = (b.length : Int)
 ·obtain ⟨t, ⟨K, hK⟩, ht⟩ := a6c (fun i k => a1a.l0 k a b i) a.length (by omega) (fun i => a0b a i = a0b b i) true
   (evUp 0 fun k _ => by rw [a1a.l0, if_neg (by omega)])
   (fun i i0 i1 h => evUp 0 fun k _ => by
    rw [a1a.l0, if_pos (by omega), if_pos i0, if_pos (by omega), if_pos]
    revert h
    generalize a0b a i = x
    generalize a0b b i = y
    intro h
    obtain ⟨x0, x1, x2⟩ := x
    obtain ⟨y0, y1, y2⟩ := y
    simp only [S42.mk.injEq] at h
    simp only [Bool.or_eq_true, Bool.not_eq_true', beq_eq_false_iff_ne]
    by_cases e0 : x0 = y0
    ·by_cases e1 : x1 = y1
     ·exact .inr (.inr fun e2 => h ⟨e0, e1, e2⟩)
     ·exact .inr (.inl e1)
    ·exact .inl e0)
   (fun i r i0 i1 h ⟨K, hK⟩ => evUp K fun k hk => by
    rw [a1a.l0, if_pos (by omega), if_pos i0, if_pos (by omega), if_neg (by rw [h]; simp), w64 (by omega) (by omega)]
    exact hK k hk)
  refine ⟨t, ⟨K, fun k hk => ?_⟩, ht.trans ⟨fun h => c1u (by omega) h.1, fun h => ⟨fun i _ _ => by rw [h], rfl⟩⟩⟩
  dsimp only at hK ⊢
  rw [if_pos c]
  exact hK k hk
 ·exact ⟨false, a8j fun k => by rw [if_neg c], fun h => by simp at h, fun h => absurd (by rw [h]) c⟩
theorem c0c (a b : List S56) (ha : (a.length : Int) ≤ 9223372036854775806) : ∃ t, Ev (fun k => a1s.f k a b) t ∧ (t = true ↔ a = b) := by
 unfold a1s.f
 by_cases c : (a.length : Int) = (b.length : Int)
 ·obtain ⟨t, ⟨K, hK⟩, ht⟩ := a6c (fun i k => a1s.l0 k a b i) a.length (by omega) (fun i => a0f a i = a0f b i) true
   (evUp 0 fun k _ => by rw [a1s.l0, if_neg (by omega)])
   (fun i i0 i1 h => evUp 0 fun k _ => by
    rw [a1s.l0, if_pos (by omega), if_pos i0, if_pos (by omega), if_pos]
    revert h
    generalize a0f a i = x
    generalize a0f b i = y
    intro h
    obtain ⟨x0, x1⟩ := x
    obtain ⟨y0, y1⟩ := y
    simp only [S56.mk.injEq] at h
    simp only [Bool.or_eq_true, Bool.not_eq_true', beq_eq_false_iff_ne]
    by_cases e0 : x0 = y0
    ·exact .inr fun e1 => h ⟨e0, e1⟩
    ·exact .inl e0)
   (fun i r i0 i1 h ⟨K, hK⟩ => evUp K fun k hk => by
    rw [a1s.l0, if_pos (by omega), if_pos i0, if_pos (by omega), if_neg (by rw [h]; simp), w64 (by omega) (by omega)]
    exact hK k hk)
  refine ⟨t, ⟨K, fun k hk => ?_⟩, ht.trans ⟨fun h => c1v (by omega) h.1, fun h => ⟨fun i _ _ => by rw [h], rfl⟩⟩⟩
  dsimp only at hK ⊢
  rw [if_pos c]
  exact hK k hk
 ·exact ⟨false, a8j fun k => by rw [if_neg c], fun h => by simp at h, fun h => absurd (by rw [h]) c⟩
def suP (l : List S56) (a b : Int) : Prop := ∃ i : Int, 0 ≤ i ∧ i < l.length ∧ (a0f l i).f0 ≤ a ∧ b ≤ (a0f l i).f1
theorem b2q (l : List S56) (hl : (l.length : Int) ≤ 9223372036854775806) (a b : Int) : ∃ t, Ev (fun k => a1r.f k l a b) t ∧ (t = true ↔ suP l a b) :=
 b0r (fun i k => a1r.l0 k l a b i) l.length (by omega) (fun i => (a0f l i).f0 ≤ a ∧ b ≤ (a0f l i).f1)
  (evUp 0 fun k _ => by rw [a1r.l0, if_neg (by omega)])
  (fun i i0 i1 h => evUp 0 fun k _ => by rw [a1r.l0, if_pos (by omega), if_pos i0, if_pos h.1, if_pos h.2])
  (fun i r i0 i1 h ⟨K, hK⟩ => evUp K fun k hk => by
   rw [a1r.l0, if_pos (by omega), if_pos i0, w64 (by omega) (by omega)]
   by_cases c : (a0f l i).f0 ≤ a
   ·rw [if_pos c, if_neg (fun d => h ⟨c, d⟩)]; exact hK k hk
   ·rw [if_neg c]; exact hK k hk)
theorem b1a (l : List S56) (hl : (l.length : Int) ≤ 9223372036854775806) (c a b : Int) : ∃ t, Ev (fun k => a2z.f k l c a b) t ∧ (t = true ↔ suP l a b) := by
 obtain ⟨r, ⟨K, hK⟩, hr⟩ := a7r (fun i k => a1q.l0 k l (l.length : Int) i c a b) l.length (by omega) (fun i => (a0f l i).f0 ≤ a ∧ b ≤ (a0f l i).f1)
  (evUp 0 fun k _ => by rw [a1q.l0, if_neg (by omega)])
  (fun i i0 i1 h => evUp 0 fun k _ => by rw [a1q.l0, if_pos (by omega), if_pos i0, if_pos (by omega), a5c.f, if_pos h.1, Option.bind_some, if_pos (decide_eq_true h.2)])
  (fun i r i0 i1 h ⟨K, hK⟩ => evUp K fun k hk => by
   rw [a1q.l0, if_pos (by omega), if_pos i0, if_pos (by omega), a5c.f, w64 (by omega) (by omega)]
   by_cases e : (a0f l i).f0 ≤ a
   ·rw [if_pos e, Option.bind_some, if_neg (by rw [decide_eq_true_eq]; exact fun d => h ⟨e, d⟩)]; exact hK k hk
   ·rw [if_neg e, Option.bind_some, if_neg (by decide)]; exact hK k hk)
 refine ⟨decide (r ≥ 0), ⟨K, fun k hk => ?_⟩, a9a hr⟩
 dsimp only at hK ⊢
 unfold a2z.f a1q.f
 rw [hK k hk, Option.bind_some]
theorem b4d (t : List S58) (ht : (t.length : Int) ≤ 9223372036854775806) (a : Int) : ∃ l b, Ev (fun k => a1o.f k t a) (l, b) ∧ ((b = false ∧ l = [] ∧ ∀ i : Int, 0 ≤ i → i < t.length → (a1x t i).f0 ≠ a) ∨
  (b = true ∧ ∃ i : Int, 0 ≤ i ∧ i < t.length ∧ (a1x t i).f0 = a ∧ l = (a1x t i).f1 ∧ ∀ j : Int, 0 ≤ j → j < i → (a1x t j).f0 ≠ a)) := by
 rcases a5h (fun i k => a1o.l0 k t a i) t.length (by omega) (fun i => (a1x t i).f0 ≠ a) (fun i => ((a1x t i).f1, true)) (([] : List S56), false)
  (evUp 0 fun k _ => by rw [a1o.l0, if_neg (by omega)])
  (fun i i0 i1 h => evUp 0 fun k _ => by rw [a1o.l0, if_pos (by omega), if_pos i0, if_pos (Classical.not_not.1 h)])
  (fun i r i0 i1 h ⟨K, hK⟩ => evUp K fun k hk => by rw [a1o.l0, if_pos (by omega), if_pos i0, if_neg h, w64 (by omega) (by omega)]; exact hK k hk) with ⟨h1, h2⟩ | ⟨i, h1, h2, h3, h4, h5⟩
 ·exact ⟨_, _, h2, .inl ⟨rfl, rfl, h1⟩⟩
 ·exact ⟨_, _, h5, .inr ⟨rfl, i, h1, h2, Classical.not_not.1 h3, rfl, h4⟩⟩
theorem a6w (j : List S51) (n : Int) (n0 : 0 ≤ n) (n1 : n ≤ j.length) (hj : (j.length : Int) ≤ 9223372036854775806) (id : Int) : ∃ r, Ev (fun k => a1f.f k j n id) r ∧
  ((r = -1 ∧ ∀ i : Int, 0 ≤ i → i < n → (a0a j i).f0 ≠ id) ∨ (0 ≤ r ∧ r < n ∧ (a0a j r).f0 = id ∧ ∀ i : Int, 0 ≤ i → i < r → (a0a j i).f0 ≠ id)) :=
 a7r (fun i k => a1f.l0 k j n id i) n n0 (fun i => (a0a j i).f0 = id)
  (evUp 0 fun k _ => by rw [a1f.l0, if_neg (by omega)])
  (fun i i0 i1 h => evUp 0 fun k _ => by rw [a1f.l0, if_pos (by omega), if_pos i0, if_pos (by omega), if_pos h])
  (fun i r i0 i1 h ⟨K, hK⟩ => evUp K fun k hk => by rw [a1f.l0, if_pos (by omega), if_pos i0, if_pos (by omega), if_neg h, w64 (by omega) (by omega)]; exact hK k hk)
end Go.Proofs.Ytheibjkjmkanoaa.Wk
