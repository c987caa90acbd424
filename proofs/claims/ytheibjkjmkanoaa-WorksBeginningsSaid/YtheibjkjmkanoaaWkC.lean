/- Words that the kit's print.sh printed, in a copy without what is not used. Conditions: as_ each theorem states. -/
import Derived.Test.YtheibjkjmkanoaaGMap
import Derived.Test.YtheibjkjmkanoaaPx0
import Derived.Test.YtheibjkjmkanoaaPx5
import Derived.Test.YtheibjkjmkanoaaPx7
import Derived.Test.YtheibjkjmkanoaaPx13
import Derived.Test.YtheibjkjmkanoaaPx23
import Derived.Test.YtheibjkjmkanoaaPx26
import Derived.Test.YtheibjkjmkanoaaPx28
import Derived.Test.YtheibjkjmkanoaaPx20
import Derived.Test.YtheibjkjmkanoaaPx6
import Derived.Test.YtheibjkjmkanoaaGOpen
import Derived.Test.YtheibjkjmkanoaaPx10
import Derived.Test.YtheibjkjmkanoaaPx11
import Derived.Test.YtheibjkjmkanoaaPx8
import Derived.Test.YtheibjkjmkanoaaPx9
namespace Go.Proofs.Ytheibjkjmkanoaa.Wk
open Go.RowKit Go.Proofs.YtheibjkjmkanoaaW.PrintWords Go.Proofs.YtheibjkjmkanoaaW.PrintMore Go.Proofs.Ytheibjkjmkanoaa.Given Go.Proofs.Ytheibjkjmkanoaa.Px
set_option linter.unusedVariables false
set_option linter.unusedSimpArgs false
theorem w64 {x : Int} (h : -9223372036854775808 ≤ x) (h2 : x ≤ 9223372036854775807) : wrap64 x = x := by unfold wrap64; omega
theorem evUp {α : Type} {g : Nat → Option α} {r : α} (K : Nat) (h : ∀ k, K ≤ k → g (k + 1) = some r) : Ev g r :=
 ⟨K + 1, fun k hk => by obtain ⟨k, rfl⟩ : ∃ j, k = j + 1 := ⟨k - 1, by omega⟩; exact h k (by omega)⟩
theorem a8z {α : Type} {g : Nat → Option α} {r : α} (h : ∀ k, g k = some r) : Ev g r := ⟨0, fun k _ => h k⟩
theorem a5u {α : Type} (L : Int → Nat → Option α) (n : Int) (n0 : 0 ≤ n) (good : Int → Prop) (f : Int → α) (e : α) (hend : Ev (L n) e)
  (hno : ∀ i, 0 ≤ i → i < n → ¬ good i → Ev (L i) (f i)) (hyes : ∀ i r, 0 ≤ i → i < n → good i → Ev (L (i + 1)) r → Ev (L i) r) :
  ((∀ i, 0 ≤ i → i < n → good i) ∧ Ev (L 0) e) ∨ (∃ i, 0 ≤ i ∧ i < n ∧ ¬ good i ∧ (∀ j, 0 ≤ j → j < i → good j) ∧ Ev (L 0) (f i)) := by
 have main : ∀ (m : Nat) (i : Int), 0 ≤ i → i + m = n → ((∀ j, i ≤ j → j < n → good j) ∧ Ev (L i) e) ∨ (∃ t, i ≤ t ∧ t < n ∧ ¬ good t ∧ (∀ j, i ≤ j → j < t → good j) ∧ Ev (L i) (f t)) := by
  intro m
  induction m with
  | zero => intro i i0 hi; exact .inl ⟨fun j a b => by omega, by rw [show i = n by omega]; exact hend⟩
  | succ m ih =>
   intro i i0 hi
   by_cases c : good i
   ·rcases ih (i + 1) (by omega) (by omega) with ⟨h1, h2⟩ | ⟨t, h1, h2, h3, h4, h5⟩
    ·refine .inl ⟨fun j a b => ?_, hyes i _ i0 (by omega) c h2⟩
     by_cases d : j = i
     ·rw [d]; exact c
     ·exact h1 j (by omega) b
    ·refine .inr ⟨t, by omega, h2, h3, fun j a b => ?_, hyes i _ i0 (by omega) c h5⟩
     by_cases d : j = i
     ·rw [d]; exact c
     ·exact h4 j (by omega) b
   ·exact .inr ⟨i, by omega, by omega, c, fun j a b => by omega, hno i i0 (by omega) c⟩
 exact main n.toNat 0 (by omega) (by omega)
theorem a6k (L : Int → Nat → Option Bool) (n : Int) (n0 : 0 ≤ n) (good : Int → Prop) (e : Bool) (hend : Ev (L n) e)
  (hno : ∀ i, 0 ≤ i → i < n → ¬ good i → Ev (L i) false) (hyes : ∀ i r, 0 ≤ i → i < n → good i → Ev (L (i + 1)) r → Ev (L i) r) :
  ∃ b, Ev (L 0) b ∧ (b = true ↔ (∀ i, 0 ≤ i → i < n → good i) ∧ e = true) := by
 rcases a5u L n n0 good (fun _ => false) e hend hno hyes with ⟨h1, h2⟩ | ⟨i, h1, h2, h3, h4, h5⟩
 ·exact ⟨e, h2, fun h => ⟨h1, h⟩, fun h => h.2⟩
 ·exact ⟨false, h5, fun h => by simp at h, fun h => absurd (h.1 i h1 h2) h3⟩
theorem b0w (L : Int → Nat → Option Bool) (n : Int) (n0 : 0 ≤ n) (hit : Int → Prop) (hend : Ev (L n) false)
  (hyes : ∀ i, 0 ≤ i → i < n → hit i → Ev (L i) true) (hno : ∀ i r, 0 ≤ i → i < n → ¬ hit i → Ev (L (i + 1)) r → Ev (L i) r) :
  ∃ b, Ev (L 0) b ∧ (b = true ↔ ∃ i, 0 ≤ i ∧ i < n ∧ hit i) := by
 rcases a5u L n n0 (fun i => ¬ hit i) (fun _ => true) false hend (fun i a b c => hyes i a b (Classical.not_not.1 c)) hno with ⟨h1, h2⟩ | ⟨i, h1, h2, h3, h4, h5⟩
 ·exact ⟨false, h2, fun h => by simp at h, fun ⟨i, a, b, c⟩ => absurd c (h1 i a b)⟩
 ·exact ⟨true, h5, fun _ => ⟨i, h1, h2, Classical.not_not.1 h3⟩, fun _ => rfl⟩
theorem a7t (L : Int → Nat → Option Int) (n : Int) (n0 : 0 ≤ n) (hit : Int → Prop) (hend : Ev (L n) (-1))
  (hyes : ∀ i, 0 ≤ i → i < n → hit i → Ev (L i) i) (hno : ∀ i r, 0 ≤ i → i < n → ¬ hit i → Ev (L (i + 1)) r → Ev (L i) r) :
  ∃ r, Ev (L 0) r ∧ ((r = -1 ∧ ∀ i, 0 ≤ i → i < n → ¬ hit i) ∨ (0 ≤ r ∧ r < n ∧ hit r ∧ ∀ i, 0 ≤ i → i < r → ¬ hit i)) := by
 rcases a5u L n n0 (fun i => ¬ hit i) (fun i => i) (-1) hend (fun i a b c => hyes i a b (Classical.not_not.1 c)) hno with ⟨h1, h2⟩ | ⟨i, h1, h2, h3, h4, h5⟩
 ·exact ⟨-1, h2, .inl ⟨rfl, h1⟩⟩
 ·exact ⟨i, h5, .inr ⟨h1, h2, Classical.not_not.1 h3, h4⟩⟩
theorem a9c {r n : Int} {hit : Int → Prop} (h : (r = -1 ∧ ∀ i, 0 ≤ i → i < n → ¬ hit i) ∨ (0 ≤ r ∧ r < n ∧ hit r ∧ ∀ i, 0 ≤ i → i < r → ¬ hit i)) : decide (r ≥ 0) = true ↔ ∃ i, 0 ≤ i ∧ i < n ∧ hit i := by
 rw [decide_eq_true_eq]
 rcases h with ⟨rfl, h⟩ | ⟨h1, h2, h3, _⟩
 ·exact ⟨fun h => by omega, fun ⟨i, a, b, c⟩ => absurd c (h i a b)⟩
 ·exact ⟨fun _ => ⟨r, h1, h2, h3⟩, fun _ => h1⟩
def stP (a b : Int) : Prop := 0 ≤ a ∧ a < b ∧ b ≤ 36525
theorem b0x (a b : Int) : ∃ t, a5h.f a b = some t ∧ (t = true ↔ stP a b) := by
 unfold a5h.f stP
 by_cases c : 0 ≤ a
 ·rw [if_pos c]
  by_cases d : a < b
  ·rw [if_pos d]; exact ⟨_, rfl, by simp; omega⟩
  ·rw [if_neg d]; exact ⟨_, rfl, by simp; omega⟩
 ·rw [if_neg c]; exact ⟨_, rfl, by simp; omega⟩
theorem b2p (a b : Int) : ∃ t, a4l.f a b = some t ∧ (t = true ↔ stP a b) := by
 unfold a4l.f stP
 by_cases c : a ≥ 0
 ·rw [if_pos c]
  by_cases d : a < b
  ·rw [if_pos d]; exact ⟨_, rfl, by simp; omega⟩
  ·rw [if_neg d]; exact ⟨_, rfl, by simp; omega⟩
 ·rw [if_neg c]; exact ⟨_, rfl, by simp; omega⟩
def spG (l : List S56) (i : Int) : Prop := stP (a0h l i).f0 (a0h l i).f1 ∧ (0 < i → (a0h l (i - 1)).f1 < (a0h l i).f0)
def spV (l : List S56) : Prop := (∀ i : Int, 0 ≤ i → i < l.length → spG l i) ∧ l.length ≤ 1000
theorem a9n (l : List S56) (hl : (l.length : Int) ≤ 9223372036854775806) : ∃ b, Ev (fun k => a2e.f k l) b ∧ (b = true ↔ spV l) := by
 have H := a6k (fun i k => a2e.l0 k l (l.length : Int) i) l.length (by omega) (spG l) (decide ((l.length : Int) ≤ 1000))
  (evUp 0 fun k _ => by rw [a2e.l0, if_neg (by omega)])
  (fun i i0 i1 hg => by
   obtain ⟨t, e, ht⟩ := b0x (a0h l i).f0 (a0h l i).f1
   refine evUp 1 fun k hk => ?_
   obtain ⟨k, rfl⟩ : ∃ j, k = j + 1 := ⟨k - 1, by omega⟩
   rw [a2e.l0, if_pos (by omega), if_pos i0, if_pos (by omega), e, Option.bind_some]
   by_cases c : t = true
   ·rw [if_pos c]
    have hn : 0 < i ∧ ¬ (a0h l (i - 1)).f1 < (a0h l i).f0 := by
     by_cases p : 0 < i
     ·exact ⟨p, fun q => hg ⟨ht.1 c, fun _ => q⟩⟩
     ·exact absurd ⟨ht.1 c, fun q => absurd q p⟩ hg
    rw [if_pos hn.1, w64 (by omega) (by omega), if_pos (by omega), if_pos (by omega), a2e.j1, decide_eq_true (by omega), if_pos rfl]
   ·rw [if_neg c, a2e.j1, if_pos rfl])
  (fun i r i0 i1 hg ⟨K, hK⟩ => by
   obtain ⟨t, e, ht⟩ := b0x (a0h l i).f0 (a0h l i).f1
   dsimp only at hK
   refine evUp (K + 1) fun k hk => ?_
   obtain ⟨k, rfl⟩ : ∃ j, k = j + 1 := ⟨k - 1, by omega⟩
   rw [a2e.l0, if_pos (by omega), if_pos i0, if_pos (by omega), e, Option.bind_some, if_pos (ht.2 hg.1)]
   have go : a2e.j1 (k + 1) l (l.length : Int) i false = some r := by
    rw [a2e.j1, if_neg (by decide), w64 (by omega) (by omega)]
    exact hK k (by omega)
   by_cases p : i > 0
   ·have := hg.2 p
    rw [if_pos p, w64 (by omega) (by omega), if_pos (by omega), if_pos (by omega), decide_eq_false (by omega)]
    exact go
   ·rw [if_neg p]
    exact go)
 obtain ⟨b, h1, h2⟩ := H
 refine ⟨b, h1, h2.trans ?_⟩
 unfold spV
 rw [decide_eq_true_eq]
 exact and_congr_right fun _ => by omega
theorem b0y (l : List S56) (hl : (l.length : Int) ≤ 9223372036854775806) : ∃ b, Ev (fun k => a0y.f k l) b ∧ (b = true ↔ spV l) := by
 have H := a6k (fun i k => a0y.l0 k l i) l.length (by omega) (spG l) (decide ((l.length : Int) ≤ 1000))
  (evUp 0 fun k _ => by rw [a0y.l0, if_neg (by omega)])
  (fun i i0 i1 hg => by
   obtain ⟨t, e, ht⟩ := b2p (a0h l i).f0 (a0h l i).f1
   refine evUp 1 fun k hk => ?_
   obtain ⟨k, rfl⟩ : ∃ j, k = j + 1 := ⟨k - 1, by omega⟩
   rw [a0y.l0, if_pos (by omega), if_pos i0, e, Option.bind_some]
   by_cases c : t = true
   ·rw [if_pos c]
    have hn : 0 < i ∧ ¬ (a0h l (i - 1)).f1 < (a0h l i).f0 := by
     by_cases p : 0 < i
     ·exact ⟨p, fun q => hg ⟨ht.1 c, fun _ => q⟩⟩
     ·exact absurd ⟨ht.1 c, fun q => absurd q p⟩ hg
    rw [if_pos hn.1, w64 (by omega) (by omega), if_pos (by omega), if_pos (by omega), a0y.j1, decide_eq_true (by omega), if_pos rfl]
   ·rw [if_neg c, a0y.j1, if_pos rfl])
  (fun i r i0 i1 hg ⟨K, hK⟩ => by
   obtain ⟨t, e, ht⟩ := b2p (a0h l i).f0 (a0h l i).f1
   dsimp only at hK
   refine evUp (K + 1) fun k hk => ?_
   obtain ⟨k, rfl⟩ : ∃ j, k = j + 1 := ⟨k - 1, by omega⟩
   rw [a0y.l0, if_pos (by omega), if_pos i0, e, Option.bind_some, if_pos (ht.2 hg.1)]
   have go : a0y.j1 (k + 1) l i false = some r := by
    rw [a0y.j1, if_neg (by decide), w64 (by omega) (by omega)]
    exact hK k (by omega)
   by_cases p : i > 0
   ·have := hg.2 p
    rw [if_pos p, w64 (by omega) (by omega), if_pos (by omega), if_pos (by omega), decide_eq_false (by omega)]
    exact go
   ·rw [if_neg p]
    exact go)
 obtain ⟨b, h1, h2⟩ := H
 refine ⟨b, h1, h2.trans ?_⟩
 unfold spV
 rw [decide_eq_true_eq]
 exact and_congr_right fun _ => by omega
def riG (l : List Int) (lo hi i : Int) : Prop := lo ≤ rd l i ∧ rd l i ≤ hi ∧ (0 < i → rd l (i - 1) < rd l i)
def riP (l : List Int) (lo hi : Int) : Prop := ∀ i : Int, 0 ≤ i → i < l.length → riG l lo hi i
theorem a8s (l : List Int) (hl : (l.length : Int) ≤ 9223372036854775806) (lo hi : Int) : ∃ b, Ev (fun k => a1n.f k l lo hi) b ∧ (b = true ↔ riP l lo hi) := by
 have H := a6k (fun i k => a1n.l0 k l lo hi l (l.length : Int) i) l.length (by omega) (riG l lo hi) true
  (evUp 0 fun k _ => by rw [a1n.l0, if_neg (by omega)])
  (fun i i0 i1 hg => by
   refine evUp 1 fun k hk => ?_
   obtain ⟨k, rfl⟩ : ∃ j, k = j + 1 := ⟨k - 1, by omega⟩
   rw [a1n.l0, if_pos (by omega), if_pos i0, if_pos (by omega)]
   by_cases c : rd l i < lo
   ·rw [if_pos c, a1n.j1, if_pos rfl]
   ·rw [if_neg c]
    by_cases d : rd l i > hi
    ·rw [if_pos d, a1n.j1, if_pos rfl]
    ·rw [if_neg d]
     have hn : 0 < i ∧ ¬ rd l (i - 1) < rd l i := by
      by_cases p : 0 < i
      ·exact ⟨p, fun q => hg ⟨by omega, by omega, fun _ => q⟩⟩
      ·exact absurd ⟨by omega, by omega, fun q => absurd q p⟩ hg
     rw [if_pos hn.1, w64 (by omega) (by omega), if_pos (by omega), if_pos (by omega), a1n.j1, decide_eq_true (by omega), if_pos rfl])
  (fun i r i0 i1 hg ⟨K, hK⟩ => by
   dsimp only at hK
   refine evUp (K + 1) fun k hk => ?_
   obtain ⟨k, rfl⟩ : ∃ j, k = j + 1 := ⟨k - 1, by omega⟩
   have go : a1n.j1 (k + 1) l lo hi l (l.length : Int) i false = some r := by
    rw [a1n.j1, if_neg (by decide), w64 (by omega) (by omega)]
    exact hK k (by omega)
   have h1 := hg.1
   have h2 := hg.2.1
   rw [a1n.l0, if_pos (by omega), if_pos i0, if_pos (by omega), if_neg (by omega), if_neg (by omega)]
   by_cases p : i > 0
   ·have := hg.2.2 p
    rw [if_pos p, w64 (by omega) (by omega), if_pos (by omega), if_pos (by omega), decide_eq_false (by omega)]
    exact go
   ·rw [if_neg p]
    exact go)
 obtain ⟨b, h1, h2⟩ := H
 exact ⟨b, h1, h2.trans ⟨fun h => h.1, fun h => ⟨h, rfl⟩⟩⟩
theorem a9v (l : List Int) (hl : (l.length : Int) ≤ 9223372036854775806) (lo hi : Int) : ∃ b, Ev (fun k => a0p.f k l lo hi) b ∧ (b = true ↔ riP l lo hi) := by
 have H := a6k (fun i k => a0p.l0 k l lo hi i) l.length (by omega) (riG l lo hi) true
  (evUp 0 fun k _ => by rw [a0p.l0, if_neg (by omega)])
  (fun i i0 i1 hg => by
   refine evUp 1 fun k hk => ?_
   obtain ⟨k, rfl⟩ : ∃ j, k = j + 1 := ⟨k - 1, by omega⟩
   rw [a0p.l0, if_pos (by omega), if_pos i0]
   by_cases c : rd l i < lo
   ·rw [if_pos c, a0p.j1, if_pos rfl]
   ·rw [if_neg c]
    by_cases d : rd l i > hi
    ·rw [if_pos d, a0p.j1, if_pos rfl]
    ·rw [if_neg d]
     have hn : 0 < i ∧ ¬ rd l (i - 1) < rd l i := by
      by_cases p : 0 < i
      ·exact ⟨p, fun q => hg ⟨by omega, by omega, fun _ => q⟩⟩
      ·exact absurd ⟨by omega, by omega, fun q => absurd q p⟩ hg
     rw [if_pos hn.1, w64 (by omega) (by omega), if_pos (by omega), if_pos (by omega), a0p.j1, decide_eq_true (by omega), if_pos rfl])
  (fun i r i0 i1 hg ⟨K, hK⟩ => by
   dsimp only at hK
   refine evUp (K + 1) fun k hk => ?_
   obtain ⟨k, rfl⟩ : ∃ j, k = j + 1 := ⟨k - 1, by omega⟩
   have go : a0p.j1 (k + 1) l lo hi i false = some r := by
    rw [a0p.j1, if_neg (by decide), w64 (by omega) (by omega)]
    exact hK k (by omega)
   have h1 := hg.1
   have h2 := hg.2.1
   rw [a0p.l0, if_pos (by omega), if_pos i0, if_neg (by omega), if_neg (by omega)]
   by_cases p : i > 0
   ·have := hg.2.2 p
    rw [if_pos p, w64 (by omega) (by omega), if_pos (by omega), if_pos (by omega), decide_eq_false (by omega)]
    exact go
   ·rw [if_neg p]
    exact go)
 obtain ⟨b, h1, h2⟩ := H
 exact ⟨b, h1, h2.trans ⟨fun h => h.1, fun h => ⟨h, rfl⟩⟩⟩
def inP (l : List Int) (a : Int) : Prop := ∃ i : Int, 0 ≤ i ∧ i < l.length ∧ rd l i = a
theorem a8l (l : List Int) (hl : (l.length : Int) ≤ 9223372036854775806) (a : Int) : ∃ b, Ev (fun k => a2r.f k l a) b ∧ (b = true ↔ inP l a) := by
 obtain ⟨r, ⟨K, hK⟩, hr⟩ := a7t (fun i k => a2m.l0 k l a (l.length : Int) i) l.length (by omega) (fun i => rd l i = a)
  (evUp 0 fun k _ => by rw [a2m.l0, if_neg (by omega)])
  (fun i i0 i1 h => evUp 0 fun k _ => by rw [a2m.l0, if_pos (by omega), if_pos i0, if_pos (by omega), if_pos h.symm])
  (fun i r i0 i1 h ⟨K, hK⟩ => evUp K fun k hk => by rw [a2m.l0, if_pos (by omega), if_pos i0, if_pos (by omega), if_neg (fun e => h e.symm), w64 (by omega) (by omega)]; exact hK k hk)
 refine ⟨decide (r ≥ 0), ⟨K, fun k hk => ?_⟩, a9c hr⟩
 dsimp only at hK ⊢
 unfold a2r.f a2m.f
 rw [hK k hk, Option.bind_some]
theorem b8z (l : List Int) (hl : (l.length : Int) ≤ 9223372036854775806) (a : Int) : ∃ b, Ev (fun k => a2c.f k l a) b ∧ (b = true ↔ inP l a) :=
 b0w (fun i k => a2c.l0 k l a i) l.length (by omega) (fun i => rd l i = a)
  (evUp 0 fun k _ => by rw [a2c.l0, if_neg (by omega)])
  (fun i i0 i1 h => evUp 0 fun k _ => by rw [a2c.l0, if_pos (by omega), if_pos i0, if_pos h])
  (fun i r i0 i1 h ⟨K, hK⟩ => evUp K fun k hk => by rw [a2c.l0, if_pos (by omega), if_pos i0, if_neg h, w64 (by omega) (by omega)]; exact hK k hk)
def comP (a b : List Int) : Prop := ∃ i : Int, 0 ≤ i ∧ i < a.length ∧ inP b (rd a i)
theorem c0m (a b : List Int) (ha : (a.length : Int) ≤ 9223372036854775806) (hb : (b.length : Int) ≤ 9223372036854775806) : ∃ t, Ev (fun k => a4u.f k a b) t ∧ (t = true ↔ comP a b) := by
 obtain ⟨r, ⟨K, hK⟩, hr⟩ := a7t (fun i k => a0l.l0 k a (a.length : Int) i b) a.length (by omega) (fun i => inP b (rd a i))
  (evUp 0 fun k _ => by rw [a0l.l0, if_neg (by omega)])
  (fun i i0 i1 h => by
   obtain ⟨t, ⟨K, hK⟩, ht⟩ := a8l b hb (rd a i)
   dsimp only at hK
   refine evUp K fun k hk => ?_
   rw [a0l.l0, if_pos (by omega), if_pos i0, if_pos (by omega), a3p.f, hK k hk, Option.bind_some, Option.bind_some, if_pos (ht.2 h)])
  (fun i r i0 i1 h ⟨K2, hK2⟩ => by
   obtain ⟨t, ⟨K, hK⟩, ht⟩ := a8l b hb (rd a i)
   dsimp only at hK hK2
   refine evUp (K + K2) fun k hk => ?_
   rw [a0l.l0, if_pos (by omega), if_pos i0, if_pos (by omega), a3p.f, hK k (by omega), Option.bind_some, Option.bind_some, if_neg (fun e => h (ht.1 e)), w64 (by omega) (by omega)]
   exact hK2 k (by omega))
 refine ⟨decide (r ≥ 0), ⟨K, fun k hk => ?_⟩, a9c hr⟩
 dsimp only at hK ⊢
 unfold a4u.f a2q.f a0l.f
 rw [hK k hk, Option.bind_some, Option.bind_some]
def wayP (a b : S51) : Prop := a.f1 = b.f1 ∨ comP a.f4 b.f4
theorem c4o (a b : S51) (ha : (a.f4.length : Int) ≤ 9223372036854775806) (hb : (b.f4.length : Int) ≤ 9223372036854775806) : ∃ t, Ev (fun k => a5v.f k a.f0 a.f1 a.f2 a.f3 a.f4 b.f0 b.f1 b.f2 b.f3 b.f4) t ∧ (t = true ↔ wayP a b) := by
 unfold a5v.f wayP
 by_cases c : a.f1 = b.f1
 ·exact ⟨true, a8z fun k => by rw [if_pos c], fun _ => .inl c, fun _ => rfl⟩
 ·obtain ⟨t, ⟨K, hK⟩, ht⟩ := c0m a.f4 b.f4 ha hb
  refine ⟨t, ⟨K, fun k hk => ?_⟩, ht.trans ⟨.inr, fun h => h.resolve_left c⟩⟩
  dsimp only at hK ⊢
  rw [if_neg c, hK k hk, Option.bind_some]
theorem b5a (a b : S51) (ha : (a.f4.length : Int) ≤ 9223372036854775806) (hb : (b.f4.length : Int) ≤ 9223372036854775806) : ∃ t, Ev (fun k => a2o.f k a.f0 a.f1 a.f2 a.f3 a.f4 b.f0 b.f1 b.f2 b.f3 b.f4) t ∧ (t = true ↔ wayP a b) := by
 unfold a2o.f wayP
 by_cases c : a.f1 = b.f1
 ·exact ⟨true, a8z fun k => by rw [if_pos c], fun _ => .inl c, fun _ => rfl⟩
 ·obtain ⟨t, ⟨K, hK⟩, ht⟩ := b0w (fun i k => a2o.l0 k i a.f0 a.f1 a.f2 a.f3 a.f4 b.f0 b.f1 b.f2 b.f3 b.f4) a.f4.length (by omega) (fun i => inP b.f4 (rd a.f4 i))
   (evUp 0 fun k _ => by rw [a2o.l0, if_neg (by omega)])
   (fun i i0 i1 h => by
    obtain ⟨t, ⟨K, hK⟩, ht⟩ := b8z b.f4 hb (rd a.f4 i)
    dsimp only at hK
    refine evUp K fun k hk => ?_
    rw [a2o.l0, if_pos (by omega), if_pos i0, hK k hk, Option.bind_some, if_pos (ht.2 h)])
   (fun i r i0 i1 h ⟨K2, hK2⟩ => by
    obtain ⟨t, ⟨K, hK⟩, ht⟩ := b8z b.f4 hb (rd a.f4 i)
    dsimp only at hK hK2
    refine evUp (K + K2) fun k hk => ?_
    rw [a2o.l0, if_pos (by omega), if_pos i0, hK k (by omega), Option.bind_some, if_neg (fun e => h (ht.1 e)), w64 (by omega) (by omega)]
    exact hK2 k (by omega))
  refine ⟨t, ⟨K, fun k hk => ?_⟩, ht.trans ⟨.inr, fun h => h.resolve_left c⟩⟩
  dsimp only at hK ⊢
  rw [if_neg c]
  exact hK k hk
theorem c0n {a b : List Int} (h : comP a b) : comP b a := by
 obtain ⟨i, i0, i1, j, j0, j1, e⟩ := h
 exact ⟨j, j0, j1, i, i0, i1, e.symm⟩
theorem c0o {a b : S51} (h : wayP a b) : wayP b a := h.elim (fun h => .inl h.symm) (fun h => .inr (c0n h))
def maP (j : List S51) (l : List S42) : Prop := l.length = j.length ∧ ∀ i : Int, 0 ≤ i → i < j.length → (a0b l i).f0 = (a0a j i).f0
theorem b3p (j : List S51) (l : List S42) (hj : (j.length : Int) ≤ 9223372036854775806) : ∃ t, Ev (fun k => a3y.f k j l) t ∧ (t = true ↔ maP j l) := by
 unfold a3y.f a1s.f maP
 by_cases c : (j.length : Int) = (l.length : Int)
 ·obtain ⟨t, ⟨K, hK⟩, ht⟩ := a6k (fun i k => a1s.l0 k l j (j.length : Int) i) j.length (by omega) (fun i => (a0b l i).f0 = (a0a j i).f0) true
   (evUp 0 fun k _ => by rw [a1s.l0, if_neg (by omega)])
   (fun i i0 i1 h => evUp 0 fun k _ => by rw [a1s.l0, if_pos (by omega), if_pos i0, if_pos (by omega), if_pos (by omega), a5t.f, Option.bind_some, if_neg (by rw [beq_iff_eq]; exact fun e => h e.symm)])
   (fun i r i0 i1 h ⟨K, hK⟩ => evUp K fun k hk => by rw [a1s.l0, if_pos (by omega), if_pos i0, if_pos (by omega), if_pos (by omega), a5t.f, Option.bind_some, if_pos (by rw [beq_iff_eq]; exact h.symm), w64 (by omega) (by omega)]; exact hK k hk)
  refine ⟨t, ⟨K, fun k hk => ?_⟩, ht.trans ⟨fun h => ⟨by omega, h.1⟩, fun h => ⟨h.2, rfl⟩⟩⟩
  dsimp only at hK ⊢
  rw [if_pos c, hK k hk, Option.bind_some]
 ·exact ⟨false, a8z fun k => by rw [if_neg c, Option.bind_some], fun h => by simp at h, fun h => absurd h.1 (by omega)⟩
theorem c1s (j : List S51) (l : List S42) (hj : (j.length : Int) ≤ 9223372036854775806) : ∃ t, Ev (fun k => a2d.f k j l) t ∧ (t = true ↔ maP j l) := by
 unfold a2d.f maP
 by_cases c : (l.length : Int) = (j.length : Int)
 ·obtain ⟨t, ⟨K, hK⟩, ht⟩ := a6k (fun i k => a2d.l0 k j l i) l.length (by omega) (fun i => (a0b l i).f0 = (a0a j i).f0) true
   (evUp 0 fun k _ => by rw [a2d.l0, if_neg (by omega)])
   (fun i i0 i1 h => evUp 0 fun k _ => by rw [a2d.l0, if_pos (by omega), if_pos i0, if_pos (by omega), if_neg h])
   (fun i r i0 i1 h ⟨K, hK⟩ => evUp K fun k hk => by rw [a2d.l0, if_pos (by omega), if_pos i0, if_pos (by omega), if_pos h, w64 (by omega) (by omega)]; exact hK k hk)
  refine ⟨t, ⟨K, fun k hk => ?_⟩, ht.trans ⟨fun h => ⟨by omega, fun i i0 i1 => h.1 i i0 (by omega)⟩, fun h => ⟨fun i i0 i1 => h.2 i i0 (by omega), rfl⟩⟩⟩
  dsimp only at hK ⊢
  rw [if_pos c]
  exact hK k hk
 ·exact ⟨false, a8z fun k => by rw [if_neg c], fun h => by simp at h, fun h => absurd h.1 (by omega)⟩
def feP (j : List S51) (t : List S58) : Prop := j.length ≤ 12 ∧ t.length ≤ 25 ∧ (∀ i : Int, 0 ≤ i → i < j.length → (a0a j i).f3.length ≤ 20 ∧ (a0a j i).f4.length ≤ 20) ∧ ∀ i : Int, 0 ≤ i → i < t.length → (a2a t i).f1.length ≤ 20
theorem c0p (j : List S51) (t : List S58) : ∃ b, Ev (fun k => a0n.f k j t) b ∧ (b = true ↔ feP j t) := by
 unfold a0n.f feP
 by_cases c : (j.length : Int) > 12
 ·exact ⟨false, evUp 0 fun k _ => by rw [if_pos c, a0n.j0, if_pos rfl], fun h => by simp at h, fun h => by omega⟩
 by_cases d : (t.length : Int) > 25
 ·exact ⟨false, evUp 0 fun k _ => by rw [if_neg c, decide_eq_true d, a0n.j0, if_pos rfl], fun h => by simp at h, fun h => by omega⟩
 obtain ⟨b1, hb1, h1⟩ := a6k (fun i k => a0n.l1 k t i) t.length (by omega) (fun i => (a2a t i).f1.length ≤ 20) true
  (evUp 0 fun k _ => by rw [a0n.l1, if_neg (by omega)])
  (fun i i0 i1 h => evUp 0 fun k _ => by rw [a0n.l1, if_pos (by omega), if_pos i0, if_pos (by omega)])
  (fun i r i0 i1 h ⟨K, hK⟩ => evUp K fun k hk => by rw [a0n.l1, if_pos (by omega), if_pos i0, if_neg (by omega), w64 (by omega) (by omega)]; exact hK k hk)
 obtain ⟨b, ⟨K, hK⟩, h2⟩ := a6k (fun i k => a0n.l0 k j t i) j.length (by omega) (fun i => (a0a j i).f3.length ≤ 20 ∧ (a0a j i).f4.length ≤ 20) b1
  (by
   obtain ⟨K, hK⟩ := hb1
   exact evUp K fun k hk => by rw [a0n.l0, if_neg (by omega)]; exact hK k hk)
  (fun i i0 i1 h => evUp 0 fun k _ => by
   rw [a0n.l0, if_pos (by omega), if_pos i0]
   by_cases e : (((a0a j i).f3).length : Int) > 20
   ·rw [if_pos e]
   ·rw [if_neg e, if_pos (by omega)])
  (fun i r i0 i1 h ⟨K, hK⟩ => evUp K fun k hk => by rw [a0n.l0, if_pos (by omega), if_pos i0, if_neg (by omega), if_neg (by omega), w64 (by omega) (by omega)]; exact hK k hk)
 refine ⟨b, evUp K fun k hk => ?_, ?_⟩
 ·dsimp only at hK
  rw [if_neg c, decide_eq_false d, a0n.j0, if_neg (by decide)]
  exact hK k hk
 ·rw [h2, h1]
  exact ⟨fun h => ⟨by omega, by omega, h.1, h.2.1⟩, fun h => ⟨h.2.2.1, h.2.2.2, rfl⟩⟩
theorem c2p (l : List S42) {i : Nat} (h : i < l.length) : a0b l (i : Int) = l[i] := by
 unfold a0b
 rw [Int.toNat_natCast, List.getD_eq_getElem?_getD, List.getElem?_eq_getElem h]
 rfl
theorem b5l (l : List S56) {i : Nat} (h : i < l.length) : a0h l (i : Int) = l[i] := by
 unfold a0h
 rw [Int.toNat_natCast, List.getD_eq_getElem?_getD, List.getElem?_eq_getElem h]
 rfl
theorem b9a {a b : List S42} (hl : a.length = b.length) (h : ∀ i : Int, 0 ≤ i → i < a.length → a0b a i = a0b b i) : a = b := by
 refine List.ext_getElem hl fun i h1 h2 => ?_
 rw [← c2p a h1, ← c2p b h2]
 exact h i (by omega) (by omega)
theorem b5b (a b : List S42) (ha : (a.length : Int) ≤ 9223372036854775806) : ∃ t, Ev (fun k => a0q.f k a b) t ∧ (t = true ↔ a = b) := by
 unfold a0q.f
 by_cases c : (a.length : Int) = (b.length : Int)
 ·obtain ⟨t, ⟨K, hK⟩, ht⟩ := a6k (fun i k => a0q.l0 k a b i) a.length (by omega) (fun i => a0b a i = a0b b i) true
   (evUp 0 fun k _ => by rw [a0q.l0, if_neg (by omega)])
   (fun i i0 i1 h => evUp 0 fun k _ => by
    rw [a0q.l0, if_pos (by omega), if_pos i0, if_pos (by omega), if_pos]
    revert h
    generalize a0b a i = x
    generalize a0b b i = y
    intro h
    obtain ⟨x0, x1, x2⟩ := x
    obtain ⟨y0, y1, y2⟩ := y
    simp only [S42.mk.injEq] at h
    simp only [Bool.or_eq_true, Bool.not_eq_true', beq_eq_false_iff_ne]
    by_cases e0 : x0 = y0
    ·by_cases e1 : x1 = y1
     ·exact .inr (.inr fun e2 => h ⟨e0, e1, e2⟩)
     ·exact .inr (.inl e1)
    ·exact .inl e0)
   (fun i r i0 i1 h ⟨K, hK⟩ => evUp K fun k hk => by
    rw [a0q.l0, if_pos (by omega), if_pos i0, if_pos (by omega), if_neg (by rw [h]; simp), w64 (by omega) (by omega)]
    exact hK k hk)
  refine ⟨t, ⟨K, fun k hk => ?_⟩, ht.trans ⟨fun h => b9a (by omega) h.1, fun h => ⟨fun i _ _ => by rw [h], rfl⟩⟩⟩
  dsimp only at hK ⊢
  rw [if_pos c]
  exact hK k hk
 ·exact ⟨false, a8z fun k => by rw [if_neg c], fun h => by simp at h, fun h => absurd (by rw [h]) c⟩
def suP (l : List S56) (a b : Int) : Prop := ∃ i : Int, 0 ≤ i ∧ i < l.length ∧ (a0h l i).f0 ≤ a ∧ b ≤ (a0h l i).f1
theorem b6d (l : List S56) (hl : (l.length : Int) ≤ 9223372036854775806) (a b : Int) : ∃ t, Ev (fun k => a2b.f k l a b) t ∧ (t = true ↔ suP l a b) :=
 b0w (fun i k => a2b.l0 k l a b i) l.length (by omega) (fun i => (a0h l i).f0 ≤ a ∧ b ≤ (a0h l i).f1)
  (evUp 0 fun k _ => by rw [a2b.l0, if_neg (by omega)])
  (fun i i0 i1 h => evUp 0 fun k _ => by rw [a2b.l0, if_pos (by omega), if_pos i0, if_pos h.1, if_pos h.2])
  (fun i r i0 i1 h ⟨K, hK⟩ => evUp K fun k hk => by
   rw [a2b.l0, if_pos (by omega), if_pos i0, w64 (by omega) (by omega)]
   by_cases c : (a0h l i).f0 ≤ a
   ·rw [if_pos c, if_neg (fun d => h ⟨c, d⟩)]; exact hK k hk
   ·rw [if_neg c]; exact hK k hk)
theorem b1h (l : List S56) (hl : (l.length : Int) ≤ 9223372036854775806) (c a b : Int) : ∃ t, Ev (fun k => a3f.f k l c a b) t ∧ (t = true ↔ suP l a b) := by
 obtain ⟨r, ⟨K, hK⟩, hr⟩ := a7t (fun i k => a1u.l0 k l (l.length : Int) i c a b) l.length (by omega) (fun i => (a0h l i).f0 ≤ a ∧ b ≤ (a0h l i).f1)
  (evUp 0 fun k _ => by rw [a1u.l0, if_neg (by omega)])
  (fun i i0 i1 h => evUp 0 fun k _ => by rw [a1u.l0, if_pos (by omega), if_pos i0, if_pos (by omega), a5i.f, if_pos h.1, Option.bind_some, if_pos (decide_eq_true h.2)])
  (fun i r i0 i1 h ⟨K, hK⟩ => evUp K fun k hk => by
   rw [a1u.l0, if_pos (by omega), if_pos i0, if_pos (by omega), a5i.f, w64 (by omega) (by omega)]
   by_cases e : (a0h l i).f0 ≤ a
   ·rw [if_pos e, Option.bind_some, if_neg (by rw [decide_eq_true_eq]; exact fun d => h ⟨e, d⟩)]; exact hK k hk
   ·rw [if_neg e, Option.bind_some, if_neg (by decide)]; exact hK k hk)
 refine ⟨decide (r ≥ 0), ⟨K, fun k hk => ?_⟩, a9c hr⟩
 dsimp only at hK ⊢
 unfold a3f.f a1u.f
 rw [hK k hk, Option.bind_some]
theorem b4k (t : List S58) (ht : (t.length : Int) ≤ 9223372036854775806) (a : Int) : ∃ l b, Ev (fun k => a1v.f k t a) (l, b) ∧ ((b = false ∧ l = [] ∧ ∀ i : Int, 0 ≤ i → i < t.length → (a2a t i).f0 ≠ a) ∨
  (b = true ∧ ∃ i : Int, 0 ≤ i ∧ i < t.length ∧ (a2a t i).f0 = a ∧ l = (a2a t i).f1 ∧ ∀ j : Int, 0 ≤ j → j < i → (a2a t j).f0 ≠ a)) := by
 rcases a5u (fun i k => a1v.l0 k t a i) t.length (by omega) (fun i => (a2a t i).f0 ≠ a) (fun i => ((a2a t i).f1, true)) (([] : List S56), false)
  (evUp 0 fun k _ => by rw [a1v.l0, if_neg (by omega)])
  (fun i i0 i1 h => evUp 0 fun k _ => by rw [a1v.l0, if_pos (by omega), if_pos i0, if_pos (Classical.not_not.1 h)])
  (fun i r i0 i1 h ⟨K, hK⟩ => evUp K fun k hk => by rw [a1v.l0, if_pos (by omega), if_pos i0, if_neg h, w64 (by omega) (by omega)]; exact hK k hk) with ⟨h1, h2⟩ | ⟨i, h1, h2, h3, h4, h5⟩
 ·exact ⟨_, _, h2, .inl ⟨rfl, rfl, h1⟩⟩
 ·exact ⟨_, _, h5, .inr ⟨rfl, i, h1, h2, Classical.not_not.1 h3, rfl, h4⟩⟩
theorem a7x (j : List S51) (n : Int) (n0 : 0 ≤ n) (n1 : n ≤ j.length) (hj : (j.length : Int) ≤ 9223372036854775806) (id : Int) : ∃ r, Ev (fun k => a1m.f k j n id) r ∧
  ((r = -1 ∧ ∀ i : Int, 0 ≤ i → i < n → (a0a j i).f0 ≠ id) ∨ (0 ≤ r ∧ r < n ∧ (a0a j r).f0 = id ∧ ∀ i : Int, 0 ≤ i → i < r → (a0a j i).f0 ≠ id)) :=
 a7t (fun i k => a1m.l0 k j n id i) n n0 (fun i => (a0a j i).f0 = id)
  (evUp 0 fun k _ => by rw [a1m.l0, if_neg (by omega)])
  (fun i i0 i1 h => evUp 0 fun k _ => by rw [a1m.l0, if_pos (by omega), if_pos i0, if_pos (by omega), if_pos h])
  (fun i r i0 i1 h ⟨K, hK⟩ => evUp K fun k hk => by rw [a1m.l0, if_pos (by omega), if_pos i0, if_pos (by omega), if_neg h, w64 (by omega) (by omega)]; exact hK k hk)
end Go.Proofs.Ytheibjkjmkanoaa.Wk
/- The works' example. Conditions: none. -/
namespace Go.Proofs.Ytheibjkjmkanoaa.Wk
open Go.RowKit Go.Proofs.YtheibjkjmkanoaaW.PrintWords Go.Proofs.Ytheibjkjmkanoaa.Given Go.Proofs.Ytheibjkjmkanoaa.Px
set_option linter.unusedVariables false
set_option linter.unusedSimpArgs false
set_option maxRecDepth 100000 in
theorem b0j : Ev (fun k => a0e.f k) true := Ev.of (fun k => a0e.mono k) (k := 100) (by decide +kernel)
end Go.Proofs.Ytheibjkjmkanoaa.Wk
/- Which jobs and trades are valid, and what works.open fills: the trades by their numbers, the jobs by theirs. Conditions: as_ each theorem states. -/
namespace Go.Proofs.Ytheibjkjmkanoaa.Wk
open Go.RowKit Go.Proofs.YtheibjkjmkanoaaW.PrintWords Go.Proofs.YtheibjkjmkanoaaW.PrintMore Go.Proofs.Ytheibjkjmkanoaa.Given Go.Proofs.Ytheibjkjmkanoaa.Px
set_option linter.unusedVariables false
set_option linter.unusedSimpArgs false
theorem b2q {α : Type} (L : Int → Nat → Option α) (n : Int) (n0 : 0 ≤ n) (good : Int → Prop) (f : Int → α) (e : α) (hend : (∀ i, 0 ≤ i → i < n → good i) → Ev (L n) e)
  (hno : ∀ i, 0 ≤ i → i < n → (∀ j, 0 ≤ j → j < i → good j) → ¬ good i → Ev (L i) (f i)) (hyes : ∀ i r, 0 ≤ i → i < n → (∀ j, 0 ≤ j → j < i → good j) → good i → Ev (L (i + 1)) r → Ev (L i) r) :
  ((∀ i, 0 ≤ i → i < n → good i) ∧ Ev (L 0) e) ∨ (∃ i, 0 ≤ i ∧ i < n ∧ ¬ good i ∧ (∀ j, 0 ≤ j → j < i → good j) ∧ Ev (L 0) (f i)) := by
 have main : ∀ (m : Nat) (i : Int), 0 ≤ i → i + m = n → (∀ j, 0 ≤ j → j < i → good j) → ((∀ j, 0 ≤ j → j < n → good j) ∧ Ev (L i) e) ∨ (∃ t, i ≤ t ∧ t < n ∧ ¬ good t ∧ (∀ j, 0 ≤ j → j < t → good j) ∧ Ev (L i) (f t)) := by
  intro m
  induction m with
  | zero =>
   intro i i0 hi hp
   obtain rfl : i = n := by omega
   exact .inl ⟨hp, hend hp⟩
  | succ m ih =>
   intro i i0 hi hp
   by_cases c : good i
   ·have hp2 : ∀ j, 0 ≤ j → j < i + 1 → good j := fun j a b => by
     by_cases d : j = i
     ·rw [d]; exact c
     ·exact hp j a (by omega)
    rcases ih (i + 1) (by omega) (by omega) hp2 with ⟨h1, h2⟩ | ⟨t, h1, h2, h3, h4, h5⟩
    ·exact .inl ⟨h1, hyes i _ i0 (by omega) hp c h2⟩
    ·exact .inr ⟨t, by omega, h2, h3, h4, hyes i _ i0 (by omega) hp c h5⟩
   ·exact .inr ⟨i, by omega, by omega, c, hp, hno i i0 (by omega) hp c⟩
 rcases main n.toNat 0 (by omega) (by omega) (fun j a b => by omega) with h | ⟨t, h1, h2, h3, h4, h5⟩
 ·exact .inl h
 ·exact .inr ⟨t, h1, h2, h3, h4, h5⟩
def idM (g : Int → Int) (m : Nat) : List (Int × Int) := (List.range m).map fun n : Nat => (g (n : Int), (n : Int))
theorem b5c {α : Type} (k : Int) : ∀ (A B : List (Int × α)), a3q (A ++ B) k = match a3q A k with | some v => some v | none => a3q B k
 | [], B => rfl
 | p :: t, B => by
  show (if p.1 = k then some p.2 else a3q (t ++ B) k) = _
  rw [b5c k t B]
  by_cases c : p.1 = k
  ·rw [if_pos c]; unfold a3q; rw [if_pos c]
  ·rw [if_neg c]
   have e : a3q (p :: t) k = a3q t k := by rw [a3q, if_neg c]
   rw [e]
theorem b5d {α : Type} (k : Int) (v : α) : ∀ A : List (Int × α), a3q A k = none → mput A k v = A ++ [(k, v)]
 | [], _ => rfl
 | p :: t, h => by
  rw [a3q] at h
  by_cases c : p.1 = k
  ·rw [if_pos c] at h; simp at h
  ·rw [if_neg c] at h
   rw [mput, if_neg c, b5d k v t h]
   rfl
theorem b6e (g : Int → Int) (m : Nat) : idM g (m + 1) = idM g m ++ [(g m, (m : Int))] := by
 unfold idM
 rw [List.range_succ, List.map_append]
 rfl
theorem a9o (g : Int → Int) (k : Int) : ∀ m : Nat, (a3q (idM g m) k = none ∧ ∀ n : Nat, n < m → g n ≠ k) ∨ (∃ n : Nat, n < m ∧ g n = k ∧ a3q (idM g m) k = some (n : Int) ∧ ∀ q : Nat, q < n → g q ≠ k)
 | 0 => .inl ⟨rfl, fun n h => by omega⟩
 | m + 1 => by
  rw [b6e, b5c]
  rcases a9o g k m with ⟨h1, h2⟩ | ⟨n, h1, h2, h3, h4⟩
  ·rw [h1]
   by_cases c : g m = k
   ·refine .inr ⟨m, by omega, c, ?_, h2⟩
    show a3q [(g m, (m : Int))] k = _
    rw [a3q, if_pos c]
   ·refine .inl ⟨?_, fun n hn => ?_⟩
    ·show a3q [(g m, (m : Int))] k = _
     rw [a3q, if_neg c]
     rfl
    ·by_cases e : n = m
     ·rw [e]; exact c
     ·exact h2 n (by omega)
  ·rw [h3]
   exact .inr ⟨n, by omega, h2, rfl, h4⟩
theorem c3r (g : Int → Int) (m : Nat) (h : ∀ n : Nat, n < m → g n ≠ g m) : mput (idM g m) (g m) (m : Int) = idM g (m + 1) := by
 rw [b6e]
 rcases a9o g (g m) m with ⟨h1, _⟩ | ⟨n, h1, h2, _⟩
 ·exact b5d _ _ _ h1
 ·exact absurd h2 (h n h1)
theorem b0k (g : Int → Int) (m : Nat) (k : Int) : mhas (idM g m) k = true ↔ ∃ n : Int, 0 ≤ n ∧ n < m ∧ g n = k := by
 unfold mhas
 rcases a9o g k m with ⟨h1, h2⟩ | ⟨n, h1, h2, h3, _⟩
 ·rw [h1]
  refine ⟨fun h => by simp at h, fun ⟨n, a, b, c⟩ => absurd c ?_⟩
  have := h2 n.toNat (by omega)
  rwa [Int.toNat_of_nonneg a] at this
 ·rw [h3]
  exact ⟨fun _ => ⟨n, by omega, by omega, h2⟩, fun _ => rfl⟩
theorem b7q (g : Int → Int) (m : Nat) (n : Int) (n0 : 0 ≤ n) (n1 : n < m) (hd : ∀ q : Int, 0 ≤ q → q < n → g q ≠ g n) : a2h (idM g m) (g n) = n := by
 unfold a2h
 rcases a9o g (g n) m with ⟨h1, h2⟩ | ⟨q, h1, h2, h3, h4⟩
 ·have := h2 n.toNat (by omega)
  rw [Int.toNat_of_nonneg n0] at this
  exact absurd rfl this
 ·rw [h3]
  show (q : Int) = n
  by_cases c : (q : Int) < n
  ·exact absurd h2 (hd q (by omega) c)
  ·by_cases d : n.toNat < q
   ·have := h4 n.toNat d
    rw [Int.toNat_of_nonneg n0] at this
    exact absurd rfl this
   ·omega
def trOk (t : List S58) (i : Int) : Prop := spV (a2a t i).f1 ∧ 1 ≤ (a2a t i).f0 ∧ (a2a t i).f0 ≤ 1000 ∧ (0 < i → (a2a t (i - 1)).f0 < (a2a t i).f0)
def joOk (j : List S51) (t : List S58) (i : Int) : Prop :=
 1 ≤ (a0a j i).f0 ∧ (a0a j i).f0 ≤ 1000 ∧ (0 < i → (a0a j (i - 1)).f0 < (a0a j i).f0) ∧ 1 ≤ (a0a j i).f2 ∧ (a0a j i).f2 ≤ 100 ∧ (a0a j i).f4.length ≤ 8 ∧
 riP (a0a j i).f4 1 64 ∧ riP (a0a j i).f3 1 1000 ∧ (∃ n : Int, 0 ≤ n ∧ n < t.length ∧ (a2a t n).f0 = (a0a j i).f1) ∧
 ∀ a : Int, 0 ≤ a → a < (a0a j i).f3.length → ∃ n : Int, 0 ≤ n ∧ n < i ∧ (a0a j n).f0 = rd (a0a j i).f3 a
def vaP (j : List S51) (t : List S58) : Prop := t.length ≤ 20 ∧ j.length ≤ 60 ∧ (∀ i : Int, 0 ≤ i → i < t.length → trOk t i) ∧ ∀ i : Int, 0 ≤ i → i < j.length → joOk j t i
def bdP (j : List S51) (t : List S58) : Prop := (j.length : Int) ≤ 1000000 ∧ (t.length : Int) ≤ 1000000 ∧ (∀ i : Int, 0 ≤ i → i < j.length → ((a0a j i).f3.length : Int) ≤ 1000000 ∧ ((a0a j i).f4.length : Int) ≤ 1000000) ∧
 ∀ i : Int, 0 ≤ i → i < t.length → ((a2a t i).f1.length : Int) ≤ 1000000
theorem b0l {j : List S51} {t : List S58} (h : feP j t) : bdP j t := by
 obtain ⟨h1, h2, h3, h4⟩ := h
 exact ⟨by omega, by omega, fun i a b => by have := h3 i a b; omega, fun i a b => by have := h4 i a b; omega⟩
theorem b7r (g : Int → Int) (n : Int) (h : ∀ i, 0 ≤ i → i < n → 0 < i → g (i - 1) < g i) : ∀ (m : Nat) (a : Int), 0 ≤ a → a + m + 1 < n → g a < g (a + m + 1)
 | 0, a, a0, h1 => by
  have := h (a + 1) (by omega) (by omega) (by omega)
  rw [show a + 1 - 1 = a by omega] at this
  rw [show a + (0 : Nat) + 1 = a + 1 by omega]
  exact this
 | m + 1, a, a0, h1 => by
  have h2 := b7r g n h m a a0 (by omega)
  have := h (a + (m + 1 : Nat) + 1) (by omega) (by omega) (by omega)
  rw [show a + (m + 1 : Nat) + 1 - 1 = a + m + 1 by omega] at this
  omega
theorem a8c {g : Int → Int} {n : Int} (h : ∀ i, 0 ≤ i → i < n → 0 < i → g (i - 1) < g i) {a b : Int} (a0 : 0 ≤ a) (ab : a < b) (bn : b < n) : g a < g b := by
 have := b7r g n h (b - a - 1).toNat a a0 (by omega)
 rwa [show a + ((b - a - 1).toNat : Int) + 1 = b by omega] at this
def jid (j : List S51) (i : Int) : Int := (a0a j i).f0
def tid (t : List S58) (i : Int) : Int := (a2a t i).f0
def atM (j : List S51) : List (Int × Int) := idM (jid j) j.length
def frM (t : List S58) : List (Int × Int) := idM (tid t) t.length
def lastT (t : List S58) (i : Int) : Int := if 0 < i then tid t (i - 1) else 0
def a9w (j : List S51) (i : Int) : Int := if 0 < i then jid j (i - 1) else 0
theorem b6f (g : Int → Int) {i : Int} (i0 : 0 ≤ i) (h : ∀ a : Int, 0 ≤ a → a < i → g a < g i) : mput (idM g i.toNat) (g i) i = idM g (i + 1).toNat := by
 have e := c3r g i.toNat fun n hn => by
  rw [Int.toNat_of_nonneg i0]
  have := h n (by omega) (by omega)
  omega
 rw [Int.toNat_of_nonneg i0] at e
 rw [e, show (i + 1).toNat = i.toNat + 1 by omega]
theorem b3q (l : List Int) (hl : (l.length : Int) ≤ 1000000) (j : List S51) (M : List (Int × Int)) (F : List (Int × List S56)) : ∃ b, Ev (fun k => a2p.f k l j M F) b ∧ (b = true ↔ ∃ a : Int, 0 ≤ a ∧ a < l.length ∧ ¬ mhas M (rd l a) = true) := by
 obtain ⟨r, ⟨K, hK⟩, hr⟩ := a7t (fun i k => a1a.l0 k l (l.length : Int) i M F j) l.length (by omega) (fun i => ¬ mhas M (rd l i) = true)
  (evUp 0 fun k _ => by rw [a1a.l0, if_neg (by omega)])
  (fun i i0 i1 h => evUp 0 fun k _ => by rw [a1a.l0, if_pos (by omega), if_pos i0, if_pos (by omega), a5n.f, Option.bind_some, if_pos (by rw [Bool.not_eq_true] at h; rw [h]; rfl)])
  (fun i r i0 i1 h ⟨K, hK⟩ => evUp K fun k hk => by rw [a1a.l0, if_pos (by omega), if_pos i0, if_pos (by omega), a5n.f, Option.bind_some, if_neg (by rw [Classical.not_not.1 h]; decide), w64 (by omega) (by omega)]; exact hK k hk)
 refine ⟨decide (r ≥ 0), ⟨K, fun k hk => ?_⟩, a9c hr⟩
 dsimp only at hK ⊢
 unfold a2p.f a1a.f
 rw [hK k hk, Option.bind_some]
theorem c0q (j : List S51) (t : List S58) (hb : bdP j t) (F : List (Int × Int)) (hF : F = frM t) :
  ((∀ i : Int, 0 ≤ i → i < j.length → joOk j t i) ∧ Ev (fun k => a1h.l1 k j t 0 j (j.length : Int) 0 ([] : List (Int × Int)) F j) (decide (t.length ≤ 20 ∧ j.length ≤ 60), atM j, F)) ∨
  ((¬ ∀ i : Int, 0 ≤ i → i < j.length → joOk j t i) ∧ ∃ A B, Ev (fun k => a1h.l1 k j t 0 j (j.length : Int) 0 ([] : List (Int × Int)) F j) (false, A, B)) := by
 obtain ⟨b1, b2, b3, b4⟩ := hb
 have hhas : ∀ k, mhas F k = true ↔ ∃ n : Int, 0 ≤ n ∧ n < t.length ∧ (a2a t n).f0 = k := fun k => by rw [hF]; exact b0k (tid t) t.length k
 rcases b2q (fun i k => a1h.l1 k j t (a9w j i) j (j.length : Int) i (idM (jid j) i.toNat) F j) j.length (by omega) (joOk j t) (fun _ => (false, ([] : List (Int × Int)), ([] : List (Int × Int)))) (decide (t.length ≤ 20 ∧ j.length ≤ 60), atM j, F)
  (fun _ => evUp 0 fun k _ => by
   rw [a1h.l1, if_neg (by omega)]
   unfold atM
   rw [Int.toNat_natCast]
   by_cases c : (t.length : Int) ≤ 20
   ·rw [if_pos c]
    congr 2
    exact decide_eq_decide.2 (by omega)
   ·rw [if_neg c]
    congr 2
    exact (decide_eq_false (by omega)).symm)
  (fun i i0 i1 hp hg => by
   have hlast : ¬ (a0a j i).f0 ≤ a9w j i → 1 ≤ (a0a j i).f0 ∧ (0 < i → (a0a j (i - 1)).f0 < (a0a j i).f0) := fun h => by
    unfold a9w jid at h
    by_cases p : 0 < i
    ·rw [if_pos p] at h
     have := (hp (i - 1) (by omega) (by omega)).1
     exact ⟨by omega, fun _ => by omega⟩
    ·rw [if_neg p] at h
     exact ⟨by omega, fun q => absurd q p⟩
   obtain ⟨ba, bb⟩ := b3 i i0 i1
   obtain ⟨w1, ⟨K1, h1⟩, e1⟩ := a8s (a0a j i).f4 (by omega) 1 64
   obtain ⟨w2, ⟨K2, h2⟩, e2⟩ := a8s (a0a j i).f3 (by omega) 1 1000
   obtain ⟨w3, ⟨K3, h3⟩, e3⟩ := b3q (a0a j i).f3 (by omega) j (idM (jid j) i.toNat) (a4t t F)
   dsimp only at h1 h2 h3
   refine evUp (K1 + K2 + K3 + 2) fun k hk => ?_
   obtain ⟨k, rfl⟩ : ∃ q, k = q + 2 := ⟨k - 2, by omega⟩
   rw [a1h.l1, if_pos (by omega), if_pos i0, if_pos (by omega)]
   have hj3 : ∀ x, a1h.j3 (k + 2) j t i j (j.length : Int) i true x F j (a0a j i).f0 (a0a j i).f1 (a0a j i).f2 (a0a j i).f3 (a0a j i).f4 = some (false, [], []) := fun x => by rw [a1h.j3, if_pos rfl]
   by_cases c1 : (a0a j i).f0 ≤ a9w j i
   ·rw [if_pos c1, hj3]
   rw [if_neg c1]
   by_cases c2 : (a0a j i).f0 > 1000
   ·rw [if_pos c2, hj3]
   rw [if_neg c2]
   by_cases c3 : (a0a j i).f2 < 1
   ·rw [if_pos c3, hj3]
   rw [if_neg c3]
   by_cases c4 : (a0a j i).f2 > 100
   ·rw [if_pos c4, hj3]
   rw [if_neg c4]
   by_cases c5 : (((a0a j i).f4).length : Int) > 8
   ·rw [if_pos c5, hj3]
   rw [if_neg c5, h1 _ (by omega), Option.bind_some]
   by_cases c6 : w1 = true
   ·rw [if_pos c6, h2 _ (by omega), Option.bind_some]
    by_cases c7 : w2 = true
    ·rw [c7]
     show a1h.j3 (k + 1 + 1) j t i j (j.length : Int) i false _ _ _ _ _ _ _ _ = _
     rw [a1h.j3, if_neg (by decide)]
     by_cases c8 : mhas F (a0a j i).f1 = true
     ·rw [if_pos c8, h3 _ (by omega), Option.bind_some]
      by_cases c9 : w3 = true
      ·rw [if_pos c9]
      ·refine absurd ?_ hg
       obtain ⟨g1, g2⟩ := hlast c1
       refine ⟨g1, by omega, g2, by omega, by omega, by omega, e1.1 c6, e2.1 c7, (hhas _).1 c8, fun a a0 a1 => ?_⟩
       have := fun h => c9 (e3.2 h)
       have hm : mhas (idM (jid j) i.toNat) (rd (a0a j i).f3 a) = true := Classical.not_not.1 fun h => this ⟨a, a0, a1, h⟩
       rw [b0k, Int.toNat_of_nonneg i0] at hm
       exact hm
     ·rw [if_neg c8]
    ·rw [Bool.not_eq_true] at c7
     rw [c7]
     exact hj3 _
   ·rw [if_neg c6, hj3])
  (fun i r i0 i1 hp hg ⟨K, hK⟩ => by
   obtain ⟨g1, g2, g3, g4, g5, g6, g7, g8, g9, g10⟩ := hg
   obtain ⟨ba, bb⟩ := b3 i i0 i1
   obtain ⟨w1, ⟨K1, h1⟩, e1⟩ := a8s (a0a j i).f4 (by omega) 1 64
   obtain ⟨w2, ⟨K2, h2⟩, e2⟩ := a8s (a0a j i).f3 (by omega) 1 1000
   obtain ⟨w3, ⟨K3, h3⟩, e3⟩ := b3q (a0a j i).f3 (by omega) j (idM (jid j) i.toNat) (a4t t F)
   dsimp only at h1 h2 h3 hK
   refine evUp (K1 + K2 + K3 + K + 2) fun k hk => ?_
   obtain ⟨k, rfl⟩ : ∃ q, k = q + 2 := ⟨k - 2, by omega⟩
   have hn : ¬ (a0a j i).f0 ≤ a9w j i := by
    unfold a9w jid
    by_cases p : 0 < i
    ·rw [if_pos p]; have := g3 p; omega
    ·rw [if_neg p]; omega
   have hw3 : ¬ w3 = true := fun h => by
    obtain ⟨a, a0, a1, h⟩ := e3.1 h
    refine h ?_
    rw [b0k, Int.toNat_of_nonneg i0]
    exact g10 a a0 a1
   rw [a1h.l1, if_pos (by omega), if_pos i0, if_pos (by omega), if_neg hn, if_neg (by omega), if_neg (by omega), if_neg (by omega), if_neg (by omega), h1 _ (by omega), Option.bind_some, if_pos (e1.2 g7), h2 _ (by omega), Option.bind_some, e2.2 g8]
   show a1h.j3 (k + 1 + 1) j t i j (j.length : Int) i false _ _ _ _ _ _ _ _ = _
   rw [a1h.j3, if_neg (by decide), if_pos ((hhas _).2 g9), h3 _ (by omega), Option.bind_some, if_neg hw3, w64 (by omega) (by omega)]
   have e : mput (idM (jid j) i.toNat) (a0a j i).f0 i = idM (jid j) (i + 1).toNat := by
    refine b6f (jid j) i0 fun a a0 a1 => ?_
    refine a8c (g := jid j) (n := i + 1) (fun q q0 q1 q2 => ?_) a0 a1 (by omega)
    by_cases d : q = i
    ·rw [d]; exact g3 (by omega)
    ·exact (hp q q0 (by omega)).2.2.1 q2
   rw [e]
   have e2 : a9w j (i + 1) = (a0a j i).f0 := by
    unfold a9w
    rw [if_pos (by omega), show i + 1 - 1 = i by omega]
    rfl
   have := hK (k + 1) (by omega)
   rw [e2] at this
   exact this) with ⟨h1, h2⟩ | ⟨i, h1, h2, h3, h4, h5⟩
 ·exact .inl ⟨h1, h2⟩
 ·exact .inr ⟨fun h => h3 (h i h1 h2), _, _, h5⟩
theorem b4l (j : List S51) (t : List S58) (hb : bdP j t) : (vaP j t ∧ Ev (fun k => a4x.f k j t) (true, atM j, a4t t (frM t))) ∨ (¬ vaP j t ∧ ∃ A B, Ev (fun k => a4x.f k j t) (false, A, B)) := by
 have up : ∀ b A B, Ev (fun k => a1h.f k j t) (b, A, B) → Ev (fun k => a4x.f k j t) (b, A, a4t t B) := fun b A B ⟨K, hK⟩ => ⟨K, fun k hk => by
  dsimp only at hK ⊢
  unfold a4x.f
  rw [hK k hk, Option.bind_some]⟩
 have hb' := hb
 obtain ⟨b1, b2, b3, b4⟩ := hb
 have jobs := c0q j t hb' (frM t) rfl
 have tr : ∀ (e : Bool × List (Int × Int) × List (Int × Int)), ((∀ i : Int, 0 ≤ i → i < t.length → trOk t i) → Ev (fun k => a1h.l1 k j t 0 j (j.length : Int) 0 ([] : List (Int × Int)) (frM t) j) e) →
   ((∀ i : Int, 0 ≤ i → i < t.length → trOk t i) ∧ Ev (fun k => a1h.f k j t) e) ∨ ((¬ ∀ i : Int, 0 ≤ i → i < t.length → trOk t i) ∧ Ev (fun k => a1h.f k j t) (false, [], [])) := fun e he => by
  rcases b2q (fun i k => a1h.l0 k j t (lastT t i) t (t.length : Int) i ([] : List (Int × Int)) (idM (tid t) i.toNat) j) t.length (by omega) (trOk t) (fun _ => (false, ([] : List (Int × Int)), ([] : List (Int × Int)))) e
   (fun h => by
    obtain ⟨K, hK⟩ := he h
    exact evUp K fun k hk => by
     rw [a1h.l0, if_neg (by omega)]
     have := hK k hk
     unfold frM at this
     rw [Int.toNat_natCast]
     exact this)
   (fun i i0 i1 hp hg => by
    obtain ⟨s, ⟨K, hK⟩, es⟩ := a9n (a2a t i).f1 (by have := b4 i i0 i1; omega)
    dsimp only at hK
    refine evUp (K + 1) fun k hk => ?_
    obtain ⟨k, rfl⟩ : ∃ q, k = q + 1 := ⟨k - 1, by omega⟩
    rw [a1h.l0, if_pos (by omega), if_pos i0, if_pos (by omega)]
    have hj1 : a1h.j1 (k + 1) j t t (t.length : Int) i true ([] : List (Int × Int)) (idM (tid t) i.toNat) j (a2a t i).f0 (a2a t i).f1 = some (false, [], []) := by rw [a1h.j1, if_pos rfl]
    by_cases c1 : (a2a t i).f0 ≤ lastT t i
    ·rw [if_pos c1, hj1]
    rw [if_neg c1]
    by_cases c2 : (a2a t i).f0 > 1000
    ·rw [if_pos c2, hj1]
    rw [if_neg c2, hK _ (by omega), Option.bind_some]
    by_cases c3 : s = true
    ·refine absurd ⟨es.1 c3, ?_, by omega, ?_⟩ hg
     ·unfold lastT tid at c1
      by_cases p : 0 < i
      ·rw [if_pos p] at c1
       have := (hp (i - 1) (by omega) (by omega)).2.1
       omega
      ·rw [if_neg p] at c1; omega
     ·intro p
      unfold lastT tid at c1
      rw [if_pos p] at c1
      omega
    ·rw [Bool.not_eq_true] at c3
     rw [c3]
     exact hj1)
   (fun i r i0 i1 hp hg ⟨K, hK⟩ => by
    obtain ⟨g1, g2, g3, g4⟩ := hg
    obtain ⟨s, ⟨K1, h1⟩, es⟩ := a9n (a2a t i).f1 (by have := b4 i i0 i1; omega)
    dsimp only at hK h1
    refine evUp (K + K1 + 1) fun k hk => ?_
    obtain ⟨k, rfl⟩ : ∃ q, k = q + 1 := ⟨k - 1, by omega⟩
    have hn : ¬ (a2a t i).f0 ≤ lastT t i := by
     unfold lastT tid
     by_cases p : 0 < i
     ·rw [if_pos p]; have := g4 p; omega
     ·rw [if_neg p]; omega
    rw [a1h.l0, if_pos (by omega), if_pos i0, if_pos (by omega), if_neg hn, if_neg (by omega), h1 _ (by omega), Option.bind_some, es.2 g1]
    show a1h.j1 (k + 1) j t t (t.length : Int) i false _ _ _ _ _ = _
    rw [a1h.j1, if_neg (by decide), w64 (by omega) (by omega)]
    have e : mput (idM (tid t) i.toNat) (a2a t i).f0 i = idM (tid t) (i + 1).toNat := by
     refine b6f (tid t) i0 fun a a0 a1 => ?_
     refine a8c (g := tid t) (n := i + 1) (fun q q0 q1 q2 => ?_) a0 a1 (by omega)
     by_cases d : q = i
     ·rw [d]; exact g4 (by omega)
     ·exact (hp q q0 (by omega)).2.2.2 q2
    rw [e]
    have e2 : lastT t (i + 1) = (a2a t i).f0 := by
     unfold lastT
     rw [if_pos (by omega), show i + 1 - 1 = i by omega]
     rfl
    have := hK k (by omega)
    rw [e2] at this
    exact this) with ⟨h1, h2⟩ | ⟨i, h1, h2, h3, h4, h5⟩
  ·exact .inl ⟨h1, h2⟩
  ·exact .inr ⟨fun h => h3 (h i h1 h2), h5⟩
 rcases jobs with ⟨hj, he⟩ | ⟨hj, A, B, he⟩
 ·rcases tr _ (fun _ => he) with ⟨ht, h⟩ | ⟨ht, h⟩
  ·by_cases c : t.length ≤ 20 ∧ j.length ≤ 60
   ·rw [decide_eq_true c] at h
    exact .inl ⟨⟨c.1, c.2, ht, hj⟩, up _ _ _ h⟩
   ·rw [decide_eq_false c] at h
    exact .inr ⟨fun hv => c ⟨hv.1, hv.2.1⟩, _, _, up _ _ _ h⟩
  ·exact .inr ⟨fun hv => ht hv.2.2.1, _, _, up _ _ _ h⟩
 ·rcases tr _ (fun _ => he) with ⟨ht, h⟩ | ⟨ht, h⟩
  ·exact .inr ⟨fun hv => hj hv.2.2.2, _, _, up _ _ _ h⟩
  ·exact .inr ⟨fun hv => hj hv.2.2.2, _, _, up _ _ _ h⟩
end Go.Proofs.Ytheibjkjmkanoaa.Wk
/- The slot of a job: what works and its reference plan is the first day that is free and that no fixed slot in the way has. Conditions: as_ each theorem states. -/
namespace Go.Proofs.Ytheibjkjmkanoaa.Wk
open Go.RowKit Go.Proofs.YtheibjkjmkanoaaW.PrintWords Go.Proofs.YtheibjkjmkanoaaW.PrintMore Go.Proofs.Ytheibjkjmkanoaa.Given Go.Proofs.Ytheibjkjmkanoaa.Px
set_option linter.unusedVariables false
set_option linter.unusedSimpArgs false
def clA (j : List S51) (i a b : Int) (f : List S42) (k : Int) : Prop := 0 < (a0b f k).f2 ∧ (a0b f k).f1 < b ∧ a < (a0b f k).f2 ∧ k ≠ i ∧ wayP (a0a j i) (a0a j k)
def clP (j : List S51) (i a b : Int) (f : List S42) : Prop := ∃ k : Int, 0 ≤ k ∧ k < f.length ∧ clA j i a b f k
def idP (j : List S51) (f : List S42) : Prop := ∀ k : Int, 0 ≤ k → k < f.length → 0 < (a0b f k).f2 → (a0b f k).f0 = jid j k
theorem b6g {j : List S51} {t : List S58} (hv : vaP j t) {a b : Int} (a0 : 0 ≤ a) (ab : a < b) (b1 : b < j.length) : jid j a < jid j b :=
 a8c (g := jid j) (n := j.length) (fun q q0 q1 q2 => (hv.2.2.2 q q0 q1).2.2.1 q2) a0 ab b1
theorem a8d {j : List S51} {t : List S58} (hv : vaP j t) {a b : Int} (a0 : 0 ≤ a) (a1 : a < j.length) (b0 : 0 ≤ b) (b1 : b < j.length) (e : jid j a = jid j b) : a = b := by
 by_cases c : a < b
 ·have := b6g hv a0 c b1; omega
 ·by_cases d : b < a
  ·have := b6g hv b0 d a1; omega
  ·omega
theorem b3r {j : List S51} {t : List S58} (hv : vaP j t) {n : Int} (n0 : 0 ≤ n) (n1 : n < j.length) : a2h (atM j) (jid j n) = n :=
 b7q (jid j) j.length n n0 n1 fun q q0 q1 e => by have := a8d hv q0 (by omega) n0 n1 e; omega
theorem b0m {j : List S51} {t : List S58} (hv : vaP j t) {i : Int} (i0 : 0 ≤ i) (i1 : i < j.length) : ((a0a j i).f4.length : Int) ≤ 8 ∧ (j.length : Int) ≤ 60 := by
 have := (hv.2.2.2 i i0 i1).2.2.2.2.2.1
 have := hv.2.1
 omega
theorem c0r {j : List S51} {t : List S58} (hv : vaP j t) {i : Int} (i0 : 0 ≤ i) (i1 : i < j.length) (a b : Int) (f : List S42) (hf : f.length ≤ j.length) (hid : idP j f) (F : List (Int × List S56)) {k : Int} (k0 : 0 ≤ k) (k1 : k < f.length) :
  ∃ r, Ev (fun q => a1w.f q (a0b f k).f0 (a0b f k).f1 (a0b f k).f2 (jid j i) a b j (atM j) F i) r ∧ (r = true ↔ clA j i a b f k) := by
 unfold a1w.f clA
 by_cases c1 : (a0b f k).f2 > 0
 ·have e := hid k k0 k1 c1
  have e2 : a2h (atM j) (a0b f k).f0 = k := by rw [e]; exact b3r hv k0 (by omega)
  by_cases c2 : (a0b f k).f1 < b
  ·by_cases c3 : a < (a0b f k).f2
   ·by_cases c4 : (a0b f k).f0 = jid j i
    ·refine ⟨false, a8z fun q => by rw [if_pos c1, if_pos c2, if_pos c3, if_pos c4], fun h => by simp at h, fun h => absurd ?_ h.2.2.2.1⟩
     rw [e] at c4
     exact a8d hv k0 (by omega) i0 i1 c4
    ·obtain ⟨w, ⟨K, hK⟩, hw⟩ := c4o (a0a j i) (a0a j k) (by have := b0m hv i0 i1; omega) (by have := b0m hv k0 (by omega : k < (j.length : Int)); omega)
     refine ⟨w, ⟨K, fun q hq => ?_⟩, hw.trans ⟨fun h => ⟨c1, c2, c3, fun h2 => c4 (by rw [e, h2]), h⟩, fun h => h.2.2.2.2⟩⟩
     dsimp only at hK ⊢
     rw [if_pos c1, if_pos c2, if_pos c3, if_neg c4, if_pos i0, if_pos i1, e2, if_pos k0, if_pos (by omega), hK q hq, Option.bind_some]
   ·exact ⟨false, a8z fun q => by rw [if_pos c1, if_pos c2, if_neg c3], fun h => by simp at h, fun h => absurd h.2.2.1 c3⟩
  ·exact ⟨false, a8z fun q => by rw [if_pos c1, if_neg c2], fun h => by simp at h, fun h => absurd h.2.1 c2⟩
 ·exact ⟨false, a8z fun q => by rw [if_neg c1], fun h => by simp at h, fun h => absurd h.1 c1⟩
theorem b0z {j : List S51} {t : List S58} (hv : vaP j t) {i : Int} (i0 : 0 ≤ i) (i1 : i < j.length) (a b : Int) (f : List S42) (hf : f.length ≤ j.length) (hid : idP j f) (F : List (Int × List S56)) :
  (¬ clP j i a b f ∧ Ev (fun q => a3d.f q j (atM j) F i (jid j i) a b f) (0, 0, 0, false)) ∨
  (∃ k : Int, 0 ≤ k ∧ k < f.length ∧ clA j i a b f k ∧ Ev (fun q => a3d.f q j (atM j) F i (jid j i) a b f) ((a0b f k).f0, (a0b f k).f1, (a0b f k).f2, true)) := by
 have hj := hv.2.1
 obtain ⟨r, ⟨K, hK⟩, hr⟩ := a7t (fun k q => a1f.l0 q f (f.length : Int) k (atM j) F (jid j i) a b j i) f.length (by omega) (fun k => clA j i a b f k)
  (evUp 0 fun q _ => by rw [a1f.l0, if_neg (by omega)])
  (fun k k0 k1 h => by
   obtain ⟨r, ⟨K, hK⟩, hr⟩ := c0r hv i0 i1 a b f hf hid F k0 k1
   dsimp only at hK
   exact evUp K fun q hq => by rw [a1f.l0, if_pos (by omega), if_pos k0, if_pos (by omega), hK q hq, Option.bind_some, if_pos (hr.2 h)])
  (fun k r2 k0 k1 h ⟨K2, hK2⟩ => by
   obtain ⟨r, ⟨K, hK⟩, hr⟩ := c0r hv i0 i1 a b f hf hid F k0 k1
   dsimp only at hK hK2
   exact evUp (K + K2) fun q hq => by
    rw [a1f.l0, if_pos (by omega), if_pos k0, if_pos (by omega), hK q (by omega), Option.bind_some, if_neg (fun e => h (hr.1 e)), w64 (by omega) (by omega)]
    exact hK2 q (by omega))
 dsimp only at hK
 rcases hr with ⟨rfl, hr⟩ | ⟨h1, h2, h3, _⟩
 ·refine .inl ⟨fun ⟨k, k0, k1, h⟩ => hr k k0 k1 h, K, fun q hq => ?_⟩
  dsimp only
  unfold a3d.f a1f.f
  rw [hK q hq, Option.bind_some, if_pos (by decide)]
 ·refine .inr ⟨r, h1, h2, h3, K, fun q hq => ?_⟩
  dsimp only
  unfold a3d.f a1f.f
  rw [hK q hq, Option.bind_some, if_neg (by omega), if_pos h1, if_pos h2]
theorem b6h {j : List S51} {t : List S58} (hv : vaP j t) {i : Int} (i0 : 0 ≤ i) (i1 : i < j.length) (a b : Int) (f : List S42) (hf : f.length ≤ j.length) :
  ∃ r, Ev (fun q => a0o.f q j i a b f) r ∧ (r = true ↔ clP j i a b f) := by
 have hj := hv.2.1
 refine b0w (fun k q => a0o.l0 q j i a b f k) f.length (by omega) (fun k => clA j i a b f k)
  (evUp 0 fun q _ => by rw [a0o.l0, if_neg (by omega)])
  (fun k k0 k1 h => by
   obtain ⟨h1, h2, h3, h4, h5⟩ := h
   obtain ⟨w, ⟨K, hK⟩, hw⟩ := b5a (a0a j i) (a0a j k) (by have := b0m hv i0 i1; omega) (by have := b0m hv k0 (by omega : k < (j.length : Int)); omega)
   dsimp only at hK
   refine evUp (K + 1) fun q hq => ?_
   obtain ⟨q, rfl⟩ : ∃ z, q = z + 1 := ⟨q - 1, by omega⟩
   rw [a0o.l0, if_pos (by omega), if_neg h4, if_pos k0, if_pos h1, if_pos h2, decide_eq_true h3, a0o.j1, if_pos rfl, if_pos i0, if_pos i1, if_pos k0, if_pos (by omega), hK q (by omega), Option.bind_some, if_pos (hw.2 h5)])
  (fun k r k0 k1 h ⟨K2, hK2⟩ => by
   obtain ⟨w, ⟨K, hK⟩, hw⟩ := b5a (a0a j i) (a0a j k) (by have := b0m hv i0 i1; omega) (by have := b0m hv k0 (by omega : k < (j.length : Int)); omega)
   dsimp only at hK hK2
   refine evUp (K + K2 + 1) fun q hq => ?_
   obtain ⟨q, rfl⟩ : ∃ z, q = z + 1 := ⟨q - 1, by omega⟩
   have hno : a0o.j1 (q + 1) j i a b f k false = some r := by
    rw [a0o.j1, if_neg (by decide), w64 (by omega) (by omega)]
    exact hK2 q (by omega)
   rw [a0o.l0, if_pos (by omega)]
   by_cases c4 : k = i
   ·rw [if_pos c4]; exact hno
   rw [if_neg c4, if_pos k0]
   by_cases c1 : (a0b f k).f2 > 0
   ·rw [if_pos c1]
    by_cases c2 : (a0b f k).f1 < b
    ·rw [if_pos c2]
     by_cases c3 : a < (a0b f k).f2
     ·rw [decide_eq_true c3, a0o.j1, if_pos rfl, if_pos i0, if_pos i1, if_pos k0, if_pos (by omega), hK q (by omega), Option.bind_some, if_neg (fun e => h ⟨c1, c2, c3, c4, hw.1 e⟩), w64 (by omega) (by omega)]
      exact hK2 q (by omega)
     ·rw [decide_eq_false c3]; exact hno
    ·rw [if_neg c2]; exact hno
   ·rw [if_neg c1]; exact hno)
def a9a (j : List S51) (F : List S56) (i d : Int) (f : List S42) (s : Int) : Prop := suP F s (s + d) ∧ ¬ clP j i s (s + d) f
def plS (j : List S51) (F : List S56) (i d low : Int) (f : List S42) : Option Int → Prop
 | some s => low ≤ s ∧ a9a j F i d f s ∧ ∀ q, low ≤ q → q < s → ¬ a9a j F i d f q
 | none => ∀ q, low ≤ q → ¬ a9a j F i d f q
theorem c3s {j F i d low f} {a b : Option Int} (ha : plS j F i d low f a) (hb : plS j F i d low f b) : a = b := by
 cases a with
 | none =>
  cases b with
  | none => rfl
  | some y => exact absurd hb.2.1 (ha y hb.1)
 | some x =>
  cases b with
  | none => exact absurd ha.2.1 (hb x ha.1)
  | some y =>
   by_cases c : x < y
   ·exact absurd ha.2.1 (hb.2.2 x ha.1 c)
   ·by_cases d : y < x
    ·exact absurd hb.2.1 (ha.2.2 y hb.1 d)
    ·rw [show x = y by omega]
open Classical in
noncomputable def b1a (j : List S51) (F : List S56) (i d low : Int) (f : List S42) : Option Int := if h : ∃ r, plS j F i d low f r then Classical.choose h else none
theorem b6i {j F i d low f} {r : Option Int} (h : plS j F i d low f r) : b1a j F i d low f = r := by
 unfold b1a
 rw [dif_pos ⟨r, h⟩]
 exact c3s (Classical.choose_spec ⟨r, h⟩) h
def encP (id d : Int) : Option Int → Int × Int × Int × Bool
 | some s => (id, s, s + d, true)
 | none => (0, 0, 0, false)
def fxP (j : List S51) (f : List S42) : Prop := idP j f ∧ ∀ k : Int, 0 ≤ k → k < f.length → (a0b f k).f2 ≤ 36525
theorem c3t {F : List S56} (hF : spV F) {a b : Int} (a0 : 0 ≤ a) (ab : a < b) (b1 : b < F.length) : (a0h F a).f0 < (a0h F b).f0 :=
 a8c (g := fun i => (a0h F i).f0) (n := F.length) (fun q q0 q1 q2 => by
  have h1 := (hF.1 q q0 q1).2 q2
  have h2 := (hF.1 (q - 1) (by omega) (by omega)).1.2.1
  show (a0h F (q - 1)).f0 < (a0h F q).f0
  omega) a0 ab b1
theorem c2q {F : List S56} (hF : spV F) {a b : Int} (h : suP F a b) : 0 ≤ a ∧ b ≤ 36525 := by
 obtain ⟨p, p0, p1, h1, h2⟩ := h
 have := (hF.1 p p0 p1).1
 unfold stP at this
 omega
theorem c3u {j : List S51} {t : List S58} (hv : vaP j t) {i : Int} (i0 : 0 ≤ i) (i1 : i < j.length) {F : List S56} (hF : spV F) {d : Int} (d1 : 1 ≤ d) (d2 : d ≤ 100) (f : List S42) (hf : f.length ≤ j.length) (hx : fxP j f) (low : Int) (M : List (Int × List S56)) (x1 : Int) (x3 x4 : List Int) :
  ∀ (n : Nat) (m day : Int), 0 ≤ m → m + n = F.length → 0 ≤ day → day ≤ 36525 → low ≤ day → (∀ s, low ≤ s → a9a j F i d f s → day ≤ s ∧ ∀ p : Int, 0 ≤ p → p < m → ¬ ((a0h F p).f0 ≤ s ∧ s + d ≤ (a0h F p).f1)) →
  ∃ r, plS j F i d low f r ∧ Ev (fun k => a1j.l1 k i day f F (F.length : Int) m (atM j) M j (jid j i) x1 d x3 x4) (encP (jid j i) d r) := by
 intro n
 induction n with
 | zero =>
  intro m day m0 hm day0 day1 hlow hinv
  refine ⟨none, fun q hq hg => ?_, evUp 0 fun k _ => by rw [a1j.l1, if_neg (by omega)]; rfl⟩
  obtain ⟨p, p0, p1, h1, h2⟩ := hg.1
  exact (hinv q hq hg).2 p p0 (by omega) ⟨h1, h2⟩
 | succ n ih =>
  intro m day m0 hm day0 day1 hlow hinv
  have hst := (hF.1 m m0 (by omega)).1
  have hl := hF.2
  unfold stP at hst
  have inner : ∀ (z : Nat) (y : Int), ((a0h F m).f1 - y).toNat ≤ z → 0 ≤ y → y ≤ 36525 → low ≤ y → (a0h F m).f0 ≤ y → (∀ s, low ≤ s → a9a j F i d f s → y ≤ s ∧ ∀ p : Int, 0 ≤ p → p < m → ¬ ((a0h F p).f0 ≤ s ∧ s + d ≤ (a0h F p).f1)) →
    ∃ r, plS j F i d low f r ∧ Ev (fun k => a1j.l2 k i y f F (F.length : Int) m (atM j) M j (jid j i) x1 d x3 x4 (a0h F m).f0 (a0h F m).f1) (encP (jid j i) d r) := by
   intro z
   induction z with
   | zero =>
    intro y hz y0 y1 hly hfy hi
    obtain ⟨r, hr, K, hK⟩ := ih (m + 1) y (by omega) (by omega) y0 y1 hly (fun s hs hg => by
     obtain ⟨h1, h2⟩ := hi s hs hg
     refine ⟨h1, fun p p0 p1 => ?_⟩
     by_cases e : p = m
     ·rw [e]; omega
     ·exact h2 p p0 (by omega))
    dsimp only at hK
    refine ⟨r, hr, evUp K fun k hk => ?_⟩
    rw [a1j.l2, w64 (by omega) (by omega), if_neg (by omega), w64 (by omega) (by omega)]
    exact hK k hk
   | succ z ihz =>
    intro y hz y0 y1 hly hfy hi
    by_cases c : y + d ≤ (a0h F m).f1
    ·rcases b0z hv i0 i1 y (y + d) f hf hx.1 M with ⟨hno, K, hK⟩ | ⟨k, k0, k1, hh, K, hK⟩
     ·dsimp only at hK
      refine ⟨some y, ⟨hly, ⟨⟨m, m0, by omega, hfy, c⟩, hno⟩, fun q hq1 hq2 hg => by have := (hi q hq1 hg).1; omega⟩, evUp K fun k hk => ?_⟩
      rw [a1j.l2, w64 (by omega) (by omega), if_pos c, hK k hk, Option.bind_some, if_neg (by decide)]
      rfl
     ·have hh' := hh
      obtain ⟨h1, h2, h3, h4, h5⟩ := hh
      have hb := hx.2 k k0 k1
      have hi2 : ∀ s, low ≤ s → a9a j F i d f s → (a0b f k).f2 ≤ s ∧ ∀ p : Int, 0 ≤ p → p < m → ¬ ((a0h F p).f0 ≤ s ∧ s + d ≤ (a0h F p).f1) := fun s hs hg => by
       obtain ⟨g1, g2⟩ := hi s hs hg
       refine ⟨?_, g2⟩
       by_cases q : (a0b f k).f2 ≤ s
       ·exact q
       ·exact absurd ⟨k, k0, k1, h1, by omega, by omega, h4, h5⟩ hg.2
      dsimp only at hK
      by_cases e : (a0b f k).f2 ≥ (a0h F m).f1
      ·obtain ⟨r, hr, K2, hK2⟩ := ih (m + 1) (a0b f k).f2 (by omega) (by omega) (by omega) hb (by omega) (fun s hs hg => by
        obtain ⟨g1, g2⟩ := hi2 s hs hg
        refine ⟨g1, fun p p0 p1 => ?_⟩
        by_cases e : p = m
        ·rw [e]; omega
        ·exact g2 p p0 (by omega))
       dsimp only at hK2
       refine ⟨r, hr, evUp (K + K2) fun q hq => ?_⟩
       rw [a1j.l2, w64 (by omega) (by omega), if_pos c, hK q (by omega), Option.bind_some, if_pos rfl]
       show (if (a0b f k).f2 ≥ _ then _ else _) = _
       rw [if_pos e, w64 (by omega) (by omega)]
       exact hK2 q (by omega)
      ·obtain ⟨r, hr, K2, hK2⟩ := ihz (a0b f k).f2 (by omega) (by omega) hb (by omega) (by omega) hi2
       dsimp only at hK2
       refine ⟨r, hr, evUp (K + K2) fun q hq => ?_⟩
       rw [a1j.l2, w64 (by omega) (by omega), if_pos c, hK q (by omega), Option.bind_some, if_pos rfl]
       show (if (a0b f k).f2 ≥ _ then _ else _) = _
       rw [if_neg e]
       exact hK2 q (by omega)
    ·obtain ⟨r, hr, K, hK⟩ := ih (m + 1) y (by omega) (by omega) y0 y1 hly (fun s hs hg => by
      obtain ⟨h1, h2⟩ := hi s hs hg
      refine ⟨h1, fun p p0 p1 => ?_⟩
      by_cases e : p = m
      ·rw [e]; omega
      ·exact h2 p p0 (by omega))
     dsimp only at hK
     refine ⟨r, hr, evUp K fun k hk => ?_⟩
     rw [a1j.l2, w64 (by omega) (by omega), if_neg c, w64 (by omega) (by omega)]
     exact hK k hk
  have hmx : mx day (a0h F m).f0 = if day < (a0h F m).f0 then (a0h F m).f0 else day := rfl
  obtain ⟨r, hr, K, hK⟩ := inner ((a0h F m).f1 - mx day (a0h F m).f0).toNat (mx day (a0h F m).f0) (Nat.le_refl _) (by rw [hmx]; split <;> omega) (by rw [hmx]; split <;> omega) (by rw [hmx]; split <;> omega) (by rw [hmx]; split <;> omega)
   (fun s hs hg => by
    obtain ⟨g1, g2⟩ := hinv s hs hg
    refine ⟨?_, g2⟩
    obtain ⟨p, p0, p1, h1, h2⟩ := hg.1
    have hp : m ≤ p := by
     by_cases q : m ≤ p
     ·exact q
     ·exact absurd ⟨h1, h2⟩ (g2 p p0 (by omega))
    have h3 : (a0h F m).f0 ≤ (a0h F p).f0 := by
     by_cases q : m = p
     ·rw [q]; exact Int.le_refl _
     ·exact Int.le_of_lt (c3t hF m0 (by omega) p1)
    rw [hmx]
    split <;> omega)
  dsimp only at hK
  refine ⟨r, hr, evUp K fun k hk => ?_⟩
  rw [a1j.l1, if_pos (by omega), if_pos m0, if_pos (by omega)]
  exact hK k hk
def lowN (j : List S51) (f : List S42) (l : List Int) (day : Int) : Nat → Int
 | 0 => day
 | n + 1 => mx (lowN j f l day n) (a0b f (a2h (atM j) (rd l (n : Int)))).f2
def lowF (j : List S51) (f : List S42) (i day : Int) : Int := lowN j f (a0a j i).f3 day (a0a j i).f3.length
theorem c0s {j : List S51} {f : List S42} {l : List Int} {day : Int} (h1 : 0 ≤ day) (h2 : day ≤ 36525) (hf : ∀ k : Int, 0 ≤ k → k < f.length → (a0b f k).f2 ≤ 36525) : ∀ n : Nat, (∀ q : Int, 0 ≤ q → q < n → 0 ≤ a2h (atM j) (rd l q) ∧ a2h (atM j) (rd l q) < f.length) →
  day ≤ lowN j f l day n ∧ lowN j f l day n ≤ 36525 ∧ ∀ q : Int, 0 ≤ q → q < n → (a0b f (a2h (atM j) (rd l q))).f2 ≤ lowN j f l day n
 | 0, _ => ⟨Int.le_refl _, h2, fun q a b => by omega⟩
 | n + 1, h => by
  obtain ⟨a, b, c⟩ := c0s (l := l) h1 h2 hf n fun q a b => h q a (by omega)
  obtain ⟨d, e⟩ := h n (by omega) (by omega)
  have g := hf _ d e
  have m : lowN j f l day (n + 1) = if lowN j f l day n < (a0b f (a2h (atM j) (rd l (n : Int)))).f2 then (a0b f (a2h (atM j) (rd l (n : Int)))).f2 else lowN j f l day n := rfl
  rw [m]
  refine ⟨by split <;> omega, by split <;> omega, fun q q0 q1 => ?_⟩
  by_cases z : q = n
  ·rw [z]; split <;> omega
  ·have := c q q0 (by omega); split <;> omega
theorem after_at {j : List S51} {t : List S58} (hv : vaP j t) {i : Int} (i0 : 0 ≤ i) (i1 : i < j.length) {a : Int} (a0 : 0 ≤ a) (a1 : a < (a0a j i).f3.length) :
  0 ≤ a2h (atM j) (rd (a0a j i).f3 a) ∧ a2h (atM j) (rd (a0a j i).f3 a) < i ∧ jid j (a2h (atM j) (rd (a0a j i).f3 a)) = rd (a0a j i).f3 a := by
 obtain ⟨n, n0, n1, e⟩ := (hv.2.2.2 i i0 i1).2.2.2.2.2.2.2.2.2 a a0 a1
 have := b3r hv n0 (show n < (j.length : Int) by omega)
 unfold jid at this ⊢
 rw [← e, this]
 exact ⟨n0, n1, rfl⟩
theorem c2r {j : List S51} {t : List S58} (hv : vaP j t) {i : Int} (i0 : 0 ≤ i) (i1 : i < j.length) {f : List S42} (hf : f.length = j.length) (hx : ∀ k : Int, 0 ≤ k → k < f.length → (a0b f k).f2 ≤ 36525) {day : Int} (h1 : 0 ≤ day) (h2 : day ≤ 36525) :
  day ≤ lowF j f i day ∧ lowF j f i day ≤ 36525 ∧ ∀ a : Int, 0 ≤ a → a < (a0a j i).f3.length → (a0b f (a2h (atM j) (rd (a0a j i).f3 a))).f2 ≤ lowF j f i day :=
 c0s h1 h2 hx _ fun q q0 q1 => by
  obtain ⟨a, b, _⟩ := after_at hv i0 i1 q0 q1
  exact ⟨a, by omega⟩
def a5p (t : List S58) (id : Int) : List S56 := a4b (a4t t (frM t)) id
theorem b7s {j : List S51} {t : List S58} (hv : vaP j t) {a b : Int} (a0 : 0 ≤ a) (a1 : a < t.length) (b0 : 0 ≤ b) (b1 : b < t.length) (e : tid t a = tid t b) : a = b := by
 have rise : ∀ {a b : Int}, 0 ≤ a → a < b → b < t.length → tid t a < tid t b := fun a0 ab b1 => a8c (g := tid t) (n := t.length) (fun q q0 q1 q2 => (hv.2.2.1 q q0 q1).2.2.2 q2) a0 ab b1
 by_cases c : a < b
 ·have := rise a0 c b1; omega
 ·by_cases d : b < a
  ·have := rise b0 d a1; omega
  ·omega
theorem c1t {j : List S51} {t : List S58} (hv : vaP j t) {n : Int} (n0 : 0 ≤ n) (n1 : n < t.length) : a5p t (tid t n) = (a2a t n).f1 := by
 unfold a5p a4b
 rw [b7l]
 unfold frM
 have e := b7q (tid t) t.length n n0 n1 fun q q0 q1 e => by have := b7s hv q0 (by omega) n0 n1 e; omega
 unfold a2h at e
 rcases a9o (tid t) (tid t n) t.length with ⟨h1, h2⟩ | ⟨q, h1, h2, h3, h4⟩
 ·have := h2 n.toNat (by omega)
  rw [Int.toNat_of_nonneg n0] at this
  exact absurd rfl this
 ·rw [h3] at e ⊢
  have e' : (q : Int) = n := e
  show (a2a t (q : Int)).f1 = _
  rw [e']
theorem a8e {j : List S51} {t : List S58} (hv : vaP j t) {i : Int} (i0 : 0 ≤ i) (i1 : i < j.length) : spV (a5p t (a0a j i).f1) ∧ Ev (fun k => a1v.f k t (a0a j i).f1) (a5p t (a0a j i).f1, true) := by
 obtain ⟨n, n0, n1, e⟩ := (hv.2.2.2 i i0 i1).2.2.2.2.2.2.2.2.1
 have h := c1t hv n0 n1
 unfold tid at h
 rw [e] at h
 rw [h]
 refine ⟨(hv.2.2.1 n n0 n1).1, ?_⟩
 have hl := hv.1
 obtain ⟨l, b, hev, hh⟩ := b4k t (by omega) (a0a j i).f1
 rcases hh with ⟨_, _, h3⟩ | ⟨rfl, m, m0, m1, h4, rfl, h5⟩
 ·exact absurd e (h3 n n0 n1)
 ·have : m = n := b7s hv m0 m1 n0 n1 (by unfold tid; rw [h4, e])
  rw [this] at hev
  exact hev
theorem b7t {j : List S51} {t : List S58} (hv : vaP j t) {i : Int} (i0 : 0 ≤ i) (i1 : i < j.length) (f : List S42) (hf : f.length = j.length) (hx : fxP j f) {day : Int} (h1 : 0 ≤ day) (h2 : day ≤ 36525) (hal : ((a0a j i).f3.length : Int) ≤ 1000000) :
  plS j (a5p t (a0a j i).f1) i (a0a j i).f2 (lowF j f i day) f (b1a j (a5p t (a0a j i).f1) i (a0a j i).f2 (lowF j f i day) f) ∧
  Ev (fun k => a1j.f k j (atM j) (a4t t (frM t)) i day f) (encP (jid j i) (a0a j i).f2 (b1a j (a5p t (a0a j i).f1) i (a0a j i).f2 (lowF j f i day) f)) := by
 obtain ⟨g1, g2, g3, g4, g5, g6, g7, g8, g9, g10⟩ := hv.2.2.2 i i0 i1
 obtain ⟨lb1, lb2, _⟩ := c2r hv i0 i1 hf hx.2 h1 h2
 obtain ⟨hF, _⟩ := a8e hv i0 i1
 obtain ⟨r, hr, K, hK⟩ := c3u hv i0 i1 hF g4 g5 f (by omega) hx (lowF j f i day) (a4t t (frM t)) (a0a j i).f1 (a0a j i).f3 (a0a j i).f4 (a5p t (a0a j i).f1).length 0 (lowF j f i day) (by omega) (by omega) (by omega) lb2 (Int.le_refl _) (fun s hs hg => ⟨hs, fun p a b => by omega⟩)
 rw [b6i hr]
 refine ⟨hr, ?_⟩
 have loop : ∀ (n : Nat) (m : Int), 0 ≤ m → m + n = (a0a j i).f3.length → Ev (fun k => a1j.l0 k i (lowN j f (a0a j i).f3 day m.toNat) f (a0a j i).f3 ((a0a j i).f3.length : Int) m (atM j) (a4t t (frM t)) j (jid j i) (a0a j i).f1 (a0a j i).f2 (a0a j i).f3 (a0a j i).f4) (encP (jid j i) (a0a j i).f2 r) := by
  intro n
  induction n with
  | zero =>
   intro m m0 hm
   dsimp only at hK
   refine evUp K fun k hk => ?_
   rw [a1j.l0, if_neg (by omega), show m.toNat = (a0a j i).f3.length by omega]
   exact hK k hk
  | succ n ih =>
   intro m m0 hm
   obtain ⟨K2, hK2⟩ := ih (m + 1) (by omega) (by omega)
   dsimp only at hK2
   obtain ⟨a1, a2, _⟩ := after_at hv i0 i1 m0 (show m < ((a0a j i).f3.length : Int) by omega)
   refine evUp K2 fun k hk => ?_
   rw [a1j.l0, if_pos (by omega), if_pos m0, if_pos (by omega), if_pos a1, if_pos (by omega), w64 (by omega) (by omega)]
   have := hK2 k hk
   rw [show (m + 1).toNat = m.toNat + 1 by omega, lowN, Int.toNat_of_nonneg m0] at this
   exact this
 obtain ⟨K2, hK2⟩ := loop (a0a j i).f3.length 0 (by omega) (by omega)
 refine ⟨K2, fun k hk => ?_⟩
 dsimp only at hK2 ⊢
 unfold a1j.f
 rw [if_pos i0, if_pos i1]
 exact hK2 k hk
end Go.Proofs.Ytheibjkjmkanoaa.Wk
