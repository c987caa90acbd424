/- Words that the kit's print.sh printed, in a copy without what is not used. Conditions: as_ each theorem states. -/
import Derived.Test.YtheibjkjmkanoaaGMap
import Derived.Test.YtheibjkjmkanoaaPx0
import Derived.Test.YtheibjkjmkanoaaPx4
import Derived.Test.YtheibjkjmkanoaaPx5
import Derived.Test.YtheibjkjmkanoaaPx7
import Derived.Test.YtheibjkjmkanoaaPx12
import Derived.Test.YtheibjkjmkanoaaPx22
import Derived.Test.YtheibjkjmkanoaaPx23
import Derived.Test.YtheibjkjmkanoaaPx21
import Derived.Test.YtheibjkjmkanoaaPx11
import Derived.Test.YtheibjkjmkanoaaPx3
namespace Go.Proofs.Ytheibjkjmkanoaa.Wk
open Go.RowKit Go.Proofs.YtheibjkjmkanoaaW.PrintWords Go.Proofs.YtheibjkjmkanoaaW.PrintMore Go.Proofs.Ytheibjkjmkanoaa.Given Go.Proofs.Ytheibjkjmkanoaa.Px
set_option linter.unusedVariables false
set_option linter.unusedSimpArgs false
theorem w64 {x : Int} (h : -9223372036854775808 ≤ x) (h2 : x ≤ 9223372036854775807) : wrap64 x = x := by unfold wrap64; omega
theorem evUp {α : Type} {g : Nat → Option α} {r : α} (K : Nat) (h : ∀ k, K ≤ k → g (k + 1) = some r) : Ev g r :=
 ⟨K + 1, fun k hk => by obtain ⟨k, rfl⟩ : ∃ j, k = j + 1 := ⟨k - 1, by omega⟩; exact h k (by omega)⟩
theorem b0u {α : Type} {g : Nat → Option α} {r : α} (h : ∀ k, g k = some r) : Ev g r := ⟨0, fun k _ => h k⟩
theorem a7p {α : Type} (L : Int → Nat → Option α) (n : Int) (n0 : 0 ≤ n) (good : Int → Prop) (f : Int → α) (e : α) (hend : Ev (L n) e)
  (hno : ∀ i, 0 ≤ i → i < n → ¬ good i → Ev (L i) (f i)) (hyes : ∀ i r, 0 ≤ i → i < n → good i → Ev (L (i + 1)) r → Ev (L i) r) :
  ((∀ i, 0 ≤ i → i < n → good i) ∧ Ev (L 0) e) ∨ (∃ i, 0 ≤ i ∧ i < n ∧ ¬ good i ∧ (∀ j, 0 ≤ j → j < i → good j) ∧ Ev (L 0) (f i)) := by
 have main : ∀ (m : Nat) (i : Int), 0 ≤ i → i + m = n → ((∀ j, i ≤ j → j < n → good j) ∧ Ev (L i) e) ∨ (∃ t, i ≤ t ∧ t < n ∧ ¬ good t ∧ (∀ j, i ≤ j → j < t → good j) ∧ Ev (L i) (f t)) := by
  intro m
  induction m with
  | zero => intro i i0 hi; exact .inl ⟨fun j a b => by omega, by rw [show i = n by omega]; exact hend⟩
  | succ m ih =>
   intro i i0 hi
   by_cases c : good i
   ·rcases ih (i + 1) (by omega) (by omega) with ⟨h1, h2⟩ | ⟨t, h1, h2, h3, h4, h5⟩
    ·refine .inl ⟨fun j a b => ?_, hyes i _ i0 (by omega) c h2⟩
     by_cases d : j = i
     ·rw [d]; exact c
     ·exact h1 j (by omega) b
    ·refine .inr ⟨t, by omega, h2, h3, fun j a b => ?_, hyes i _ i0 (by omega) c h5⟩
     by_cases d : j = i
     ·rw [d]; exact c
     ·exact h4 j (by omega) b
   ·exact .inr ⟨i, by omega, by omega, c, fun j a b => by omega, hno i i0 (by omega) c⟩
 exact main n.toNat 0 (by omega) (by omega)
theorem a6r (L : Int → Nat → Option Bool) (n : Int) (n0 : 0 ≤ n) (good : Int → Prop) (e : Bool) (hend : Ev (L n) e)
  (hno : ∀ i, 0 ≤ i → i < n → ¬ good i → Ev (L i) false) (hyes : ∀ i r, 0 ≤ i → i < n → good i → Ev (L (i + 1)) r → Ev (L i) r) :
  ∃ b, Ev (L 0) b ∧ (b = true ↔ (∀ i, 0 ≤ i → i < n → good i) ∧ e = true) := by
 rcases a7p L n n0 good (fun _ => false) e hend hno hyes with ⟨h1, h2⟩ | ⟨i, h1, h2, h3, h4, h5⟩
 ·exact ⟨e, h2, fun h => ⟨h1, h⟩, fun h => h.2⟩
 ·exact ⟨false, h5, fun h => by simp at h, fun h => absurd (h.1 i h1 h2) h3⟩
theorem a7t (L : Int → Nat → Option Int) (n : Int) (n0 : 0 ≤ n) (hit : Int → Prop) (hend : Ev (L n) (-1))
  (hyes : ∀ i, 0 ≤ i → i < n → hit i → Ev (L i) i) (hno : ∀ i r, 0 ≤ i → i < n → ¬ hit i → Ev (L (i + 1)) r → Ev (L i) r) :
  ∃ r, Ev (L 0) r ∧ ((r = -1 ∧ ∀ i, 0 ≤ i → i < n → ¬ hit i) ∨ (0 ≤ r ∧ r < n ∧ hit r ∧ ∀ i, 0 ≤ i → i < r → ¬ hit i)) := by
 rcases a7p L n n0 (fun i => ¬ hit i) (fun i => i) (-1) hend (fun i a b c => hyes i a b (Classical.not_not.1 c)) hno with ⟨h1, h2⟩ | ⟨i, h1, h2, h3, h4, h5⟩
 ·exact ⟨-1, h2, .inl ⟨rfl, h1⟩⟩
 ·exact ⟨i, h5, .inr ⟨h1, h2, Classical.not_not.1 h3, h4⟩⟩
theorem a9f {r n : Int} {hit : Int → Prop} (h : (r = -1 ∧ ∀ i, 0 ≤ i → i < n → ¬ hit i) ∨ (0 ≤ r ∧ r < n ∧ hit r ∧ ∀ i, 0 ≤ i → i < r → ¬ hit i)) : decide (r ≥ 0) = true ↔ ∃ i, 0 ≤ i ∧ i < n ∧ hit i := by
 rw [decide_eq_true_eq]
 rcases h with ⟨rfl, h⟩ | ⟨h1, h2, h3, _⟩
 ·exact ⟨fun h => by omega, fun ⟨i, a, b, c⟩ => absurd c (h i a b)⟩
 ·exact ⟨fun _ => ⟨r, h1, h2, h3⟩, fun _ => h1⟩
def stP (a b : Int) : Prop := 0 ≤ a ∧ a < b ∧ b ≤ 36525
theorem b2d (a b : Int) : ∃ t, a5b.f a b = some t ∧ (t = true ↔ stP a b) := by
 unfold a5b.f stP
 by_cases c : 0 ≤ a
 ·rw [if_pos c]
  by_cases d : a < b
  ·rw [if_pos d]; exact ⟨_, rfl, by simp; omega⟩
  ·rw [if_neg d]; exact ⟨_, rfl, by simp; omega⟩
 ·rw [if_neg c]; exact ⟨_, rfl, by simp; omega⟩
theorem b1c (a b : Int) : ∃ t, a4a.f a b = some t ∧ (t = true ↔ stP a b) := by
 unfold a4a.f stP
 by_cases c : a ≥ 0
 ·rw [if_pos c]
  by_cases d : a < b
  ·rw [if_pos d]; exact ⟨_, rfl, by simp; omega⟩
  ·rw [if_neg d]; exact ⟨_, rfl, by simp; omega⟩
 ·rw [if_neg c]; exact ⟨_, rfl, by simp; omega⟩
def spG (l : List S56) (i : Int) : Prop := stP (a0h l i).f0 (a0h l i).f1 ∧ (0 < i → (a0h l (i - 1)).f1 < (a0h l i).f0)
def spV (l : List S56) : Prop := (∀ i : Int, 0 ≤ i → i < l.length → spG l i) ∧ l.length ≤ 1000
theorem b0l (l : List S56) (hl : (l.length : Int) ≤ 9223372036854775806) : ∃ b, Ev (fun k => a1m.f k l) b ∧ (b = true ↔ spV l) := by
 have H := a6r (fun i k => a1m.l0 k l (l.length : Int) i) l.length (by omega) (spG l) (decide ((l.length : Int) ≤ 1000))
  (evUp 0 fun k _ => by rw [a1m.l0, if_neg (by omega)])
  (fun i i0 i1 hg => by
   obtain ⟨t, e, ht⟩ := b2d (a0h l i).f0 (a0h l i).f1
   refine evUp 1 fun k hk => ?_
   obtain ⟨k, rfl⟩ : ∃ j, k = j + 1 := ⟨k - 1, by omega⟩
   rw [a1m.l0, if_pos (by omega), if_pos i0, if_pos (by omega), e, Option.bind_some]
   by_cases c : t = true
   ·rw [if_pos c]
    have hn : 0 < i ∧ ¬ (a0h l (i - 1)).f1 < (a0h l i).f0 := by
     by_cases p : 0 < i
     ·exact ⟨p, fun q => hg ⟨ht.1 c, fun _ => q⟩⟩
     ·exact absurd ⟨ht.1 c, fun q => absurd q p⟩ hg
    rw [if_pos hn.1, w64 (by omega) (by omega), if_pos (by omega), if_pos (by omega), a1m.j1, decide_eq_true (by omega), if_pos rfl]
   ·rw [if_neg c, a1m.j1, if_pos rfl])
  (fun i r i0 i1 hg ⟨K, hK⟩ => by
   obtain ⟨t, e, ht⟩ := b2d (a0h l i).f0 (a0h l i).f1
   dsimp only at hK
   refine evUp (K + 1) fun k hk => ?_
   obtain ⟨k, rfl⟩ : ∃ j, k = j + 1 := ⟨k - 1, by omega⟩
   rw [a1m.l0, if_pos (by omega), if_pos i0, if_pos (by omega), e, Option.bind_some, if_pos (ht.2 hg.1)]
   have go : a1m.j1 (k + 1) l (l.length : Int) i false = some r := by
    rw [a1m.j1, if_neg (by decide), w64 (by omega) (by omega)]
    exact hK k (by omega)
   by_cases p : i > 0
   ·have := hg.2 p
    rw [if_pos p, w64 (by omega) (by omega), if_pos (by omega), if_pos (by omega), decide_eq_false (by omega)]
    exact go
   ·rw [if_neg p]
    exact go)
 obtain ⟨b, h1, h2⟩ := H
 refine ⟨b, h1, h2.trans ?_⟩
 unfold spV
 rw [decide_eq_true_eq]
 exact and_congr_right fun _ => by omega
theorem b2e (l : List S56) (hl : (l.length : Int) ≤ 9223372036854775806) : ∃ b, Ev (fun k => a0w.f k l) b ∧ (b = true ↔ spV l) := by
 have H := a6r (fun i k => a0w.l0 k l i) l.length (by omega) (spG l) (decide ((l.length : Int) ≤ 1000))
  (evUp 0 fun k _ => by rw [a0w.l0, if_neg (by omega)])
  (fun i i0 i1 hg => by
   obtain ⟨t, e, ht⟩ := b1c (a0h l i).f0 (a0h l i).f1
   refine evUp 1 fun k hk => ?_
   obtain ⟨k, rfl⟩ : ∃ j, k = j + 1 := ⟨k - 1, by omega⟩
   rw [a0w.l0, if_pos (by omega), if_pos i0, e, Option.bind_some]
   by_cases c : t = true
   ·rw [if_pos c]
    have hn : 0 < i ∧ ¬ (a0h l (i - 1)).f1 < (a0h l i).f0 := by
     by_cases p : 0 < i
     ·exact ⟨p, fun q => hg ⟨ht.1 c, fun _ => q⟩⟩
     ·exact absurd ⟨ht.1 c, fun q => absurd q p⟩ hg
    rw [if_pos hn.1, w64 (by omega) (by omega), if_pos (by omega), if_pos (by omega), a0w.j1, decide_eq_true (by omega), if_pos rfl]
   ·rw [if_neg c, a0w.j1, if_pos rfl])
  (fun i r i0 i1 hg ⟨K, hK⟩ => by
   obtain ⟨t, e, ht⟩ := b1c (a0h l i).f0 (a0h l i).f1
   dsimp only at hK
   refine evUp (K + 1) fun k hk => ?_
   obtain ⟨k, rfl⟩ : ∃ j, k = j + 1 := ⟨k - 1, by omega⟩
   rw [a0w.l0, if_pos (by omega), if_pos i0, e, Option.bind_some, if_pos (ht.2 hg.1)]
   have go : a0w.j1 (k + 1) l i false = some r := by
    rw [a0w.j1, if_neg (by decide), w64 (by omega) (by omega)]
    exact hK k (by omega)
   by_cases p : i > 0
   ·have := hg.2 p
    rw [if_pos p, w64 (by omega) (by omega), if_pos (by omega), if_pos (by omega), decide_eq_false (by omega)]
    exact go
   ·rw [if_neg p]
    exact go)
 obtain ⟨b, h1, h2⟩ := H
 refine ⟨b, h1, h2.trans ?_⟩
 unfold spV
 rw [decide_eq_true_eq]
 exact and_congr_right fun _ => by omega
def riG (l : List Int) (lo hi i : Int) : Prop := lo ≤ rd l i ∧ rd l i ≤ hi ∧ (0 < i → rd l (i - 1) < rd l i)
def riP (l : List Int) (lo hi : Int) : Prop := ∀ i : Int, 0 ≤ i → i < l.length → riG l lo hi i
theorem a8x (l : List Int) (hl : (l.length : Int) ≤ 9223372036854775806) (lo hi : Int) : ∃ b, Ev (fun k => a0x.f k l lo hi) b ∧ (b = true ↔ riP l lo hi) := by
 have H := a6r (fun i k => a0x.l0 k l lo hi l (l.length : Int) i) l.length (by omega) (riG l lo hi) true
  (evUp 0 fun k _ => by rw [a0x.l0, if_neg (by omega)])
  (fun i i0 i1 hg => by
   refine evUp 1 fun k hk => ?_
   obtain ⟨k, rfl⟩ : ∃ j, k = j + 1 := ⟨k - 1, by omega⟩
   rw [a0x.l0, if_pos (by omega), if_pos i0, if_pos (by omega)]
   by_cases c : rd l i < lo
   ·rw [if_pos c, a0x.j1, if_pos rfl]
   ·rw [if_neg c]
    by_cases d : rd l i > hi
    ·rw [if_pos d, a0x.j1, if_pos rfl]
    ·rw [if_neg d]
     have hn : 0 < i ∧ ¬ rd l (i - 1) < rd l i := by
      by_cases p : 0 < i
      ·exact ⟨p, fun q => hg ⟨by omega, by omega, fun _ => q⟩⟩
      ·exact absurd ⟨by omega, by omega, fun q => absurd q p⟩ hg
     rw [if_pos hn.1, w64 (by omega) (by omega), if_pos (by omega), if_pos (by omega), a0x.j1, decide_eq_true (by omega), if_pos rfl])
  (fun i r i0 i1 hg ⟨K, hK⟩ => by
   dsimp only at hK
   refine evUp (K + 1) fun k hk => ?_
   obtain ⟨k, rfl⟩ : ∃ j, k = j + 1 := ⟨k - 1, by omega⟩
   have go : a0x.j1 (k + 1) l lo hi l (l.length : Int) i false = some r := by
    rw [a0x.j1, if_neg (by decide), w64 (by omega) (by omega)]
    exact hK k (by omega)
   have h1 := hg.1
   have h2 := hg.2.1
   rw [a0x.l0, if_pos (by omega), if_pos i0, if_pos (by omega), if_neg (by omega), if_neg (by omega)]
   by_cases p : i > 0
   ·have := hg.2.2 p
    rw [if_pos p, w64 (by omega) (by omega), if_pos (by omega), if_pos (by omega), decide_eq_false (by omega)]
    exact go
   ·rw [if_neg p]
    exact go)
 obtain ⟨b, h1, h2⟩ := H
 exact ⟨b, h1, h2.trans ⟨fun h => h.1, fun h => ⟨h, rfl⟩⟩⟩
theorem a8y (l : List Int) (hl : (l.length : Int) ≤ 9223372036854775806) (lo hi : Int) : ∃ b, Ev (fun k => a0k.f k l lo hi) b ∧ (b = true ↔ riP l lo hi) := by
 have H := a6r (fun i k => a0k.l0 k l lo hi i) l.length (by omega) (riG l lo hi) true
  (evUp 0 fun k _ => by rw [a0k.l0, if_neg (by omega)])
  (fun i i0 i1 hg => by
   refine evUp 1 fun k hk => ?_
   obtain ⟨k, rfl⟩ : ∃ j, k = j + 1 := ⟨k - 1, by omega⟩
   rw [a0k.l0, if_pos (by omega), if_pos i0]
   by_cases c : rd l i < lo
   ·rw [if_pos c, a0k.j1, if_pos rfl]
   ·rw [if_neg c]
    by_cases d : rd l i > hi
    ·rw [if_pos d, a0k.j1, if_pos rfl]
    ·rw [if_neg d]
     have hn : 0 < i ∧ ¬ rd l (i - 1) < rd l i := by
      by_cases p : 0 < i
      ·exact ⟨p, fun q => hg ⟨by omega, by omega, fun _ => q⟩⟩
      ·exact absurd ⟨by omega, by omega, fun q => absurd q p⟩ hg
     rw [if_pos hn.1, w64 (by omega) (by omega), if_pos (by omega), if_pos (by omega), a0k.j1, decide_eq_true (by omega), if_pos rfl])
  (fun i r i0 i1 hg ⟨K, hK⟩ => by
   dsimp only at hK
   refine evUp (K + 1) fun k hk => ?_
   obtain ⟨k, rfl⟩ : ∃ j, k = j + 1 := ⟨k - 1, by omega⟩
   have go : a0k.j1 (k + 1) l lo hi i false = some r := by
    rw [a0k.j1, if_neg (by decide), w64 (by omega) (by omega)]
    exact hK k (by omega)
   have h1 := hg.1
   have h2 := hg.2.1
   rw [a0k.l0, if_pos (by omega), if_pos i0, if_neg (by omega), if_neg (by omega)]
   by_cases p : i > 0
   ·have := hg.2.2 p
    rw [if_pos p, w64 (by omega) (by omega), if_pos (by omega), if_pos (by omega), decide_eq_false (by omega)]
    exact go
   ·rw [if_neg p]
    exact go)
 obtain ⟨b, h1, h2⟩ := H
 exact ⟨b, h1, h2.trans ⟨fun h => h.1, fun h => ⟨h, rfl⟩⟩⟩
def inP (l : List Int) (a : Int) : Prop := ∃ i : Int, 0 ≤ i ∧ i < l.length ∧ rd l i = a
theorem b1d (l : List Int) (hl : (l.length : Int) ≤ 9223372036854775806) (a : Int) : ∃ b, Ev (fun k => a2b.f k l a) b ∧ (b = true ↔ inP l a) := by
 obtain ⟨r, ⟨K, hK⟩, hr⟩ := a7t (fun i k => a1r.l0 k l a (l.length : Int) i) l.length (by omega) (fun i => rd l i = a)
  (evUp 0 fun k _ => by rw [a1r.l0, if_neg (by omega)])
  (fun i i0 i1 h => evUp 0 fun k _ => by rw [a1r.l0, if_pos (by omega), if_pos i0, if_pos (by omega), if_pos h.symm])
  (fun i r i0 i1 h ⟨K, hK⟩ => evUp K fun k hk => by rw [a1r.l0, if_pos (by omega), if_pos i0, if_pos (by omega), if_neg (fun e => h e.symm), w64 (by omega) (by omega)]; exact hK k hk)
 refine ⟨decide (r ≥ 0), ⟨K, fun k hk => ?_⟩, a9f hr⟩
 dsimp only at hK ⊢
 unfold a2b.f a1r.f
 rw [hK k hk, Option.bind_some]
def comP (a b : List Int) : Prop := ∃ i : Int, 0 ≤ i ∧ i < a.length ∧ inP b (rd a i)
theorem b8d (a b : List Int) (ha : (a.length : Int) ≤ 9223372036854775806) (hb : (b.length : Int) ≤ 9223372036854775806) : ∃ t, Ev (fun k => a4i.f k a b) t ∧ (t = true ↔ comP a b) := by
 obtain ⟨r, ⟨K, hK⟩, hr⟩ := a7t (fun i k => a0i.l0 k a (a.length : Int) i b) a.length (by omega) (fun i => inP b (rd a i))
  (evUp 0 fun k _ => by rw [a0i.l0, if_neg (by omega)])
  (fun i i0 i1 h => by
   obtain ⟨t, ⟨K, hK⟩, ht⟩ := b1d b hb (rd a i)
   dsimp only at hK
   refine evUp K fun k hk => ?_
   rw [a0i.l0, if_pos (by omega), if_pos i0, if_pos (by omega), a3h.f, hK k hk, Option.bind_some, Option.bind_some, if_pos (ht.2 h)])
  (fun i r i0 i1 h ⟨K2, hK2⟩ => by
   obtain ⟨t, ⟨K, hK⟩, ht⟩ := b1d b hb (rd a i)
   dsimp only at hK hK2
   refine evUp (K + K2) fun k hk => ?_
   rw [a0i.l0, if_pos (by omega), if_pos i0, if_pos (by omega), a3h.f, hK k (by omega), Option.bind_some, Option.bind_some, if_neg (fun e => h (ht.1 e)), w64 (by omega) (by omega)]
   exact hK2 k (by omega))
 refine ⟨decide (r ≥ 0), ⟨K, fun k hk => ?_⟩, a9f hr⟩
 dsimp only at hK ⊢
 unfold a4i.f a1x.f a0i.f
 rw [hK k hk, Option.bind_some, Option.bind_some]
def wayP (a b : S51) : Prop := a.f1 = b.f1 ∨ comP a.f4 b.f4
theorem c1v (a b : S51) (ha : (a.f4.length : Int) ≤ 9223372036854775806) (hb : (b.f4.length : Int) ≤ 9223372036854775806) : ∃ t, Ev (fun k => a5p.f k a.f0 a.f1 a.f2 a.f3 a.f4 b.f0 b.f1 b.f2 b.f3 b.f4) t ∧ (t = true ↔ wayP a b) := by
 unfold a5p.f wayP
 by_cases c : a.f1 = b.f1
 ·exact ⟨true, b0u fun k => by rw [if_pos c], fun _ => .inl c, fun _ => rfl⟩
 ·obtain ⟨t, ⟨K, hK⟩, ht⟩ := b8d a.f4 b.f4 ha hb
  refine ⟨t, ⟨K, fun k hk => ?_⟩, ht.trans ⟨.inr, fun h => h.resolve_left c⟩⟩
  dsimp only at hK ⊢
  rw [if_neg c, hK k hk, Option.bind_some]
theorem b8e {a b : List Int} (h : comP a b) : comP b a := by
 obtain ⟨i, i0, i1, j, j0, j1, e⟩ := h
 exact ⟨j, j0, j1, i, i0, i1, e.symm⟩
theorem b8f {a b : S51} (h : wayP a b) : wayP b a := h.elim (fun h => .inl h.symm) (fun h => .inr (b8e h))
def maP (j : List S51) (l : List S42) : Prop := l.length = j.length ∧ ∀ i : Int, 0 ≤ i → i < j.length → (a0b l i).f0 = (a0a j i).f0
theorem b6z (j : List S51) (l : List S42) (hj : (j.length : Int) ≤ 9223372036854775806) : ∃ t, Ev (fun k => a3l.f k j l) t ∧ (t = true ↔ maP j l) := by
 unfold a3l.f a1d.f maP
 by_cases c : (j.length : Int) = (l.length : Int)
 ·obtain ⟨t, ⟨K, hK⟩, ht⟩ := a6r (fun i k => a1d.l0 k l j (j.length : Int) i) j.length (by omega) (fun i => (a0b l i).f0 = (a0a j i).f0) true
   (evUp 0 fun k _ => by rw [a1d.l0, if_neg (by omega)])
   (fun i i0 i1 h => evUp 0 fun k _ => by rw [a1d.l0, if_pos (by omega), if_pos i0, if_pos (by omega), if_pos (by omega), a5o.f, Option.bind_some, if_neg (by rw [beq_iff_eq]; exact fun e => h e.symm)])
   (fun i r i0 i1 h ⟨K, hK⟩ => evUp K fun k hk => by rw [a1d.l0, if_pos (by omega), if_pos i0, if_pos (by omega), if_pos (by omega), a5o.f, Option.bind_some, if_pos (by rw [beq_iff_eq]; exact h.symm), w64 (by omega) (by omega)]; exact hK k hk)
  refine ⟨t, ⟨K, fun k hk => ?_⟩, ht.trans ⟨fun h => ⟨by omega, h.1⟩, fun h => ⟨h.2, rfl⟩⟩⟩
  dsimp only at hK ⊢
  rw [if_pos c, hK k hk, Option.bind_some]
 ·exact ⟨false, b0u fun k => by rw [if_neg c, Option.bind_some], fun h => by simp at h, fun h => absurd h.1 (by omega)⟩
def feP (j : List S51) (t : List S58) : Prop := j.length ≤ 12 ∧ t.length ≤ 25 ∧ (∀ i : Int, 0 ≤ i → i < j.length → (a0a j i).f3.length ≤ 20 ∧ (a0a j i).f4.length ≤ 20) ∧ ∀ i : Int, 0 ≤ i → i < t.length → (a1l t i).f1.length ≤ 20
theorem c1w (j : List S51) (t : List S58) : ∃ b, Ev (fun k => a0o.f k j t) b ∧ (b = true ↔ feP j t) := by
 unfold a0o.f feP
 by_cases c : (j.length : Int) > 12
 ·exact ⟨false, evUp 0 fun k _ => by rw [if_pos c, a0o.j0, if_pos rfl], fun h => by simp at h, fun h => by omega⟩
 by_cases d : (t.length : Int) > 25
 ·exact ⟨false, evUp 0 fun k _ => by rw [if_neg c, decide_eq_true d, a0o.j0, if_pos rfl], fun h => by simp at h, fun h => by omega⟩
 obtain ⟨b1, hb1, h1⟩ := a6r (fun i k => a0o.l1 k t i) t.length (by omega) (fun i => (a1l t i).f1.length ≤ 20) true
  (evUp 0 fun k _ => by rw [a0o.l1, if_neg (by omega)])
  (fun i i0 i1 h => evUp 0 fun k _ => by rw [a0o.l1, if_pos (by omega), if_pos i0, if_pos (by omega)])
  (fun i r i0 i1 h ⟨K, hK⟩ => evUp K fun k hk => by rw [a0o.l1, if_pos (by omega), if_pos i0, if_neg (by omega), w64 (by omega) (by omega)]; exact hK k hk)
 obtain ⟨b, ⟨K, hK⟩, h2⟩ := a6r (fun i k => a0o.l0 k j t i) j.length (by omega) (fun i => (a0a j i).f3.length ≤ 20 ∧ (a0a j i).f4.length ≤ 20) b1
  (by
   obtain ⟨K, hK⟩ := hb1
   exact evUp K fun k hk => by rw [a0o.l0, if_neg (by omega)]; exact hK k hk)
  (fun i i0 i1 h => evUp 0 fun k _ => by
   rw [a0o.l0, if_pos (by omega), if_pos i0]
   by_cases e : (((a0a j i).f3).length : Int) > 20
   ·rw [if_pos e]
   ·rw [if_neg e, if_pos (by omega)])
  (fun i r i0 i1 h ⟨K, hK⟩ => evUp K fun k hk => by rw [a0o.l0, if_pos (by omega), if_pos i0, if_neg (by omega), if_neg (by omega), w64 (by omega) (by omega)]; exact hK k hk)
 refine ⟨b, evUp K fun k hk => ?_, ?_⟩
 ·dsimp only at hK
  rw [if_neg c, decide_eq_false d, a0o.j0, if_neg (by decide)]
  exact hK k hk
 ·rw [h2, h1]
  exact ⟨fun h => ⟨by omega, by omega, h.1, h.2.1⟩, fun h => ⟨h.2.2.1, h.2.2.2, rfl⟩⟩
def suP (l : List S56) (a b : Int) : Prop := ∃ i : Int, 0 ≤ i ∧ i < l.length ∧ (a0h l i).f0 ≤ a ∧ b ≤ (a0h l i).f1
theorem a9w (l : List S56) (hl : (l.length : Int) ≤ 9223372036854775806) (c a b : Int) : ∃ t, Ev (fun k => a2u.f k l c a b) t ∧ (t = true ↔ suP l a b) := by
 obtain ⟨r, ⟨K, hK⟩, hr⟩ := a7t (fun i k => a1f.l0 k l (l.length : Int) i c a b) l.length (by omega) (fun i => (a0h l i).f0 ≤ a ∧ b ≤ (a0h l i).f1)
  (evUp 0 fun k _ => by rw [a1f.l0, if_neg (by omega)])
  (fun i i0 i1 h => evUp 0 fun k _ => by rw [a1f.l0, if_pos (by omega), if_pos i0, if_pos (by omega), a5c.f, if_pos h.1, Option.bind_some, if_pos (decide_eq_true h.2)])
  (fun i r i0 i1 h ⟨K, hK⟩ => evUp K fun k hk => by
   rw [a1f.l0, if_pos (by omega), if_pos i0, if_pos (by omega), a5c.f, w64 (by omega) (by omega)]
   by_cases e : (a0h l i).f0 ≤ a
   ·rw [if_pos e, Option.bind_some, if_neg (by rw [decide_eq_true_eq]; exact fun d => h ⟨e, d⟩)]; exact hK k hk
   ·rw [if_neg e, Option.bind_some, if_neg (by decide)]; exact hK k hk)
 refine ⟨decide (r ≥ 0), ⟨K, fun k hk => ?_⟩, a9f hr⟩
 dsimp only at hK ⊢
 unfold a2u.f a1f.f
 rw [hK k hk, Option.bind_some]
theorem b3b (t : List S58) (ht : (t.length : Int) ≤ 9223372036854775806) (a : Int) : ∃ l b, Ev (fun k => a1k.f k t a) (l, b) ∧ ((b = false ∧ l = [] ∧ ∀ i : Int, 0 ≤ i → i < t.length → (a1l t i).f0 ≠ a) ∨
  (b = true ∧ ∃ i : Int, 0 ≤ i ∧ i < t.length ∧ (a1l t i).f0 = a ∧ l = (a1l t i).f1 ∧ ∀ j : Int, 0 ≤ j → j < i → (a1l t j).f0 ≠ a)) := by
 rcases a7p (fun i k => a1k.l0 k t a i) t.length (by omega) (fun i => (a1l t i).f0 ≠ a) (fun i => ((a1l t i).f1, true)) (([] : List S56), false)
  (evUp 0 fun k _ => by rw [a1k.l0, if_neg (by omega)])
  (fun i i0 i1 h => evUp 0 fun k _ => by rw [a1k.l0, if_pos (by omega), if_pos i0, if_pos (Classical.not_not.1 h)])
  (fun i r i0 i1 h ⟨K, hK⟩ => evUp K fun k hk => by rw [a1k.l0, if_pos (by omega), if_pos i0, if_neg h, w64 (by omega) (by omega)]; exact hK k hk) with ⟨h1, h2⟩ | ⟨i, h1, h2, h3, h4, h5⟩
 ·exact ⟨_, _, h2, .inl ⟨rfl, rfl, h1⟩⟩
 ·exact ⟨_, _, h5, .inr ⟨rfl, i, h1, h2, Classical.not_not.1 h3, rfl, h4⟩⟩
theorem b2f (j : List S51) (n : Int) (n0 : 0 ≤ n) (n1 : n ≤ j.length) (hj : (j.length : Int) ≤ 9223372036854775806) (id : Int) : ∃ r, Ev (fun k => a1b.f k j n id) r ∧
  ((r = -1 ∧ ∀ i : Int, 0 ≤ i → i < n → (a0a j i).f0 ≠ id) ∨ (0 ≤ r ∧ r < n ∧ (a0a j r).f0 = id ∧ ∀ i : Int, 0 ≤ i → i < r → (a0a j i).f0 ≠ id)) :=
 a7t (fun i k => a1b.l0 k j n id i) n n0 (fun i => (a0a j i).f0 = id)
  (evUp 0 fun k _ => by rw [a1b.l0, if_neg (by omega)])
  (fun i i0 i1 h => evUp 0 fun k _ => by rw [a1b.l0, if_pos (by omega), if_pos i0, if_pos (by omega), if_pos h])
  (fun i r i0 i1 h ⟨K, hK⟩ => evUp K fun k hk => by rw [a1b.l0, if_pos (by omega), if_pos i0, if_pos (by omega), if_neg h, w64 (by omega) (by omega)]; exact hK k hk)
end Go.Proofs.Ytheibjkjmkanoaa.Wk
