/- Words that the kit's print.sh printed, in a copy without what is not used. Conditions: as_ each theorem states. -/
import Derived.Test.YtheibjkjmkanoaaWkA
import Derived.Test.YtheibjkjmkanoaaPx20
import Derived.Test.YtheibjkjmkanoaaPx6
import Derived.Test.YtheibjkjmkanoaaGOpen
import Derived.Test.YtheibjkjmkanoaaPx5
namespace Go.Proofs.Ytheibjkjmkanoaa.Wk
open Go.RowKit Go.Proofs.YtheibjkjmkanoaaW.PrintWords Go.Proofs.Ytheibjkjmkanoaa.Given Go.Proofs.Ytheibjkjmkanoaa.Px
set_option linter.unusedVariables false
set_option linter.unusedSimpArgs false
set_option maxRecDepth 100000 in
theorem c0v : Ev (fun k => a0f.f k) true := Ev.of (fun k => a0f.mono k) (k := 100) (by decide +kernel)
end Go.Proofs.Ytheibjkjmkanoaa.Wk
/- Which jobs and trades are valid, and what works.open fills: the trades by their numbers, the jobs by theirs. Conditions: as_ each theorem states. -/
namespace Go.Proofs.Ytheibjkjmkanoaa.Wk
open Go.RowKit Go.Proofs.YtheibjkjmkanoaaW.PrintWords Go.Proofs.YtheibjkjmkanoaaW.PrintMore Go.Proofs.Ytheibjkjmkanoaa.Given Go.Proofs.Ytheibjkjmkanoaa.Px
set_option linter.unusedVariables false
set_option linter.unusedSimpArgs false
theorem b1e {α : Type} (L : Int → Nat → Option α) (n : Int) (n0 : 0 ≤ n) (good : Int → Prop) (f : Int → α) (e : α) (hend : (∀ i, 0 ≤ i → i < n → good i) → Ev (L n) e)
  (hno : ∀ i, 0 ≤ i → i < n → (∀ j, 0 ≤ j → j < i → good j) → ¬ good i → Ev (L i) (f i)) (hyes : ∀ i r, 0 ≤ i → i < n → (∀ j, 0 ≤ j → j < i → good j) → good i → Ev (L (i + 1)) r → Ev (L i) r) :
  ((∀ i, 0 ≤ i → i < n → good i) ∧ Ev (L 0) e) ∨ (∃ i, 0 ≤ i ∧ i < n ∧ ¬ good i ∧ (∀ j, 0 ≤ j → j < i → good j) ∧ Ev (L 0) (f i)) := by
 have main : ∀ (m : Nat) (i : Int), 0 ≤ i → i + m = n → (∀ j, 0 ≤ j → j < i → good j) → ((∀ j, 0 ≤ j → j < n → good j) ∧ Ev (L i) e) ∨ (∃ t, i ≤ t ∧ t < n ∧ ¬ good t ∧ (∀ j, 0 ≤ j → j < t → good j) ∧ Ev (L i) (f t)) := by
  intro m
  induction m with
  | zero =>
   intro i i0 hi hp
   obtain rfl : i = n := by omega
   exact .inl ⟨hp, hend hp⟩
  | succ m ih =>
   intro i i0 hi hp
   by_cases c : good i
   ·have hp2 : ∀ j, 0 ≤ j → j < i + 1 → good j := fun j a b => by
     by_cases d : j = i
     ·rw [d]; exact c
     ·exact hp j a (by omega)
    rcases ih (i + 1) (by omega) (by omega) hp2 with ⟨h1, h2⟩ | ⟨t, h1, h2, h3, h4, h5⟩
    ·exact .inl ⟨h1, hyes i _ i0 (by omega) hp c h2⟩
    ·exact .inr ⟨t, by omega, h2, h3, h4, hyes i _ i0 (by omega) hp c h5⟩
   ·exact .inr ⟨i, by omega, by omega, c, hp, hno i i0 (by omega) hp c⟩
 rcases main n.toNat 0 (by omega) (by omega) (fun j a b => by omega) with h | ⟨t, h1, h2, h3, h4, h5⟩
 ·exact .inl h
 ·exact .inr ⟨t, h1, h2, h3, h4, h5⟩
def idM (g : Int → Int) (m : Nat) : List (Int × Int) := (List.range m).map fun n : Nat => (g (n : Int), (n : Int))
theorem b3p {α : Type} (k : Int) : ∀ (A B : List (Int × α)), a3i (A ++ B) k = match a3i A k with | some v => some v | none => a3i B k
 | [], B => rfl
 | p :: t, B => by
  show (if p.1 = k then some p.2 else a3i (t ++ B) k) = _
  rw [b3p k t B]
  by_cases c : p.1 = k
  ·rw [if_pos c]; unfold a3i; rw [if_pos c]
  ·rw [if_neg c]
   have e : a3i (p :: t) k = a3i t k := by rw [a3i, if_neg c]
   rw [e]
theorem b3q {α : Type} (k : Int) (v : α) : ∀ A : List (Int × α), a3i A k = none → mput A k v = A ++ [(k, v)]
 | [], _ => rfl
 | p :: t, h => by
  rw [a3i] at h
  by_cases c : p.1 = k
  ·rw [if_pos c] at h; simp at h
  ·rw [if_neg c] at h
   rw [mput, if_neg c, b3q k v t h]
   rfl
theorem b4s (g : Int → Int) (m : Nat) : idM g (m + 1) = idM g m ++ [(g m, (m : Int))] := by
 unfold idM
 rw [List.range_succ, List.map_append]
 rfl
theorem a8q (g : Int → Int) (k : Int) : ∀ m : Nat, (a3i (idM g m) k = none ∧ ∀ n : Nat, n < m → g n ≠ k) ∨ (∃ n : Nat, n < m ∧ g n = k ∧ a3i (idM g m) k = some (n : Int) ∧ ∀ q : Nat, q < n → g q ≠ k)
 | 0 => .inl ⟨rfl, fun n h => by omega⟩
 | m + 1 => by
  rw [b4s, b3p]
  rcases a8q g k m with ⟨h1, h2⟩ | ⟨n, h1, h2, h3, h4⟩
  ·rw [h1]
   by_cases c : g m = k
   ·refine .inr ⟨m, by omega, c, ?_, h2⟩
    show a3i [(g m, (m : Int))] k = _
    rw [a3i, if_pos c]
   ·refine .inl ⟨?_, fun n hn => ?_⟩
    ·show a3i [(g m, (m : Int))] k = _
     rw [a3i, if_neg c]
     rfl
    ·by_cases e : n = m
     ·rw [e]; exact c
     ·exact h2 n (by omega)
  ·rw [h3]
   exact .inr ⟨n, by omega, h2, rfl, h4⟩
theorem c0w (g : Int → Int) (m : Nat) (h : ∀ n : Nat, n < m → g n ≠ g m) : mput (idM g m) (g m) (m : Int) = idM g (m + 1) := by
 rw [b4s]
 rcases a8q g (g m) m with ⟨h1, _⟩ | ⟨n, h1, h2, _⟩
 ·exact b3q _ _ _ h1
 ·exact absurd h2 (h n h1)
theorem b3c (g : Int → Int) (m : Nat) (k : Int) : mhas (idM g m) k = true ↔ ∃ n : Int, 0 ≤ n ∧ n < m ∧ g n = k := by
 unfold mhas
 rcases a8q g k m with ⟨h1, h2⟩ | ⟨n, h1, h2, h3, _⟩
 ·rw [h1]
  refine ⟨fun h => by simp at h, fun ⟨n, a, b, c⟩ => absurd c ?_⟩
  have := h2 n.toNat (by omega)
  rwa [Int.toNat_of_nonneg a] at this
 ·rw [h3]
  exact ⟨fun _ => ⟨n, by omega, by omega, h2⟩, fun _ => rfl⟩
theorem b5t (g : Int → Int) (m : Nat) (n : Int) (n0 : 0 ≤ n) (n1 : n < m) (hd : ∀ q : Int, 0 ≤ q → q < n → g q ≠ g n) : a1z (idM g m) (g n) = n := by
 unfold a1z
 rcases a8q g (g n) m with ⟨h1, h2⟩ | ⟨q, h1, h2, h3, h4⟩
 ·have := h2 n.toNat (by omega)
  rw [Int.toNat_of_nonneg n0] at this
  exact absurd rfl this
 ·rw [h3]
  show (q : Int) = n
  by_cases c : (q : Int) < n
  ·exact absurd h2 (hd q (by omega) c)
  ·by_cases d : n.toNat < q
   ·have := h4 n.toNat d
    rw [Int.toNat_of_nonneg n0] at this
    exact absurd rfl this
   ·omega
def trOk (t : List S58) (i : Int) : Prop := spV (a1l t i).f1 ∧ 1 ≤ (a1l t i).f0 ∧ (a1l t i).f0 ≤ 1000 ∧ (0 < i → (a1l t (i - 1)).f0 < (a1l t i).f0)
def joOk (j : List S51) (t : List S58) (i : Int) : Prop :=
 1 ≤ (a0a j i).f0 ∧ (a0a j i).f0 ≤ 1000 ∧ (0 < i → (a0a j (i - 1)).f0 < (a0a j i).f0) ∧ 1 ≤ (a0a j i).f2 ∧ (a0a j i).f2 ≤ 100 ∧ (a0a j i).f4.length ≤ 8 ∧
 riP (a0a j i).f4 1 64 ∧ riP (a0a j i).f3 1 1000 ∧ (∃ n : Int, 0 ≤ n ∧ n < t.length ∧ (a1l t n).f0 = (a0a j i).f1) ∧
 ∀ a : Int, 0 ≤ a → a < (a0a j i).f3.length → ∃ n : Int, 0 ≤ n ∧ n < i ∧ (a0a j n).f0 = rd (a0a j i).f3 a
def vaP (j : List S51) (t : List S58) : Prop := t.length ≤ 20 ∧ j.length ≤ 60 ∧ (∀ i : Int, 0 ≤ i → i < t.length → trOk t i) ∧ ∀ i : Int, 0 ≤ i → i < j.length → joOk j t i
def bdP (j : List S51) (t : List S58) : Prop := (j.length : Int) ≤ 1000000 ∧ (t.length : Int) ≤ 1000000 ∧ (∀ i : Int, 0 ≤ i → i < j.length → ((a0a j i).f3.length : Int) ≤ 1000000 ∧ ((a0a j i).f4.length : Int) ≤ 1000000) ∧
 ∀ i : Int, 0 ≤ i → i < t.length → ((a1l t i).f1.length : Int) ≤ 1000000
theorem b8g {j : List S51} {t : List S58} (h : feP j t) : bdP j t := by
 obtain ⟨h1, h2, h3, h4⟩ := h
 exact ⟨by omega, by omega, fun i a b => by have := h3 i a b; omega, fun i a b => by have := h4 i a b; omega⟩
theorem b5u (g : Int → Int) (n : Int) (h : ∀ i, 0 ≤ i → i < n → 0 < i → g (i - 1) < g i) : ∀ (m : Nat) (a : Int), 0 ≤ a → a + m + 1 < n → g a < g (a + m + 1)
 | 0, a, a0, h1 => by
  have := h (a + 1) (by omega) (by omega) (by omega)
  rw [show a + 1 - 1 = a by omega] at this
  rw [show a + (0 : Nat) + 1 = a + 1 by omega]
  exact this
 | m + 1, a, a0, h1 => by
  have h2 := b5u g n h m a a0 (by omega)
  have := h (a + (m + 1 : Nat) + 1) (by omega) (by omega) (by omega)
  rw [show a + (m + 1 : Nat) + 1 - 1 = a + m + 1 by omega] at this
  omega
theorem a8r {g : Int → Int} {n : Int} (h : ∀ i, 0 ≤ i → i < n → 0 < i → g (i - 1) < g i) {a b : Int} (a0 : 0 ≤ a) (ab : a < b) (bn : b < n) : g a < g b := by
 have := b5u g n h (b - a - 1).toNat a a0 (by omega)
 rwa [show a + ((b - a - 1).toNat : Int) + 1 = b by omega] at this
def jid (j : List S51) (i : Int) : Int := (a0a j i).f0
def tid (t : List S58) (i : Int) : Int := (a1l t i).f0
def atM (j : List S51) : List (Int × Int) := idM (jid j) j.length
def frM (t : List S58) : List (Int × Int) := idM (tid t) t.length
def lastT (t : List S58) (i : Int) : Int := if 0 < i then tid t (i - 1) else 0
def a8z (j : List S51) (i : Int) : Int := if 0 < i then jid j (i - 1) else 0
theorem b4t (g : Int → Int) {i : Int} (i0 : 0 ≤ i) (h : ∀ a : Int, 0 ≤ a → a < i → g a < g i) : mput (idM g i.toNat) (g i) i = idM g (i + 1).toNat := by
 have e := c0w g i.toNat fun n hn => by
  rw [Int.toNat_of_nonneg i0]
  have := h n (by omega) (by omega)
  omega
 rw [Int.toNat_of_nonneg i0] at e
 rw [e, show (i + 1).toNat = i.toNat + 1 by omega]
theorem b2g (l : List Int) (hl : (l.length : Int) ≤ 1000000) (j : List S51) (M : List (Int × Int)) (F : List (Int × List S56)) : ∃ b, Ev (fun k => a1w.f k l j M F) b ∧ (b = true ↔ ∃ a : Int, 0 ≤ a ∧ a < l.length ∧ ¬ mhas M (rd l a) = true) := by
 obtain ⟨r, ⟨K, hK⟩, hr⟩ := a7t (fun i k => a0n.l0 k l (l.length : Int) i M F j) l.length (by omega) (fun i => ¬ mhas M (rd l i) = true)
  (evUp 0 fun k _ => by rw [a0n.l0, if_neg (by omega)])
  (fun i i0 i1 h => evUp 0 fun k _ => by rw [a0n.l0, if_pos (by omega), if_pos i0, if_pos (by omega), a5h.f, Option.bind_some, if_pos (by rw [Bool.not_eq_true] at h; rw [h]; rfl)])
  (fun i r i0 i1 h ⟨K, hK⟩ => evUp K fun k hk => by rw [a0n.l0, if_pos (by omega), if_pos i0, if_pos (by omega), a5h.f, Option.bind_some, if_neg (by rw [Classical.not_not.1 h]; decide), w64 (by omega) (by omega)]; exact hK k hk)
 refine ⟨decide (r ≥ 0), ⟨K, fun k hk => ?_⟩, a9f hr⟩
 dsimp only at hK ⊢
 unfold a1w.f a0n.f
 rw [hK k hk, Option.bind_some]
theorem b8h (j : List S51) (t : List S58) (hb : bdP j t) (F : List (Int × Int)) (hF : F = frM t) :
  ((∀ i : Int, 0 ≤ i → i < j.length → joOk j t i) ∧ Ev (fun k => a0q.l1 k j t 0 j (j.length : Int) 0 ([] : List (Int × Int)) F j) (decide (t.length ≤ 20 ∧ j.length ≤ 60), atM j, F)) ∨
  ((¬ ∀ i : Int, 0 ≤ i → i < j.length → joOk j t i) ∧ ∃ A B, Ev (fun k => a0q.l1 k j t 0 j (j.length : Int) 0 ([] : List (Int × Int)) F j) (false, A, B)) := by
 obtain ⟨b1, b2, b3, b4⟩ := hb
 have hhas : ∀ k, mhas F k = true ↔ ∃ n : Int, 0 ≤ n ∧ n < t.length ∧ (a1l t n).f0 = k := fun k => by rw [hF]; exact b3c (tid t) t.length k
 rcases b1e (fun i k => a0q.l1 k j t (a8z j i) j (j.length : Int) i (idM (jid j) i.toNat) F j) j.length (by omega) (joOk j t) (fun _ => (false, ([] : List (Int × Int)), ([] : List (Int × Int)))) (decide (t.length ≤ 20 ∧ j.length ≤ 60), atM j, F)
  (fun _ => evUp 0 fun k _ => by
   rw [a0q.l1, if_neg (by omega)]
   unfold atM
   rw [Int.toNat_natCast]
   by_cases c : (t.length : Int) ≤ 20
   ·rw [if_pos c]
    congr 2
    exact decide_eq_decide.2 (by omega)
   ·rw [if_neg c]
    congr 2
    exact (decide_eq_false (by omega)).symm)
  (fun i i0 i1 hp hg => by
   have hlast : ¬ (a0a j i).f0 ≤ a8z j i → 1 ≤ (a0a j i).f0 ∧ (0 < i → (a0a j (i - 1)).f0 < (a0a j i).f0) := fun h => by
    unfold a8z jid at h
    by_cases p : 0 < i
    ·rw [if_pos p] at h
     have := (hp (i - 1) (by omega) (by omega)).1
     exact ⟨by omega, fun _ => by omega⟩
    ·rw [if_neg p] at h
     exact ⟨by omega, fun q => absurd q p⟩
   obtain ⟨ba, bb⟩ := b3 i i0 i1
   obtain ⟨w1, ⟨K1, h1⟩, e1⟩ := a8x (a0a j i).f4 (by omega) 1 64
   obtain ⟨w2, ⟨K2, h2⟩, e2⟩ := a8x (a0a j i).f3 (by omega) 1 1000
   obtain ⟨w3, ⟨K3, h3⟩, e3⟩ := b2g (a0a j i).f3 (by omega) j (idM (jid j) i.toNat) (a4s t F)
   dsimp only at h1 h2 h3
   refine evUp (K1 + K2 + K3 + 2) fun k hk => ?_
   obtain ⟨k, rfl⟩ : ∃ q, k = q + 2 := ⟨k - 2, by omega⟩
   rw [a0q.l1, if_pos (by omega), if_pos i0, if_pos (by omega)]
   have hj3 : ∀ x, a0q.j3 (k + 2) j t i j (j.length : Int) i true x F j (a0a j i).f0 (a0a j i).f1 (a0a j i).f2 (a0a j i).f3 (a0a j i).f4 = some (false, [], []) := fun x => by rw [a0q.j3, if_pos rfl]
   by_cases c1 : (a0a j i).f0 ≤ a8z j i
   ·rw [if_pos c1, hj3]
   rw [if_neg c1]
   by_cases c2 : (a0a j i).f0 > 1000
   ·rw [if_pos c2, hj3]
   rw [if_neg c2]
   by_cases c3 : (a0a j i).f2 < 1
   ·rw [if_pos c3, hj3]
   rw [if_neg c3]
   by_cases c4 : (a0a j i).f2 > 100
   ·rw [if_pos c4, hj3]
   rw [if_neg c4]
   by_cases c5 : (((a0a j i).f4).length : Int) > 8
   ·rw [if_pos c5, hj3]
   rw [if_neg c5, h1 _ (by omega), Option.bind_some]
   by_cases c6 : w1 = true
   ·rw [if_pos c6, h2 _ (by omega), Option.bind_some]
    by_cases c7 : w2 = true
    ·rw [c7]
     show a0q.j3 (k + 1 + 1) j t i j (j.length : Int) i false _ _ _ _ _ _ _ _ = _
     rw [a0q.j3, if_neg (by decide)]
     by_cases c8 : mhas F (a0a j i).f1 = true
     ·rw [if_pos c8, h3 _ (by omega), Option.bind_some]
      by_cases c9 : w3 = true
      ·rw [if_pos c9]
      ·refine absurd ?_ hg
       obtain ⟨g1, g2⟩ := hlast c1
       refine ⟨g1, by omega, g2, by omega, by omega, by omega, e1.1 c6, e2.1 c7, (hhas _).1 c8, fun a a0 a1 => ?_⟩
       have := fun h => c9 (e3.2 h)
       have hm : mhas (idM (jid j) i.toNat) (rd (a0a j i).f3 a) = true := Classical.not_not.1 fun h => this ⟨a, a0, a1, h⟩
       rw [b3c, Int.toNat_of_nonneg i0] at hm
       exact hm
     ·rw [if_neg c8]
    ·rw [Bool.not_eq_true] at c7
     rw [c7]
     exact hj3 _
   ·rw [if_neg c6, hj3])
  (fun i r i0 i1 hp hg ⟨K, hK⟩ => by
   obtain ⟨g1, g2, g3, g4, g5, g6, g7, g8, g9, g10⟩ := hg
   obtain ⟨ba, bb⟩ := b3 i i0 i1
   obtain ⟨w1, ⟨K1, h1⟩, e1⟩ := a8x (a0a j i).f4 (by omega) 1 64
   obtain ⟨w2, ⟨K2, h2⟩, e2⟩ := a8x (a0a j i).f3 (by omega) 1 1000
   obtain ⟨w3, ⟨K3, h3⟩, e3⟩ := b2g (a0a j i).f3 (by omega) j (idM (jid j) i.toNat) (a4s t F)
   dsimp only at h1 h2 h3 hK
   refine evUp (K1 + K2 + K3 + K + 2) fun k hk => ?_
   obtain ⟨k, rfl⟩ : ∃ q, k = q + 2 := ⟨k - 2, by omega⟩
   have hn : ¬ (a0a j i).f0 ≤ a8z j i := by
    unfold a8z jid
    by_cases p : 0 < i
    ·rw [if_pos p]; have := g3 p; omega
    ·rw [if_neg p]; omega
   have hw3 : ¬ w3 = true := fun h => by
    obtain ⟨a, a0, a1, h⟩ := e3.1 h
    refine h ?_
    rw [b3c, Int.toNat_of_nonneg i0]
    exact g10 a a0 a1
   rw [a0q.l1, if_pos (by omega), if_pos i0, if_pos (by omega), if_neg hn, if_neg (by omega), if_neg (by omega), if_neg (by omega), if_neg (by omega), h1 _ (by omega), Option.bind_some, if_pos (e1.2 g7), h2 _ (by omega), Option.bind_some, e2.2 g8]
   show a0q.j3 (k + 1 + 1) j t i j (j.length : Int) i false _ _ _ _ _ _ _ _ = _
   rw [a0q.j3, if_neg (by decide), if_pos ((hhas _).2 g9), h3 _ (by omega), Option.bind_some, if_neg hw3, w64 (by omega) (by omega)]
   have e : mput (idM (jid j) i.toNat) (a0a j i).f0 i = idM (jid j) (i + 1).toNat := by
    refine b4t (jid j) i0 fun a a0 a1 => ?_
    refine a8r (g := jid j) (n := i + 1) (fun q q0 q1 q2 => ?_) a0 a1 (by omega)
    by_cases d : q = i
    ·rw [d]; exact g3 (by omega)
    ·exact (hp q q0 (by omega)).2.2.1 q2
   rw [e]
   have e2 : a8z j (i + 1) = (a0a j i).f0 := by
    unfold a8z
    rw [if_pos (by omega), show i + 1 - 1 = i by omega]
    rfl
   have := hK (k + 1) (by omega)
   rw [e2] at this
   exact this) with ⟨h1, h2⟩ | ⟨i, h1, h2, h3, h4, h5⟩
 ·exact .inl ⟨h1, h2⟩
 ·exact .inr ⟨fun h => h3 (h i h1 h2), _, _, h5⟩
theorem b5v (j : List S51) (t : List S58) (hb : bdP j t) : (vaP j t ∧ Ev (fun k => a4n.f k j t) (true, atM j, a4s t (frM t))) ∨ (¬ vaP j t ∧ ∃ A B, Ev (fun k => a4n.f k j t) (false, A, B)) := by
 have up : ∀ b A B, Ev (fun k => a0q.f k j t) (b, A, B) → Ev (fun k => a4n.f k j t) (b, A, a4s t B) := fun b A B ⟨K, hK⟩ => ⟨K, fun k hk => by
  dsimp only at hK ⊢
  unfold a4n.f
  rw [hK k hk, Option.bind_some]⟩
 have hb' := hb
 obtain ⟨b1, b2, b3, b4⟩ := hb
 have jobs := b8h j t hb' (frM t) rfl
 have tr : ∀ (e : Bool × List (Int × Int) × List (Int × Int)), ((∀ i : Int, 0 ≤ i → i < t.length → trOk t i) → Ev (fun k => a0q.l1 k j t 0 j (j.length : Int) 0 ([] : List (Int × Int)) (frM t) j) e) →
   ((∀ i : Int, 0 ≤ i → i < t.length → trOk t i) ∧ Ev (fun k => a0q.f k j t) e) ∨ ((¬ ∀ i : Int, 0 ≤ i → i < t.length → trOk t i) ∧ Ev (fun k => a0q.f k j t) (false, [], [])) := fun e he => by
  rcases b1e (fun i k => a0q.l0 k j t (lastT t i) t (t.length : Int) i ([] : List (Int × Int)) (idM (tid t) i.toNat) j) t.length (by omega) (trOk t) (fun _ => (false, ([] : List (Int × Int)), ([] : List (Int × Int)))) e
   (fun h => by
    obtain ⟨K, hK⟩ := he h
    exact evUp K fun k hk => by
     rw [a0q.l0, if_neg (by omega)]
     have := hK k hk
     unfold frM at this
     rw [Int.toNat_natCast]
     exact this)
   (fun i i0 i1 hp hg => by
    obtain ⟨s, ⟨K, hK⟩, es⟩ := b0l (a1l t i).f1 (by have := b4 i i0 i1; omega)
    dsimp only at hK
    refine evUp (K + 1) fun k hk => ?_
    obtain ⟨k, rfl⟩ : ∃ q, k = q + 1 := ⟨k - 1, by omega⟩
    rw [a0q.l0, if_pos (by omega), if_pos i0, if_pos (by omega)]
    have hj1 : a0q.j1 (k + 1) j t t (t.length : Int) i true ([] : List (Int × Int)) (idM (tid t) i.toNat) j (a1l t i).f0 (a1l t i).f1 = some (false, [], []) := by rw [a0q.j1, if_pos rfl]
    by_cases c1 : (a1l t i).f0 ≤ lastT t i
    ·rw [if_pos c1, hj1]
    rw [if_neg c1]
    by_cases c2 : (a1l t i).f0 > 1000
    ·rw [if_pos c2, hj1]
    rw [if_neg c2, hK _ (by omega), Option.bind_some]
    by_cases c3 : s = true
    ·refine absurd ⟨es.1 c3, ?_, by omega, ?_⟩ hg
     ·unfold lastT tid at c1
      by_cases p : 0 < i
      ·rw [if_pos p] at c1
       have := (hp (i - 1) (by omega) (by omega)).2.1
       omega
      ·rw [if_neg p] at c1; omega
     ·intro p
      unfold lastT tid at c1
      rw [if_pos p] at c1
      omega
    ·rw [Bool.not_eq_true] at c3
     rw [c3]
     exact hj1)
   (fun i r i0 i1 hp hg ⟨K, hK⟩ => by
    obtain ⟨g1, g2, g3, g4⟩ := hg
    obtain ⟨s, ⟨K1, h1⟩, es⟩ := b0l (a1l t i).f1 (by have := b4 i i0 i1; omega)
    dsimp only at hK h1
    refine evUp (K + K1 + 1) fun k hk => ?_
    obtain ⟨k, rfl⟩ : ∃ q, k = q + 1 := ⟨k - 1, by omega⟩
    have hn : ¬ (a1l t i).f0 ≤ lastT t i := by
     unfold lastT tid
     by_cases p : 0 < i
     ·rw [if_pos p]; have := g4 p; omega
     ·rw [if_neg p]; omega
    rw [a0q.l0, if_pos (by omega), if_pos i0, if_pos (by omega), if_neg hn, if_neg (by omega), h1 _ (by omega), Option.bind_some, es.2 g1]
    show a0q.j1 (k + 1) j t t (t.length : Int) i false _ _ _ _ _ = _
    rw [a0q.j1, if_neg (by decide), w64 (by omega) (by omega)]
    have e : mput (idM (tid t) i.toNat) (a1l t i).f0 i = idM (tid t) (i + 1).toNat := by
     refine b4t (tid t) i0 fun a a0 a1 => ?_
     refine a8r (g := tid t) (n := i + 1) (fun q q0 q1 q2 => ?_) a0 a1 (by omega)
     by_cases d : q = i
     ·rw [d]; exact g4 (by omega)
     ·exact (hp q q0 (by omega)).2.2.2 q2
    rw [e]
    have e2 : lastT t (i + 1) = (a1l t i).f0 := by
     unfold lastT
     rw [if_pos (by omega), show i + 1 - 1 = i by omega]
     rfl
    have := hK k (by omega)
    rw [e2] at this
    exact this) with ⟨h1, h2⟩ | ⟨i, h1, h2, h3, h4, h5⟩
  ·exact .inl ⟨h1, h2⟩
  ·exact .inr ⟨fun h => h3 (h i h1 h2), h5⟩
 rcases jobs with ⟨hj, he⟩ | ⟨hj, A, B, he⟩
 ·rcases tr _ (fun _ => he) with ⟨ht, h⟩ | ⟨ht, h⟩
  ·by_cases c : t.length ≤ 20 ∧ j.length ≤ 60
   ·rw [decide_eq_true c] at h
    exact .inl ⟨⟨c.1, c.2, ht, hj⟩, up _ _ _ h⟩
   ·rw [decide_eq_false c] at h
    exact .inr ⟨fun hv => c ⟨hv.1, hv.2.1⟩, _, _, up _ _ _ h⟩
  ·exact .inr ⟨fun hv => ht hv.2.2.1, _, _, up _ _ _ h⟩
 ·rcases tr _ (fun _ => he) with ⟨ht, h⟩ | ⟨ht, h⟩
  ·exact .inr ⟨fun hv => hj hv.2.2.2, _, _, up _ _ _ h⟩
  ·exact .inr ⟨fun hv => hj hv.2.2.2, _, _, up _ _ _ h⟩
end Go.Proofs.Ytheibjkjmkanoaa.Wk
