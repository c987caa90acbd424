/- Words that the kit's print.sh printed, in a copy without what is not used. Conditions: as_ each theorem states. -/
import Derived.Test.YtheibjkjmkanoaaWkC
import Derived.Test.YtheibjkjmkanoaaPx11
import Derived.Test.YtheibjkjmkanoaaPx14
import Derived.Test.YtheibjkjmkanoaaPx29
import Derived.Test.YtheibjkjmkanoaaPx24
import Derived.Test.YtheibjkjmkanoaaPx16
import Derived.Test.YtheibjkjmkanoaaPx30
import Derived.Test.YtheibjkjmkanoaaPx34
import Derived.Test.YtheibjkjmkanoaaPx13
import Derived.Test.YtheibjkjmkanoaaPx15
import Derived.Test.YtheibjkjmkanoaaPx23
import Derived.Test.YtheibjkjmkanoaaPx5
namespace Go.Proofs.Ytheibjkjmkanoaa.Wk
open Go.RowKit Go.Proofs.YtheibjkjmkanoaaW.PrintWords Go.Proofs.YtheibjkjmkanoaaW.PrintMore Go.Proofs.Ytheibjkjmkanoaa.Given Go.Proofs.Ytheibjkjmkanoaa.Px
set_option linter.unusedVariables false
set_option linter.unusedSimpArgs false
theorem b2j (f : List S42) {i : Int} (i0 : 0 ≤ i) (i1 : i < f.length) (v : S42) {k : Int} (k0 : 0 ≤ k) : a0b (f.set i.toNat v) k = if k = i then v else a0b f k := by
 unfold a0b
 rw [List.getD_eq_getElem?_getD, List.getD_eq_getElem?_getD, List.getElem?_set]
 by_cases c : k = i
 ·rw [if_pos c, if_pos (by rw [c]), if_pos (by omega)]
  rfl
 ·rw [if_neg c, if_neg (by omega)]
theorem a8m {n : Nat} {k : Int} : a0b (List.replicate n z42) k = z42 := by
 unfold a0b
 rw [List.getD_eq_getElem?_getD, List.getElem?_replicate]
 split <;> rfl
noncomputable def a7k (j : List S51) (t : List S58) (day : Int) : Nat → Int → List S42 → Option (List S42)
 | 0, _, f => some f
 | n + 1, i, f => if 0 < (a0b f i).f2 then a7k j t day n (i + 1) f else
   match b1a j (a5p t (a0a j i).f1) i (a0a j i).f2 (lowF j f i day) f with
   | some s => a7k j t day n (i + 1) (f.set i.toNat ⟨jid j i, s, s + (a0a j i).f2⟩)
   | none => none
noncomputable def a6n (j : List S51) (t : List S58) (day : Int) (f : List S42) : Option (List S42) := a7k j t day j.length 0 f
def encF : Option (List S42) → List S42 × Int
 | some l => (l, 0)
 | none => ([], 20)
theorem c0t {j : List S51} {f : List S42} (hx : fxP j f) {i : Int} (i0 : 0 ≤ i) (i1 : i < f.length) {v : S42} (h1 : v.f0 = jid j i) (h2 : v.f2 ≤ 36525) : fxP j (f.set i.toNat v) := by
 refine ⟨fun k k0 k1 hk => ?_, fun k k0 k1 => ?_⟩
 ·rw [List.length_set] at k1
  rw [b2j f i0 i1 v k0] at hk ⊢
  by_cases c : k = i
  ·rw [if_pos c, h1, c]
  ·rw [if_neg c] at hk ⊢
   exact hx.1 k k0 k1 hk
 ·rw [List.length_set] at k1
  rw [b2j f i0 i1 v k0]
  by_cases c : k = i
  ·rw [if_pos c]; exact h2
  ·rw [if_neg c]; exact hx.2 k k0 k1
theorem b6j {j : List S51} {t : List S58} (hv : vaP j t) {i : Int} (i0 : 0 ≤ i) (i1 : i < j.length) {low s : Int} {f : List S42} (h : plS j (a5p t (a0a j i).f1) i (a0a j i).f2 low f (some s)) : 0 ≤ s ∧ s + (a0a j i).f2 ≤ 36525 :=
 c2q (a8e hv i0 i1).1 h.2.1.1
theorem a8f {j : List S51} {t : List S58} (hv : vaP j t) {i : Int} (i0 : 0 ≤ i) (i1 : i < j.length) : ((a0a j i).f3.length : Int) ≤ 1000 := by
 obtain ⟨_, _, _, _, _, _, _, g8, _, _⟩ := hv.2.2.2 i i0 i1
 have up : ∀ n : Nat, n < (a0a j i).f3.length → (n : Int) + 1 ≤ rd (a0a j i).f3 n := by
  intro n
  induction n with
  | zero => intro h; have := (g8 0 (by omega) (by omega)).1; exact this
  | succ n ih =>
   intro h
   have h1 := ih (by omega)
   have h2 := (g8 ((n + 1 : Nat) : Int) (by omega) (by omega)).2.2 (by omega)
   rw [show ((n + 1 : Nat) : Int) - 1 = n by omega] at h2
   omega
 by_cases c : (a0a j i).f3.length = 0
 ·omega
 ·have h1 := up ((a0a j i).f3.length - 1) (by omega)
  have h2 := (g8 (((a0a j i).f3.length - 1 : Nat) : Int) (by omega) (by omega)).2.1
  omega
theorem c3v {j : List S51} {t : List S58} (hv : vaP j t) {day : Int} (h1 : 0 ≤ day) (h2 : day ≤ 36525) : ∀ (n : Nat) (i : Int) (f : List S42), 0 ≤ i → i + n = j.length → f.length = j.length → fxP j f →
  Ev (fun k => a2i.l0 k day f (j.length : Int) i (atM j) (a4t t (frM t)) j) (encF (a7k j t day n i f)) := by
 have hj := hv.2.1
 intro n
 induction n with
 | zero =>
  intro i f i0 hi hl hx
  exact evUp 0 fun k _ => by rw [a2i.l0, if_neg (by omega)]; rfl
 | succ n ih =>
  intro i f i0 hi hl hx
  by_cases c : 0 < (a0b f i).f2
  ·obtain ⟨K, hK⟩ := ih (i + 1) f (by omega) (by omega) hl hx
   refine evUp K fun k hk => ?_
   rw [a2i.l0, if_pos (by omega), if_pos i0, if_pos (by omega), if_pos c, w64 (by omega) (by omega), a7k, if_pos c]
   exact hK k hk
  ·obtain ⟨hp, K, hK⟩ := b7t hv i0 (show i < (j.length : Int) by omega) f hl hx h1 h2 (by have := a8f hv i0 (show i < (j.length : Int) by omega); omega)
   dsimp only at hK
   cases e : b1a j (a5p t (a0a j i).f1) i (a0a j i).f2 (lowF j f i day) f with
   | none =>
    rw [e] at hK
    refine evUp K fun k hk => ?_
    rw [a2i.l0, if_pos (by omega), if_pos i0, if_pos (by omega), if_neg c, hK k hk, Option.bind_some, a7k, if_neg c, e]
    rfl
   | some s =>
    rw [e] at hK hp
    have hb := b6j hv i0 (by omega) hp
    obtain ⟨K2, hK2⟩ := ih (i + 1) (f.set i.toNat ⟨jid j i, s, s + (a0a j i).f2⟩) (by omega) (by omega) (by rw [List.length_set]; exact hl) (c0t hx i0 (by omega) rfl hb.2)
    refine evUp (K + K2) fun k hk => ?_
    rw [a2i.l0, if_pos (by omega), if_pos i0, if_pos (by omega), if_neg c, hK k (by omega), Option.bind_some, a7k, if_neg c, e, w64 (by omega) (by omega)]
    exact hK2 k (by omega)
theorem b7u {j : List S51} {t : List S58} (hv : vaP j t) {day : Int} (h1 : 0 ≤ day) (h2 : day ≤ 36525) (f : List S42) (hl : f.length = j.length) (hx : fxP j f) :
  Ev (fun k => a2i.f k j (atM j) (a4t t (frM t)) day f) (encF (a6n j t day f)) := by
 obtain ⟨K, hK⟩ := c3v hv h1 h2 j.length 0 f (by omega) (by omega) hl hx
 refine ⟨K, fun k hk => ?_⟩
 dsimp only at hK ⊢
 unfold a2i.f
 rw [hl]
 exact hK k hk
theorem b4m (j : List S51) : fxP j (List.replicate j.length z42) := ⟨fun k _ _ h => by rw [a8m] at h; exact absurd h (by decide), fun k _ _ => by rw [a8m]; decide⟩
theorem b2r (j : List S51) (t : List S58) (hb : bdP j t) : ∃ b, Ev (fun k => a0c.f k j t) b ∧ (b = true ↔ vaP j t) := by
 obtain ⟨b1, b2, b3, b4⟩ := hb
 unfold a0c.f
 by_cases c : (t.length : Int) > 20
 ·exact ⟨false, evUp 0 fun k _ => by rw [if_pos c, a0c.j0, if_pos rfl], fun h => by simp at h, fun h => by have := h.1; omega⟩
 by_cases d : (j.length : Int) > 60
 ·exact ⟨false, evUp 0 fun k _ => by rw [if_neg c, decide_eq_true d, a0c.j0, if_pos rfl], fun h => by simp at h, fun h => by have := h.2.1; omega⟩
 obtain ⟨bj, hbj, ej⟩ : ∃ b, Ev (fun k => a0c.l1 k j t 0) b ∧ (b = true ↔ (∀ i : Int, 0 ≤ i → i < j.length → joOk j t i)) := by
  obtain ⟨b, hb, e⟩ := a6k (fun i k => a0c.l1 k j t i) j.length (by omega) (joOk j t) true
   (evUp 0 fun k _ => by rw [a0c.l1, if_neg (by omega)])
   (fun i i0 i1 hg => by
    obtain ⟨ba, bb⟩ := b3 i i0 i1
    obtain ⟨l, bf, ⟨K0, h0⟩, hf⟩ := b4k t (by omega) (a0a j i).f1
    obtain ⟨w1, ⟨K1, h1⟩, e1⟩ := a9v (a0a j i).f3 (by omega) 1 1000
    obtain ⟨w2, ⟨K2, h2⟩, e2⟩ := a9v (a0a j i).f4 (by omega) 1 64
    dsimp only at h0 h1 h2
    have hj4 : ∀ k, a0c.j4 (k + 1) j t i true (a0a j i).f0 (a0a j i).f1 (a0a j i).f2 (a0a j i).f3 (a0a j i).f4 = some false := fun k => by rw [a0c.j4, if_pos rfl]
    have aft : (∃ a : Int, 0 ≤ a ∧ a < (a0a j i).f3.length ∧ ∀ n : Int, 0 ≤ n → n < i → (a0a j n).f0 ≠ rd (a0a j i).f3 a) → Ev (fun k => a0c.j4 k j t i false (a0a j i).f0 (a0a j i).f1 (a0a j i).f2 (a0a j i).f3 (a0a j i).f4) false := by
     rintro ⟨a, a0, a1, ha⟩
     rcases a5u (fun m k => a0c.l2 k j t i m (a0a j i).f0 (a0a j i).f1 (a0a j i).f2 (a0a j i).f3 (a0a j i).f4) a a0 (fun m => ∃ n : Int, 0 ≤ n ∧ n < i ∧ (a0a j n).f0 = rd (a0a j i).f3 m) (fun _ => false) false
      (by
       obtain ⟨q, ⟨K, hK⟩, hq⟩ := a7x j i i0 (by omega) (by omega) (rd (a0a j i).f3 a)
       dsimp only at hK
       refine evUp K fun k hk => ?_
       rcases hq with ⟨rfl, _⟩ | ⟨q0, q1, q2, _⟩
       ·rw [a0c.l2, if_pos (by omega), if_pos a0, hK k hk, Option.bind_some, if_pos (by decide)]
       ·exact absurd q2 (ha q q0 q1))
      (fun m m0 m1 hm => by
       obtain ⟨q, ⟨K, hK⟩, hq⟩ := a7x j i i0 (by omega) (by omega) (rd (a0a j i).f3 m)
       dsimp only at hK
       refine evUp K fun k hk => ?_
       rcases hq with ⟨rfl, _⟩ | ⟨q0, q1, q2, _⟩
       ·rw [a0c.l2, if_pos (by omega), if_pos m0, hK k hk, Option.bind_some, if_pos (by decide)]
       ·exact absurd ⟨q, q0, q1, q2⟩ hm)
      (fun m r m0 m1 ⟨n, n0, n1, hn⟩ ⟨K2, hK2⟩ => by
       obtain ⟨q, ⟨K, hK⟩, hq⟩ := a7x j i i0 (by omega) (by omega) (rd (a0a j i).f3 m)
       dsimp only at hK hK2
       refine evUp (K + K2) fun k hk => ?_
       rcases hq with ⟨rfl, h⟩ | ⟨q0, q1, q2, _⟩
       ·exact absurd hn (h n n0 n1)
       ·rw [a0c.l2, if_pos (by omega), if_pos m0, hK k (by omega), Option.bind_some, if_neg (by omega), w64 (by omega) (by omega)]
        exact hK2 k (by omega)) with ⟨_, K, hK⟩ | ⟨_, _, _, _, _, K, hK⟩
     ·exact evUp K fun k hk => by rw [a0c.j4, if_neg (by decide)]; exact hK k hk
     ·exact evUp K fun k hk => by rw [a0c.j4, if_neg (by decide)]; exact hK k hk
    by_cases c1 : bf = true
    ·by_cases c2 : w1 = true
     ·by_cases c3 : w2 = true
      ·by_cases c4 : (((a0a j i).f4).length : Int) > 8
       ·refine evUp (K0 + K1 + K2 + 1) fun k hk => ?_
        obtain ⟨k, rfl⟩ : ∃ z, k = z + 1 := ⟨k - 1, by omega⟩
        rw [a0c.l1, if_pos (by omega), if_pos i0, h0 _ (by omega), Option.bind_some, h1 _ (by omega), Option.bind_some, h2 _ (by omega), Option.bind_some, if_pos c1, if_pos c2, if_pos c3, if_pos c4, hj4]
       by_cases c5 : (a0a j i).f0 < 1
       ·refine evUp (K0 + K1 + K2 + 1) fun k hk => ?_
        obtain ⟨k, rfl⟩ : ∃ z, k = z + 1 := ⟨k - 1, by omega⟩
        rw [a0c.l1, if_pos (by omega), if_pos i0, h0 _ (by omega), Option.bind_some, h1 _ (by omega), Option.bind_some, h2 _ (by omega), Option.bind_some, if_pos c1, if_pos c2, if_pos c3, if_neg c4, if_pos c5, hj4]
       by_cases c6 : (a0a j i).f0 > 1000
       ·refine evUp (K0 + K1 + K2 + 1) fun k hk => ?_
        obtain ⟨k, rfl⟩ : ∃ z, k = z + 1 := ⟨k - 1, by omega⟩
        rw [a0c.l1, if_pos (by omega), if_pos i0, h0 _ (by omega), Option.bind_some, h1 _ (by omega), Option.bind_some, h2 _ (by omega), Option.bind_some, if_pos c1, if_pos c2, if_pos c3, if_neg c4, if_neg c5, if_pos c6, hj4]
       have hord : (¬ (0 < i → (a0a j (i - 1)).f0 < (a0a j i).f0)) ∨ (a0a j i).f2 < 1 ∨ (a0a j i).f2 > 100 ∨ ((0 < i → (a0a j (i - 1)).f0 < (a0a j i).f0) ∧ ¬ (a0a j i).f2 < 1 ∧ ¬ (a0a j i).f2 > 100) := by
        by_cases a : (0 < i → (a0a j (i - 1)).f0 < (a0a j i).f0)
        ·right
         by_cases b : (a0a j i).f2 < 1
         ·exact .inl b
         ·by_cases c : (a0a j i).f2 > 100
          ·exact .inr (.inl c)
          ·exact .inr (.inr ⟨a, b, c⟩)
        ·exact .inl a
       have go : ∀ (r : Bool), Ev (fun k => a0c.j4 k j t i r (a0a j i).f0 (a0a j i).f1 (a0a j i).f2 (a0a j i).f3 (a0a j i).f4) false →
         ((∀ k, (if i > 0 then (if 0 ≤ (wrap64 (i - 1)) then (if (wrap64 (i - 1)) < (j.length : Int) then (if ((a0a j i).f0) ≤ ((a0a j (wrap64 (i - 1))).f0) then (a0c.j4 k j t i true ((a0a j i).f0) ((a0a j i).f1) ((a0a j i).f2) ((a0a j i).f3) ((a0a j i).f4)) else (if ((a0a j i).f2) < 1 then (a0c.j4 k j t i true ((a0a j i).f0) ((a0a j i).f1) ((a0a j i).f2) ((a0a j i).f3) ((a0a j i).f4)) else (a0c.j4 k j t i (decide (((a0a j i).f2) > 100)) ((a0a j i).f0) ((a0a j i).f1) ((a0a j i).f2) ((a0a j i).f3) ((a0a j i).f4)))) else (none)) else (none)) else (if ((a0a j i).f2) < 1 then (a0c.j4 k j t i true ((a0a j i).f0) ((a0a j i).f1) ((a0a j i).f2) ((a0a j i).f3) ((a0a j i).f4)) else (a0c.j4 k j t i (decide (((a0a j i).f2) > 100)) ((a0a j i).f0) ((a0a j i).f1) ((a0a j i).f2) ((a0a j i).f3) ((a0a j i).f4)))) = a0c.j4 k j t i r (a0a j i).f0 (a0a j i).f1 (a0a j i).f2 (a0a j i).f3 (a0a j i).f4)) →
         Ev (fun k => a0c.l1 k j t i) false := fun r ⟨K, hK⟩ he => by
        dsimp only at hK
        refine evUp (K0 + K1 + K2 + K) fun k hk => ?_
        rw [a0c.l1, if_pos (by omega), if_pos i0, h0 _ (by omega), Option.bind_some, h1 _ (by omega), Option.bind_some, h2 _ (by omega), Option.bind_some, if_pos c1, if_pos c2, if_pos c3, if_neg c4, if_neg c5, if_neg c6, he]
        exact hK k (by omega)
       have yes : Ev (fun k => a0c.j4 k j t i true (a0a j i).f0 (a0a j i).f1 (a0a j i).f2 (a0a j i).f3 (a0a j i).f4) false := evUp 0 fun k _ => hj4 k
       rcases hord with h | h | h | ⟨h3, h4, h5⟩
       ·have hh : 0 < i ∧ ¬ (a0a j (i - 1)).f0 < (a0a j i).f0 := by
         by_cases p : 0 < i
         ·exact ⟨p, fun q => h fun _ => q⟩
         ·exact absurd (fun q => absurd q p) h
        exact go true yes fun k => by rw [if_pos hh.1, w64 (by omega) (by omega), if_pos (by omega), if_pos (by omega), if_pos (by omega)]
       ·refine go true yes fun k => ?_
        by_cases p : i > 0
        ·rw [if_pos p, w64 (by omega) (by omega), if_pos (by omega), if_pos (by omega), if_pos h]
         split <;> rfl
        ·rw [if_neg p, if_pos h]
       ·refine go true yes fun k => ?_
        by_cases p : i > 0
        ·rw [if_pos p, w64 (by omega) (by omega), if_pos (by omega), if_pos (by omega), if_neg (show ¬ (a0a j i).f2 < 1 by omega), decide_eq_true h]
         split <;> rfl
        ·rw [if_neg p, if_neg (by omega), decide_eq_true h]
       ·refine go false (aft ?_) fun k => ?_
        ·refine Classical.byContradiction fun hno => hg ⟨by omega, by omega, h3, by omega, by omega, by omega, e2.1 c3, e1.1 c2, ?_, fun a a0 a1 => ?_⟩
         ·rcases hf with ⟨h, _⟩ | ⟨_, n, n0, n1, n2, _⟩
          ·rw [h] at c1; simp at c1
          ·exact ⟨n, n0, n1, n2⟩
         ·refine Classical.byContradiction fun hn => hno ⟨a, a0, a1, fun n n0 n1 e => hn ⟨n, n0, n1, e⟩⟩
        ·by_cases p : i > 0
         ·have := h3 p
          rw [if_pos p, w64 (by omega) (by omega), if_pos (by omega), if_pos (by omega), if_neg (by omega), if_neg h4, decide_eq_false h5]
         ·rw [if_neg p, if_neg h4, decide_eq_false h5]
      ·refine evUp (K0 + K1 + K2 + 1) fun k hk => ?_
       obtain ⟨k, rfl⟩ : ∃ z, k = z + 1 := ⟨k - 1, by omega⟩
       rw [a0c.l1, if_pos (by omega), if_pos i0, h0 _ (by omega), Option.bind_some, h1 _ (by omega), Option.bind_some, h2 _ (by omega), Option.bind_some, if_pos c1, if_pos c2, if_neg c3, hj4]
     ·refine evUp (K0 + K1 + K2 + 1) fun k hk => ?_
      obtain ⟨k, rfl⟩ : ∃ z, k = z + 1 := ⟨k - 1, by omega⟩
      rw [a0c.l1, if_pos (by omega), if_pos i0, h0 _ (by omega), Option.bind_some, h1 _ (by omega), Option.bind_some, h2 _ (by omega), Option.bind_some, if_pos c1, if_neg c2, hj4]
    ·refine evUp (K0 + K1 + K2 + 1) fun k hk => ?_
     obtain ⟨k, rfl⟩ : ∃ z, k = z + 1 := ⟨k - 1, by omega⟩
     rw [a0c.l1, if_pos (by omega), if_pos i0, h0 _ (by omega), Option.bind_some, h1 _ (by omega), Option.bind_some, h2 _ (by omega), Option.bind_some, if_neg c1, hj4])
   (fun i r i0 i1 hg ⟨K3, hK3⟩ => by
    obtain ⟨g1, g2, g3, g4, g5, g6, g7, g8, g9, g10⟩ := hg
    obtain ⟨ba, bb⟩ := b3 i i0 i1
    obtain ⟨l, bf, ⟨K0, h0⟩, hf⟩ := b4k t (by omega) (a0a j i).f1
    obtain ⟨w1, ⟨K1, h1⟩, e1⟩ := a9v (a0a j i).f3 (by omega) 1 1000
    obtain ⟨w2, ⟨K2, h2⟩, e2⟩ := a9v (a0a j i).f4 (by omega) 1 64
    dsimp only at h0 h1 h2 hK3
    have cf : bf = true := by
     rcases hf with ⟨_, _, h⟩ | ⟨h, _⟩
     ·obtain ⟨n, n0, n1, n2⟩ := g9
      exact absurd n2 (h n n0 n1)
     ·exact h
    have loop : ∀ (n : Nat) (m : Int), 0 ≤ m → m + n = (a0a j i).f3.length → Ev (fun k => a0c.l2 k j t i m (a0a j i).f0 (a0a j i).f1 (a0a j i).f2 (a0a j i).f3 (a0a j i).f4) r := by
     intro n
     induction n with
     | zero =>
      intro m m0 hm
      refine evUp K3 fun k hk => ?_
      rw [a0c.l2, if_neg (by omega), w64 (by omega) (by omega)]
      exact hK3 k hk
     | succ n ih =>
      intro m m0 hm
      obtain ⟨K4, hK4⟩ := ih (m + 1) (by omega) (by omega)
      obtain ⟨q, ⟨K, hK⟩, hq⟩ := a7x j i i0 (by omega) (by omega) (rd (a0a j i).f3 m)
      dsimp only at hK hK4
      refine evUp (K + K4) fun k hk => ?_
      rcases hq with ⟨rfl, h⟩ | ⟨q0, q1, q2, _⟩
      ·obtain ⟨n, n0, n1, n2⟩ := g10 m m0 (by omega)
       exact absurd n2 (h n n0 n1)
      ·rw [a0c.l2, if_pos (by omega), if_pos m0, hK k (by omega), Option.bind_some, if_neg (by omega), w64 (by omega) (by omega)]
       exact hK4 k (by omega)
    obtain ⟨K5, hK5⟩ := loop (a0a j i).f3.length 0 (by omega) (by omega)
    dsimp only at hK5
    refine evUp (K0 + K1 + K2 + K5 + 1) fun k hk => ?_
    obtain ⟨k, rfl⟩ : ∃ z, k = z + 1 := ⟨k - 1, by omega⟩
    have hj4 : a0c.j4 (k + 1) j t i false (a0a j i).f0 (a0a j i).f1 (a0a j i).f2 (a0a j i).f3 (a0a j i).f4 = some r := by
     rw [a0c.j4, if_neg (by decide)]
     exact hK5 k (by omega)
    rw [a0c.l1, if_pos (by omega), if_pos i0, h0 _ (by omega), Option.bind_some, h1 _ (by omega), Option.bind_some, h2 _ (by omega), Option.bind_some, if_pos cf, if_pos (e1.2 g8), if_pos (e2.2 g7), if_neg (by omega), if_neg (by omega), if_neg (by omega)]
    by_cases p : i > 0
    ·have := g3 p
     rw [if_pos p, w64 (by omega) (by omega), if_pos (by omega), if_pos (by omega), if_neg (by omega), if_neg (by omega), decide_eq_false (by omega)]
     exact hj4
    ·rw [if_neg p, if_neg (by omega), decide_eq_false (by omega)]
     exact hj4)
  exact ⟨b, hb, e.trans ⟨fun h => h.1, fun h => ⟨h, rfl⟩⟩⟩
 obtain ⟨b, ⟨K, hK⟩, e⟩ := a6k (fun i k => a0c.l0 k j t i) t.length (by omega) (trOk t) bj
  (by
   obtain ⟨K, hK⟩ := hbj
   exact evUp K fun k hk => by rw [a0c.l0, if_neg (by omega)]; exact hK k hk)
  (fun i i0 i1 hg => by
   obtain ⟨s, ⟨K, hK⟩, es⟩ := b0y (a2a t i).f1 (by have := b4 i i0 i1; omega)
   dsimp only at hK
   refine evUp (K + 1) fun k hk => ?_
   obtain ⟨k, rfl⟩ : ∃ z, k = z + 1 := ⟨k - 1, by omega⟩
   have hj2 : a0c.j2 (k + 1) j t i true = some false := by rw [a0c.j2, if_pos rfl]
   rw [a0c.l0, if_pos (by omega), if_pos i0, hK _ (by omega), Option.bind_some]
   by_cases c1 : s = true
   ·rw [if_pos c1]
    by_cases c2 : (a2a t i).f0 < 1
    ·rw [if_pos c2, hj2]
    rw [if_neg c2]
    by_cases c3 : (a2a t i).f0 > 1000
    ·rw [if_pos c3, hj2]
    rw [if_neg c3]
    have hh : 0 < i ∧ ¬ (a2a t (i - 1)).f0 < (a2a t i).f0 := by
     by_cases p : 0 < i
     ·exact ⟨p, fun q => hg ⟨es.1 c1, by omega, by omega, fun _ => q⟩⟩
     ·exact absurd ⟨es.1 c1, by omega, by omega, fun q => absurd q p⟩ hg
    rw [if_pos hh.1, w64 (by omega) (by omega), if_pos (by omega), if_pos (by omega), decide_eq_true (by omega), hj2]
   ·rw [if_neg c1, hj2])
  (fun i r i0 i1 hg ⟨K2, hK2⟩ => by
   obtain ⟨g1, g2, g3, g4⟩ := hg
   obtain ⟨s, ⟨K, hK⟩, es⟩ := b0y (a2a t i).f1 (by have := b4 i i0 i1; omega)
   dsimp only at hK hK2
   refine evUp (K + K2 + 1) fun k hk => ?_
   obtain ⟨k, rfl⟩ : ∃ z, k = z + 1 := ⟨k - 1, by omega⟩
   have hj2 : a0c.j2 (k + 1) j t i false = some r := by
    rw [a0c.j2, if_neg (by decide), w64 (by omega) (by omega)]
    exact hK2 k (by omega)
   rw [a0c.l0, if_pos (by omega), if_pos i0, hK _ (by omega), Option.bind_some, if_pos (es.2 g1), if_neg (by omega), if_neg (by omega)]
   by_cases p : i > 0
   ·have := g4 p
    rw [if_pos p, w64 (by omega) (by omega), if_pos (by omega), if_pos (by omega), decide_eq_false (by omega)]
    exact hj2
   ·rw [if_neg p]
    exact hj2)
 refine ⟨b, evUp K fun k hk => ?_, ?_⟩
 ·dsimp only at hK
  rw [if_neg c, decide_eq_false d, a0c.j0, if_neg (by decide)]
  exact hK k hk
 ·rw [e, ej]
  exact ⟨fun h => ⟨by omega, by omega, h.1, h.2⟩, fun h => ⟨h.2.2.1, h.2.2.2⟩⟩
open Classical in
noncomputable def a5b (j : List S51) (t : List S58) (day : Int) : List S42 × Int := if vaP j t ∧ 0 ≤ day ∧ day ≤ 36524 then encF (a6n j t day (List.replicate j.length z42)) else ([], 1)
theorem a9d (j : List S51) (t : List S58) (hb : bdP j t) (day : Int) : Ev (fun k => a1e.f k j t day) (a5b j t day) := by
 unfold a5b
 rcases b4l j t hb with ⟨hv, K, hK⟩ | ⟨hv, A, B, K, hK⟩
 ·have hj := hv.2.1
  by_cases c1 : day < 0
  ·rw [if_neg (by omega)]
   refine ⟨K, fun k hk => ?_⟩
   dsimp only at hK ⊢
   unfold a1e.f
   rw [hK k hk, Option.bind_some, if_pos rfl, if_pos c1]
  by_cases c2 : day > 36524
  ·rw [if_neg (by omega)]
   refine ⟨K, fun k hk => ?_⟩
   dsimp only at hK ⊢
   unfold a1e.f
   rw [hK k hk, Option.bind_some, if_pos rfl, if_neg c1, if_pos c2]
  rw [if_pos ⟨hv, by omega, by omega⟩]
  obtain ⟨K2, hK2⟩ := b7u hv (show 0 ≤ day by omega) (by omega) (List.replicate j.length z42) List.length_replicate (b4m j)
  refine ⟨K + K2, fun k hk => ?_⟩
  dsimp only at hK hK2 ⊢
  unfold a1e.f
  rw [hK k (by omega), Option.bind_some, if_pos rfl, if_neg c1, if_neg c2, if_pos (by omega), if_pos (by rw [Int.toNat_natCast]; omega), Int.toNat_natCast, hK2 k (by omega), Option.bind_some]
 ·rw [if_neg (fun h => hv h.1)]
  refine ⟨K, fun k hk => ?_⟩
  dsimp only at hK ⊢
  unfold a1e.f
  rw [hK k hk, Option.bind_some, if_neg (show ¬ (false = true) by decide)]
end Go.Proofs.Ytheibjkjmkanoaa.Wk
/- A plan is checked, and planned anew: what works and its reference do. Conditions: as_ each theorem states. -/
namespace Go.Proofs.Ytheibjkjmkanoaa.Wk
open Go.RowKit Go.Proofs.YtheibjkjmkanoaaW.PrintWords Go.Proofs.YtheibjkjmkanoaaW.PrintMore Go.Proofs.Ytheibjkjmkanoaa.Given Go.Proofs.Ytheibjkjmkanoaa.Px
set_option linter.unusedVariables false
set_option linter.unusedSimpArgs false
def raG (j : List S51) (l : List S42) (i : Int) : Prop := 0 ≤ (a0b l i).f1 ∧ (a0b l i).f1 ≤ 36524 ∧ (a0b l i).f2 = (a0b l i).f1 + (a0a j i).f2
def suG (j : List S51) (t : List S58) (l : List S42) (i : Int) : Prop := suP (a5p t (a0a j i).f1) (a0b l i).f1 (a0b l i).f2
def afG (j : List S51) (l : List S42) (i : Int) : Prop := ∀ a : Int, 0 ≤ a → a < (a0a j i).f3.length → (a0b l (a2h (atM j) (rd (a0a j i).f3 a))).f2 ≤ (a0b l i).f1
def ckG (j : List S51) (t : List S58) (l : List S42) (i : Int) : Prop := raG j l i ∧ suG j t l i ∧ afG j l i ∧ ¬ clP j i (a0b l i).f1 (a0b l i).f2 (l.take i.toNat)
open Classical in
noncomputable def errC (j : List S51) (t : List S58) (l : List S42) (i : Int) : Int := if ¬ raG j l i then 3 else if ¬ suG j t l i then 6 else if ¬ afG j l i then 21 else 22
def ckS (j : List S51) (t : List S58) (l : List S42) (r : Int) : Prop := (¬ (vaP j t ∧ maP j l) ∧ r = 1) ∨ ((vaP j t ∧ maP j l) ∧ (((∀ i : Int, 0 ≤ i → i < j.length → ckG j t l i) ∧ r = 0) ∨ ∃ i : Int, 0 ≤ i ∧ i < j.length ∧ ¬ ckG j t l i ∧ (∀ q : Int, 0 ≤ q → q < i → ckG j t l q) ∧ r = errC j t l i))
theorem c3w (j : List S51) (t : List S58) (l : List S42) (i : Int) : errC j t l i ≠ 0 := by
 unfold errC
 split
 ·decide
 ·split
  ·decide
  ·split <;> decide
theorem b7v {j t l} {a b : Int} (ha : ckS j t l a) (hb : ckS j t l b) : a = b := by
 rcases ha with ⟨h1, h2⟩ | ⟨h1, h2⟩
 ·rcases hb with ⟨_, g2⟩ | ⟨g1, _⟩
  ·rw [h2, g2]
  ·exact absurd g1 h1
 ·rcases hb with ⟨g1, _⟩ | ⟨_, g2⟩
  ·exact absurd h1 g1
  ·rcases h2 with ⟨h2, h3⟩ | ⟨i, i0, i1, h3, h4, h5⟩
   ·rcases g2 with ⟨_, g3⟩ | ⟨q, q0, q1, g3, _⟩
    ·rw [h3, g3]
    ·exact absurd (h2 q q0 q1) g3
   ·rcases g2 with ⟨g2, _⟩ | ⟨q, q0, q1, g3, g4, g5⟩
    ·exact absurd (g2 i i0 i1) h3
    ·by_cases c : i < q
     ·exact absurd (g4 i i0 c) h3
     ·by_cases d : q < i
      ·exact absurd (h4 q q0 d) g3
      ·rw [h5, g5, show i = q by omega]
theorem b6k {j t l} (h : ckS j t l 0) : vaP j t ∧ maP j l ∧ ∀ i : Int, 0 ≤ i → i < j.length → ckG j t l i := by
 rcases h with ⟨_, h⟩ | ⟨h1, ⟨h2, _⟩ | ⟨i, _, _, _, _, h⟩⟩
 ·omega
 ·exact ⟨h1.1, h1.2, h2⟩
 ·exact absurd h.symm (c3w j t l i)
theorem a9e {j : List S51} {l : List S42} (hm : maP j l) (n : Nat) (hn : n ≤ l.length) : idP j (l.take n) ∧ (l.take n).length ≤ j.length := by
 have hlen : (l.take n).length = n := by rw [List.length_take]; omega
 have h1 := hm.1
 refine ⟨fun k k0 k1 _ => ?_, by omega⟩
 have e : a0b (l.take n) k = a0b l k := by
  unfold a0b
  rw [List.getD_eq_getElem?_getD, List.getD_eq_getElem?_getD, List.getElem?_take, if_pos (by omega)]
 rw [e]
 exact hm.2 k k0 (by omega)
theorem b6l {j : List S51} {t : List S58} (hv : vaP j t) {l : List S42} (hl : l.length = j.length) {i : Int} (i0 : 0 ≤ i) (i1 : i < j.length) (F : List (Int × List S56)) (a b c : Int) :
  ∃ r, Ev (fun k => a2g.f k (a0a j i).f3 a b c l j (atM j) F) r ∧ (r = true ↔ ∃ q : Int, 0 ≤ q ∧ q < (a0a j i).f3.length ∧ b < (a0b l (a2h (atM j) (rd (a0a j i).f3 q))).f2) := by
 have hb := a8f hv i0 i1
 obtain ⟨r, ⟨K, hK⟩, hr⟩ := a7t (fun q k => a0w.l0 k (a0a j i).f3 ((a0a j i).f3.length : Int) q (atM j) F a b c l j) (a0a j i).f3.length (by omega) (fun q => b < (a0b l (a2h (atM j) (rd (a0a j i).f3 q))).f2)
  (evUp 0 fun k _ => by rw [a0w.l0, if_neg (by omega)])
  (fun q q0 q1 h => by
   obtain ⟨a1, a2, _⟩ := after_at hv i0 i1 q0 q1
   exact evUp 0 fun k _ => by rw [a0w.l0, if_pos (by omega), if_pos q0, if_pos (by omega), a3x.f, if_pos a1, if_pos (by omega), Option.bind_some, if_pos (decide_eq_true h)])
  (fun q r q0 q1 h ⟨K, hK⟩ => by
   obtain ⟨a1, a2, _⟩ := after_at hv i0 i1 q0 q1
   exact evUp K fun k hk => by
    rw [a0w.l0, if_pos (by omega), if_pos q0, if_pos (by omega), a3x.f, if_pos a1, if_pos (by omega), Option.bind_some, if_neg (by rw [decide_eq_true_eq]; exact h), w64 (by omega) (by omega)]
    exact hK k hk)
 refine ⟨decide (r ≥ 0), ⟨K, fun k hk => ?_⟩, a9c hr⟩
 dsimp only at hK ⊢
 unfold a2g.f a0w.f
 rw [hK k hk, Option.bind_some]
theorem b1b {j : List S51} {t : List S58} (hv : vaP j t) {i : Int} (i0 : 0 ≤ i) (i1 : i < j.length) : ((a5p t (a0a j i).f1).length : Int) ≤ 1000 := by
 have := (a8e hv i0 i1).1.2
 omega
noncomputable def badR (j : List S51) (l : List S42) (i : Int) : Bool := @decide (¬ raG j l i) (Classical.propDecidable _)
theorem b1z {j : List S51} {l : List S42} {i : Int} (h : ¬ raG j l i) : badR j l i = true := @decide_eq_true _ (Classical.propDecidable _) h
theorem a7y {j : List S51} {l : List S42} {i : Int} (h : raG j l i) : badR j l i = false := @decide_eq_false _ (Classical.propDecidable _) fun g => g h
theorem b1c {α : Type} {j : List S51} {l : List S42} {i : Int} (hd : 1 ≤ (a0a j i).f2 ∧ (a0a j i).f2 ≤ 100) (J : Bool → α) : (if (a0b l i).f1 < 0 then J true else (if (a0b l i).f1 > 36524 then J true else J ((a0b l i).f2 != wrap64 ((a0b l i).f1 + (a0a j i).f2)))) = J (badR j l i) := by
 by_cases c1 : (a0b l i).f1 < 0
 ·rw [if_pos c1, b1z (fun h => by unfold raG at h; omega)]
 ·by_cases c2 : (a0b l i).f1 > 36524
  ·rw [if_neg c1, if_pos c2, b1z (fun h => by unfold raG at h; omega)]
  ·rw [if_neg c1, if_neg c2, w64 (by omega) (by omega)]
   by_cases c3 : (a0b l i).f2 = (a0b l i).f1 + (a0a j i).f2
   ·rw [a7y ⟨by omega, by omega, c3⟩]
    congr 1
    rw [bne_eq_false_iff_eq]
    exact c3
   ·rw [b1z (fun h => c3 h.2.2)]
    congr 1
    rw [bne_iff_ne]
    exact c3
theorem b6m (j : List S51) (t : List S58) (hb : bdP j t) (l : List S42) : ∃ r, Ev (fun k => a0z.f k j t l) r ∧ ckS j t l r := by
 rcases b4l j t hb with ⟨hv, K0, h0⟩ | ⟨hv, A, B, K0, h0⟩
 ·have hj := hv.2.1
  obtain ⟨m, ⟨K1, h1⟩, em⟩ := b3p j l (by omega)
  dsimp only at h0 h1
  by_cases cm : m = true
  ·have hm := em.1 cm
   have hlen := hm.1
   have top : ∀ r, Ev (fun k => a0z.l0 k j l (j.length : Int) 0 l (atM j) (a4t t (frM t)) j) r → Ev (fun k => a0z.f k j t l) r := fun r ⟨K, hK⟩ => ⟨K0 + K1 + K, fun k hk => by
    dsimp only at hK ⊢
    unfold a0z.f
    rw [h0 k (by omega), Option.bind_some, if_pos rfl, h1 k (by omega), Option.bind_some, if_pos cm, hlen]
    exact hK k (by omega)⟩
   rcases a5u (fun i k => a0z.l0 k j l (j.length : Int) i l (atM j) (a4t t (frM t)) j) j.length (by omega) (ckG j t l) (errC j t l) 0
    (evUp 0 fun k _ => by rw [a0z.l0, if_neg (by omega)])
    (fun i i0 i1 hg => by
     obtain ⟨g1, g2, g3, g4, g5, g6, g7, g8, g9, g10⟩ := hv.2.2.2 i i0 i1
     have step : ∀ k, a0z.l0 (k + 1) j l (j.length : Int) i l (atM j) (a4t t (frM t)) j = a0z.j1 k j i l (j.length : Int) i (badR j l i) l (atM j) (a4t t (frM t)) j (a0b l i).f0 (a0b l i).f1 (a0b l i).f2 (a0a j i).f0 (a0a j i).f1 (a0a j i).f2 (a0a j i).f3 (a0a j i).f4 := fun k => by
      rw [a0z.l0, if_pos (by omega), if_pos i0, if_pos (by omega), if_pos (by omega)]
      exact b1c ⟨g4, g5⟩ (fun b => a0z.j1 k j i l (j.length : Int) i b l (atM j) (a4t t (frM t)) j (a0b l i).f0 (a0b l i).f1 (a0b l i).f2 (a0a j i).f0 (a0a j i).f1 (a0a j i).f2 (a0a j i).f3 (a0a j i).f4)
     by_cases c1 : raG j l i
     ·obtain ⟨s, ⟨K2, h2⟩, es⟩ := b1h (a5p t (a0a j i).f1) (by have := b1b hv i0 i1; omega) (a0b l i).f0 (a0b l i).f1 (a0b l i).f2
      obtain ⟨u, ⟨K3, h3⟩, eu⟩ := b6l hv hlen i0 i1 (a4t t (frM t)) (a0b l i).f0 (a0b l i).f1 (a0b l i).f2
      dsimp only at h2 h3
      by_cases c2 : suG j t l i
      ·by_cases c3 : afG j l i
       ·have c4 : clP j i (a0b l i).f1 (a0b l i).f2 (l.take i.toNat) := Classical.byContradiction fun h => hg ⟨c1, c2, c3, h⟩
        have e0 : (a0b l i).f0 = jid j i := hm.2 i i0 i1
        rcases b0z hv i0 i1 (a0b l i).f1 (a0b l i).f2 (l.take i.toNat) (a9e hm _ (by omega)).2 (a9e hm _ (by omega)).1 (a4t t (frM t)) with ⟨hno, _⟩ | ⟨q, _, _, _, K4, h4⟩
        ·exact absurd c4 hno
        ·dsimp only at h4
         refine evUp (K2 + K3 + K4 + 1) fun k hk => ?_
         obtain ⟨k, rfl⟩ : ∃ z, k = z + 1 := ⟨k - 1, by omega⟩
         rw [step, a0z.j1, a7y c1, if_neg (by decide)]
         have hs := h2 k (by omega)
         unfold a5p at hs
         rw [hs, Option.bind_some, if_pos (es.2 c2), h3 k (by omega), Option.bind_some, if_neg (fun h => by obtain ⟨a, a0, a1, h⟩ := eu.1 h; have := c3 a a0 a1; omega), if_pos i0, if_pos (by omega), e0, h4 k (by omega), Option.bind_some, if_pos rfl]
         unfold errC
         rw [if_neg (fun h => h c1), if_neg (fun h => h c2), if_neg (fun h => h c3)]
       ·refine evUp (K2 + K3 + 1) fun k hk => ?_
        obtain ⟨k, rfl⟩ : ∃ z, k = z + 1 := ⟨k - 1, by omega⟩
        rw [step, a0z.j1, a7y c1, if_neg (by decide)]
        have hs := h2 k (by omega)
        unfold a5p at hs
        rw [hs, Option.bind_some, if_pos (es.2 c2), h3 k (by omega), Option.bind_some, if_pos (eu.2 (Classical.byContradiction fun h => c3 fun a a0 a1 => Classical.byContradiction fun h2 => h ⟨a, a0, a1, by omega⟩))]
        unfold errC
        rw [if_neg (fun h => h c1), if_neg (fun h => h c2), if_pos c3]
      ·refine evUp (K2 + K3 + 1) fun k hk => ?_
       obtain ⟨k, rfl⟩ : ∃ z, k = z + 1 := ⟨k - 1, by omega⟩
       rw [step, a0z.j1, a7y c1, if_neg (by decide)]
       have hs := h2 k (by omega)
       unfold a5p at hs
       rw [hs, Option.bind_some, if_neg (fun h => c2 (es.1 h))]
       unfold errC
       rw [if_neg (fun h => h c1), if_pos c2]
     ·refine evUp 1 fun k hk => ?_
      obtain ⟨k, rfl⟩ : ∃ z, k = z + 1 := ⟨k - 1, by omega⟩
      rw [step, a0z.j1, b1z c1, if_pos rfl]
      unfold errC
      rw [if_pos c1])
    (fun i r i0 i1 hg ⟨K5, h5⟩ => by
     obtain ⟨g1, g2, g3, g4, g5, g6, g7, g8, g9, g10⟩ := hv.2.2.2 i i0 i1
     obtain ⟨c1, c2, c3, c4⟩ := hg
     obtain ⟨s, ⟨K2, h2⟩, es⟩ := b1h (a5p t (a0a j i).f1) (by have := b1b hv i0 i1; omega) (a0b l i).f0 (a0b l i).f1 (a0b l i).f2
     obtain ⟨u, ⟨K3, h3⟩, eu⟩ := b6l hv hlen i0 i1 (a4t t (frM t)) (a0b l i).f0 (a0b l i).f1 (a0b l i).f2
     have e0 : (a0b l i).f0 = jid j i := hm.2 i i0 i1
     dsimp only at h2 h3 h5
     rcases b0z hv i0 i1 (a0b l i).f1 (a0b l i).f2 (l.take i.toNat) (a9e hm _ (by omega)).2 (a9e hm _ (by omega)).1 (a4t t (frM t)) with ⟨_, K4, h4⟩ | ⟨q, q0, q1, hq, _⟩
     ·dsimp only at h4
      refine evUp (K2 + K3 + K4 + K5 + 1) fun k hk => ?_
      obtain ⟨k, rfl⟩ : ∃ z, k = z + 1 := ⟨k - 1, by omega⟩
      rw [a0z.l0, if_pos (by omega), if_pos i0, if_pos (by omega), if_pos (by omega)]
      rw [b1c (l := l) (i := i) ⟨g4, g5⟩ (fun b => a0z.j1 (k + 1) j i l (j.length : Int) i b l (atM j) (a4t t (frM t)) j (a0b l i).f0 (a0b l i).f1 (a0b l i).f2 (a0a j i).f0 (a0a j i).f1 (a0a j i).f2 (a0a j i).f3 (a0a j i).f4)]
      rw [a0z.j1, a7y c1, if_neg (by decide)]
      have hs := h2 k (by omega)
      unfold a5p at hs
      rw [hs, Option.bind_some, if_pos (es.2 c2), h3 k (by omega), Option.bind_some, if_neg (fun h => by obtain ⟨a, a0, a1, h⟩ := eu.1 h; have := c3 a a0 a1; omega), if_pos i0, if_pos (by omega), e0, h4 k (by omega), Option.bind_some, if_neg (by decide), w64 (by omega) (by omega)]
      exact h5 k (by omega)
     ·exact absurd ⟨q, q0, q1, hq⟩ c4) with ⟨h2, h3⟩ | ⟨i, i0, i1, h2, h3, h4⟩
   ·exact ⟨0, top _ h3, .inr ⟨⟨hv, hm⟩, .inl ⟨h2, rfl⟩⟩⟩
   ·exact ⟨_, top _ h4, .inr ⟨⟨hv, hm⟩, .inr ⟨i, i0, i1, h2, h3, rfl⟩⟩⟩
  ·refine ⟨1, ⟨K0 + K1, fun k hk => ?_⟩, .inl ⟨fun h => cm (em.2 h.2), rfl⟩⟩
   dsimp only
   unfold a0z.f
   rw [h0 k (by omega), Option.bind_some, if_pos rfl, h1 k (by omega), Option.bind_some, if_neg cm]
 ·refine ⟨1, ⟨K0, fun k hk => ?_⟩, .inl ⟨fun h => hv h.1, rfl⟩⟩
  dsimp only at h0 ⊢
  unfold a0z.f
  rw [h0 k (by omega), Option.bind_some, if_neg (show ¬ (false = true) by decide)]
theorem b2s (j : List S51) (t : List S58) (hb : bdP j t) (l : List S42) : ∃ r, Ev (fun k => a0d.f k j t l) r ∧ ckS j t l r := by
 obtain ⟨v, ⟨K0, h0⟩, ev⟩ := b2r j t hb
 obtain ⟨m, ⟨K1, h1⟩, em⟩ := c1s j l (by have := hb.1; omega)
 dsimp only at h0 h1
 by_cases cv : v = true
 ·have hv := ev.1 cv
  have hj := hv.2.1
  by_cases cm : m = true
  ·have hm := em.1 cm
   have hlen := hm.1
   have top : ∀ r, Ev (fun k => a0d.l0 k j t l 0) r → Ev (fun k => a0d.f k j t l) r := fun r ⟨K, hK⟩ => ⟨K0 + K1 + K + 1, fun k hk => by
    obtain ⟨k, rfl⟩ : ∃ z, k = z + 1 := ⟨k - 1, by omega⟩
    dsimp only at hK ⊢
    unfold a0d.f
    rw [h0 _ (by omega), Option.bind_some, h1 _ (by omega), Option.bind_some, if_pos cv, cm, a0d.j0, if_neg (by decide)]
    exact hK k (by omega)⟩
   rcases a5u (fun i k => a0d.l0 k j t l i) j.length (by omega) (ckG j t l) (errC j t l) 0
    (evUp 0 fun k _ => by rw [a0d.l0, if_neg (by omega)])
    (fun i i0 i1 hg => by
     obtain ⟨g1, g2, g3, g4, g5, g6, g7, g8, g9, g10⟩ := hv.2.2.2 i i0 i1
     have hab := a8f hv i0 i1
     have step : ∀ k, a0d.l0 (k + 1) j t l i = a0d.j2 k j t l i (badR j l i) (a0a j i).f0 (a0a j i).f1 (a0a j i).f2 (a0a j i).f3 (a0a j i).f4 (a0b l i).f0 (a0b l i).f1 (a0b l i).f2 := fun k => by
      rw [a0d.l0, if_pos (by omega), if_pos i0, if_pos (by omega)]
      exact b1c ⟨g4, g5⟩ (fun b => a0d.j2 k j t l i b (a0a j i).f0 (a0a j i).f1 (a0a j i).f2 (a0a j i).f3 (a0a j i).f4 (a0b l i).f0 (a0b l i).f1 (a0b l i).f2)
     by_cases c1 : raG j l i
     ·obtain ⟨_, K6, h6⟩ := a8e hv i0 i1
      obtain ⟨s, ⟨K2, h2⟩, es⟩ := b6d (a5p t (a0a j i).f1) (by have := b1b hv i0 i1; omega) (a0b l i).f1 (a0b l i).f2
      dsimp only at h2 h6
      by_cases c2 : suG j t l i
      · -- the loop over the jobs before it
       have lo : ∀ e, Ev (fun k => a0d.l1 k j t l i (a0a j i).f3.length (a0a j i).f0 (a0a j i).f1 (a0a j i).f2 (a0a j i).f3 (a0a j i).f4 (a0b l i).f0 (a0b l i).f1 (a0b l i).f2) e → (afG j l i ∧ Ev (fun k => a0d.l1 k j t l i 0 (a0a j i).f0 (a0a j i).f1 (a0a j i).f2 (a0a j i).f3 (a0a j i).f4 (a0b l i).f0 (a0b l i).f1 (a0b l i).f2) e) ∨
         (¬ afG j l i ∧ Ev (fun k => a0d.l1 k j t l i 0 (a0a j i).f0 (a0a j i).f1 (a0a j i).f2 (a0a j i).f3 (a0a j i).f4 (a0b l i).f0 (a0b l i).f1 (a0b l i).f2) 21) := fun e he => by
        rcases a5u (fun a k => a0d.l1 k j t l i a (a0a j i).f0 (a0a j i).f1 (a0a j i).f2 (a0a j i).f3 (a0a j i).f4 (a0b l i).f0 (a0b l i).f1 (a0b l i).f2) (a0a j i).f3.length (by omega) (fun a => (a0b l (a2h (atM j) (rd (a0a j i).f3 a))).f2 ≤ (a0b l i).f1) (fun _ => 21) e he
         (fun a a0 a1 ha => by
          obtain ⟨p1, p2, p3⟩ := after_at hv i0 i1 a0 a1
          obtain ⟨q, ⟨K7, h7⟩, hq⟩ := a7x j i i0 (by omega) (by omega) (rd (a0a j i).f3 a)
          dsimp only at h7
          have eq : q = a2h (atM j) (rd (a0a j i).f3 a) := by
           rcases hq with ⟨_, hq⟩ | ⟨q0, q1, q2, _⟩
           ·exact absurd p3 (hq _ p1 p2)
           ·exact a8d hv q0 (by omega) p1 (by omega) (by rw [p3]; exact q2)
          rw [eq] at h7
          exact evUp K7 fun k hk => by rw [a0d.l1, if_pos (by omega), if_pos a0, h7 k hk, Option.bind_some, if_pos p1, if_pos (by omega), if_pos (by omega)])
         (fun a r a0 a1 ha ⟨K8, h8⟩ => by
          obtain ⟨p1, p2, p3⟩ := after_at hv i0 i1 a0 a1
          obtain ⟨q, ⟨K7, h7⟩, hq⟩ := a7x j i i0 (by omega) (by omega) (rd (a0a j i).f3 a)
          dsimp only at h7 h8
          have eq : q = a2h (atM j) (rd (a0a j i).f3 a) := by
           rcases hq with ⟨_, hq⟩ | ⟨q0, q1, q2, _⟩
           ·exact absurd p3 (hq _ p1 p2)
           ·exact a8d hv q0 (by omega) p1 (by omega) (by rw [p3]; exact q2)
          rw [eq] at h7
          exact evUp (K7 + K8) fun k hk => by rw [a0d.l1, if_pos (by omega), if_pos a0, h7 k (by omega), Option.bind_some, if_pos p1, if_pos (by omega), if_neg (by omega), w64 (by omega) (by omega)]; exact h8 k (by omega)) with ⟨h, h'⟩ | ⟨a, a0, a1, h, _, h'⟩
        ·exact .inl ⟨h, h'⟩
        ·exact .inr ⟨fun hh => h (hh a a0 a1), h'⟩
       obtain ⟨w, ⟨K4, h4⟩, ew⟩ := b6h hv i0 i1 (a0b l i).f1 (a0b l i).f2 (l.take i.toNat) (a9e hm _ (by omega)).2
       dsimp only at h4
       by_cases c3 : afG j l i
       ·have c4 : clP j i (a0b l i).f1 (a0b l i).f2 (l.take i.toNat) := Classical.byContradiction fun h => hg ⟨c1, c2, c3, h⟩
        rcases lo 22 (evUp K4 fun k hk => by rw [a0d.l1, if_neg (by omega), if_pos i0, if_pos (by omega), h4 k hk, Option.bind_some, if_pos (ew.2 c4)]) with ⟨_, K9, h9⟩ | ⟨hn, _⟩
        ·dsimp only at h9
         refine evUp (K2 + K6 + K9 + 1) fun k hk => ?_
         obtain ⟨k, rfl⟩ : ∃ z, k = z + 1 := ⟨k - 1, by omega⟩
         rw [step, a0d.j2, a7y c1, if_neg (by decide), h6 k (by omega), Option.bind_some, h2 k (by omega), Option.bind_some, if_pos (es.2 c2)]
         unfold errC
         rw [if_neg (fun h => h c1), if_neg (fun h => h c2), if_neg (fun h => h c3)]
         exact h9 k (by omega)
        ·exact absurd c3 hn
       ·obtain ⟨e, he⟩ : ∃ e, Ev (fun k => a0d.l1 k j t l i (a0a j i).f3.length (a0a j i).f0 (a0a j i).f1 (a0a j i).f2 (a0a j i).f3 (a0a j i).f4 (a0b l i).f0 (a0b l i).f1 (a0b l i).f2) e ∨ True := ⟨21, .inr trivial⟩
        have hx : Ev (fun k => a0d.l1 k j t l i 0 (a0a j i).f0 (a0a j i).f1 (a0a j i).f2 (a0a j i).f3 (a0a j i).f4 (a0b l i).f0 (a0b l i).f1 (a0b l i).f2) 21 := by
         obtain ⟨a, a0, a1, ha⟩ : ∃ a : Int, 0 ≤ a ∧ a < (a0a j i).f3.length ∧ ¬ (a0b l (a2h (atM j) (rd (a0a j i).f3 a))).f2 ≤ (a0b l i).f1 := Classical.byContradiction fun h => c3 fun a a0 a1 => Classical.byContradiction fun h2 => h ⟨a, a0, a1, h2⟩
         have one : ∀ b : Int, 0 ≤ b → b < (a0a j i).f3.length → ∃ K7, ∀ k, K7 ≤ k → a1m.f k j i (rd (a0a j i).f3 b) = some (a2h (atM j) (rd (a0a j i).f3 b)) := fun b b0 b1 => by
          obtain ⟨p1, p2, p3⟩ := after_at hv i0 i1 b0 b1
          obtain ⟨q, ⟨K7, h7⟩, hq⟩ := a7x j i i0 (by omega) (by omega) (rd (a0a j i).f3 b)
          dsimp only at h7
          have eq : q = a2h (atM j) (rd (a0a j i).f3 b) := by
           rcases hq with ⟨_, hq⟩ | ⟨q0, q1, q2, _⟩
           ·exact absurd p3 (hq _ p1 p2)
           ·exact a8d hv q0 (by omega) p1 (by omega) (by rw [p3]; exact q2)
          rw [eq] at h7
          exact ⟨K7, h7⟩
         have bad : ∀ b : Int, 0 ≤ b → b < (a0a j i).f3.length → ¬ (a0b l (a2h (atM j) (rd (a0a j i).f3 b))).f2 ≤ (a0b l i).f1 → Ev (fun k => a0d.l1 k j t l i b (a0a j i).f0 (a0a j i).f1 (a0a j i).f2 (a0a j i).f3 (a0a j i).f4 (a0b l i).f0 (a0b l i).f1 (a0b l i).f2) 21 := fun b b0 b1 hb => by
          obtain ⟨p1, p2, p3⟩ := after_at hv i0 i1 b0 b1
          obtain ⟨K7, h7⟩ := one b b0 b1
          exact evUp K7 fun k hk => by rw [a0d.l1, if_pos (by omega), if_pos b0, h7 k hk, Option.bind_some, if_pos p1, if_pos (by omega), if_pos (by omega)]
         rcases a5u (fun a k => a0d.l1 k j t l i a (a0a j i).f0 (a0a j i).f1 (a0a j i).f2 (a0a j i).f3 (a0a j i).f4 (a0b l i).f0 (a0b l i).f1 (a0b l i).f2) a a0 (fun a => (a0b l (a2h (atM j) (rd (a0a j i).f3 a))).f2 ≤ (a0b l i).f1) (fun _ => 21) 21 (bad a a0 a1 ha)
          (fun b b0 b1 hb => bad b b0 (by omega) hb)
          (fun b r b0 b1 hb ⟨K8, h8⟩ => by
           obtain ⟨p1, p2, p3⟩ := after_at hv i0 i1 b0 (show b < ((a0a j i).f3.length : Int) by omega)
           obtain ⟨K7, h7⟩ := one b b0 (by omega)
           dsimp only at h8
           exact evUp (K7 + K8) fun k hk => by rw [a0d.l1, if_pos (by omega), if_pos b0, h7 k (by omega), Option.bind_some, if_pos p1, if_pos (by omega), if_neg (by omega), w64 (by omega) (by omega)]; exact h8 k (by omega)) with ⟨_, h⟩ | ⟨_, _, _, _, _, h⟩
         ·exact h
         ·exact h
        obtain ⟨K9, h9⟩ := hx
        dsimp only at h9
        refine evUp (K2 + K6 + K9 + 1) fun k hk => ?_
        obtain ⟨k, rfl⟩ : ∃ z, k = z + 1 := ⟨k - 1, by omega⟩
        rw [step, a0d.j2, a7y c1, if_neg (by decide), h6 k (by omega), Option.bind_some, h2 k (by omega), Option.bind_some, if_pos (es.2 c2)]
        unfold errC
        rw [if_neg (fun h => h c1), if_neg (fun h => h c2), if_pos c3]
        exact h9 k (by omega)
      ·refine evUp (K2 + K6 + 1) fun k hk => ?_
       obtain ⟨k, rfl⟩ : ∃ z, k = z + 1 := ⟨k - 1, by omega⟩
       rw [step, a0d.j2, a7y c1, if_neg (by decide), h6 k (by omega), Option.bind_some, h2 k (by omega), Option.bind_some, if_neg (fun h => c2 (es.1 h))]
       unfold errC
       rw [if_neg (fun h => h c1), if_pos c2]
     ·refine evUp 1 fun k hk => ?_
      obtain ⟨k, rfl⟩ : ∃ z, k = z + 1 := ⟨k - 1, by omega⟩
      rw [step, a0d.j2, b1z c1, if_pos rfl]
      unfold errC
      rw [if_pos c1])
    (fun i r i0 i1 hg ⟨K5, h5⟩ => by
     obtain ⟨g1, g2, g3, g4, g5, g6, g7, g8, g9, g10⟩ := hv.2.2.2 i i0 i1
     have hab := a8f hv i0 i1
     obtain ⟨c1, c2, c3, c4⟩ := hg
     obtain ⟨_, K6, h6⟩ := a8e hv i0 i1
     obtain ⟨s, ⟨K2, h2⟩, es⟩ := b6d (a5p t (a0a j i).f1) (by have := b1b hv i0 i1; omega) (a0b l i).f1 (a0b l i).f2
     obtain ⟨w, ⟨K4, h4⟩, ew⟩ := b6h hv i0 i1 (a0b l i).f1 (a0b l i).f2 (l.take i.toNat) (a9e hm _ (by omega)).2
     dsimp only at h2 h4 h5 h6
     have loop : ∀ (n : Nat) (a : Int), 0 ≤ a → a + n = (a0a j i).f3.length → Ev (fun k => a0d.l1 k j t l i a (a0a j i).f0 (a0a j i).f1 (a0a j i).f2 (a0a j i).f3 (a0a j i).f4 (a0b l i).f0 (a0b l i).f1 (a0b l i).f2) r := by
      intro n
      induction n with
      | zero =>
       intro a a0 ha
       refine evUp (K4 + K5) fun k hk => ?_
       rw [a0d.l1, if_neg (by omega), if_pos i0, if_pos (by omega), h4 k (by omega), Option.bind_some, if_neg (fun h => c4 (ew.1 h)), w64 (by omega) (by omega)]
       exact h5 k (by omega)
      | succ n ih =>
       intro a a0 ha
       obtain ⟨K8, h8⟩ := ih (a + 1) (by omega) (by omega)
       obtain ⟨p1, p2, p3⟩ := after_at hv i0 i1 a0 (show a < ((a0a j i).f3.length : Int) by omega)
       obtain ⟨q, ⟨K7, h7⟩, hq⟩ := a7x j i i0 (by omega) (by omega) (rd (a0a j i).f3 a)
       dsimp only at h7 h8
       have eq : q = a2h (atM j) (rd (a0a j i).f3 a) := by
        rcases hq with ⟨_, hq⟩ | ⟨q0, q1, q2, _⟩
        ·exact absurd p3 (hq _ p1 p2)
        ·exact a8d hv q0 (by omega) p1 (by omega) (by rw [p3]; exact q2)
       rw [eq] at h7
       have := c3 a a0 (by omega)
       exact evUp (K7 + K8) fun k hk => by rw [a0d.l1, if_pos (by omega), if_pos a0, h7 k (by omega), Option.bind_some, if_pos p1, if_pos (by omega), if_neg (by omega), w64 (by omega) (by omega)]; exact h8 k (by omega)
     obtain ⟨K9, h9⟩ := loop (a0a j i).f3.length 0 (by omega) (by omega)
     dsimp only at h9
     refine evUp (K2 + K6 + K9 + 1) fun k hk => ?_
     obtain ⟨k, rfl⟩ : ∃ z, k = z + 1 := ⟨k - 1, by omega⟩
     rw [a0d.l0, if_pos (by omega), if_pos i0, if_pos (by omega)]
     rw [b1c (l := l) (i := i) ⟨g4, g5⟩ (fun b => a0d.j2 (k + 1) j t l i b (a0a j i).f0 (a0a j i).f1 (a0a j i).f2 (a0a j i).f3 (a0a j i).f4 (a0b l i).f0 (a0b l i).f1 (a0b l i).f2)]
     rw [a0d.j2, a7y c1, if_neg (by decide), h6 k (by omega), Option.bind_some, h2 k (by omega), Option.bind_some, if_pos (es.2 c2)]
     exact h9 k (by omega)) with ⟨h2, h3⟩ | ⟨i, i0, i1, h2, h3, h4⟩
   ·exact ⟨0, top _ h3, .inr ⟨⟨hv, hm⟩, .inl ⟨h2, rfl⟩⟩⟩
   ·exact ⟨_, top _ h4, .inr ⟨⟨hv, hm⟩, .inr ⟨i, i0, i1, h2, h3, rfl⟩⟩⟩
  ·refine ⟨1, ⟨K0 + K1 + 1, fun k hk => ?_⟩, .inl ⟨fun h => cm (em.2 h.2), rfl⟩⟩
   obtain ⟨k, rfl⟩ : ∃ z, k = z + 1 := ⟨k - 1, by omega⟩
   dsimp only
   unfold a0d.f
   rw [Bool.not_eq_true] at cm
   rw [h0 _ (by omega), Option.bind_some, h1 _ (by omega), Option.bind_some, if_pos cv, cm, a0d.j0, if_pos (by decide)]
 ·refine ⟨1, ⟨K0 + K1 + 1, fun k hk => ?_⟩, .inl ⟨fun h => cv (ev.2 h.1), rfl⟩⟩
  obtain ⟨k, rfl⟩ : ∃ z, k = z + 1 := ⟨k - 1, by omega⟩
  dsimp only
  unfold a0d.f
  rw [h0 _ (by omega), Option.bind_some, h1 _ (by omega), Option.bind_some, if_neg cv, a0d.j0, if_pos rfl]
end Go.Proofs.Ytheibjkjmkanoaa.Wk
/- Jobs are planned anew: what works and its reference do. Conditions: as_ each theorem states. -/
namespace Go.Proofs.Ytheibjkjmkanoaa.Wk
open Go.RowKit Go.Proofs.YtheibjkjmkanoaaW.PrintWords Go.Proofs.YtheibjkjmkanoaaW.PrintMore Go.Proofs.Ytheibjkjmkanoaa.Given Go.Proofs.Ytheibjkjmkanoaa.Px
set_option linter.unusedVariables false
set_option linter.unusedSimpArgs false
def a8n (j : List S51) (old : List S42) (day : Int) (missed : List Int) (f : List S42) (i : Int) : Prop :=
 (a0b old i).f1 < day ∧ ¬ inP missed (jid j i) ∧ ∀ a : Int, 0 ≤ a → a < (a0a j i).f3.length → 0 < (a0b f (a2h (atM j) (rd (a0a j i).f3 a))).f2
open Classical in
noncomputable def kpN (j : List S51) (old : List S42) (day : Int) (missed : List Int) : Nat → List S42
 | 0 => List.replicate j.length z42
 | n + 1 => if a8n j old day missed (kpN j old day missed n) (n : Int) then (kpN j old day missed n).set n (a0b old (n : Int)) else kpN j old day missed n
noncomputable def kept (j : List S51) (old : List S42) (day : Int) (missed : List Int) : List S42 := kpN j old day missed j.length
def okP (j : List S51) (t : List S58) (l : List S42) : Prop := vaP j t ∧ maP j l ∧ ∀ i : Int, 0 ≤ i → i < j.length → ckG j t l i
theorem a6z (j : List S51) (old : List S42) (day : Int) (missed : List Int) : ∀ n, (kpN j old day missed n).length = j.length
 | 0 => List.length_replicate
 | n + 1 => by
  rw [kpN]
  split
  ·rw [List.length_set, a6z j old day missed n]
  ·exact a6z j old day missed n
theorem a8t (j : List S51) (old : List S42) (day : Int) (missed : List Int) : ∀ n : Nat, n ≤ j.length → ∀ k : Int, 0 ≤ k →
  (k < n ∧ a8n j old day missed (kpN j old day missed k.toNat) k ∧ a0b (kpN j old day missed n) k = a0b old k) ∨ ((n ≤ k ∨ ¬ a8n j old day missed (kpN j old day missed k.toNat) k) ∧ a0b (kpN j old day missed n) k = z42)
 | 0, _, k, k0 => .inr ⟨.inl (by omega), a8m⟩
 | n + 1, h, k, k0 => by
  have ih := a8t j old day missed n (by omega) k k0
  have hl := a6z j old day missed n
  by_cases c : a8n j old day missed (kpN j old day missed n) (n : Int)
  ·rw [kpN, if_pos c]
   have e : a0b ((kpN j old day missed n).set n (a0b old (n : Int))) k = if k = (n : Int) then a0b old (n : Int) else a0b (kpN j old day missed n) k := by
    have := b2j (kpN j old day missed n) (i := (n : Int)) (by omega) (by omega) (a0b old (n : Int)) k0
    rwa [Int.toNat_natCast] at this
   rw [e]
   by_cases d : k = (n : Int)
   ·rw [if_pos d]
    refine .inl ⟨by omega, ?_, by rw [d]⟩
    rw [d, Int.toNat_natCast]
    exact c
   ·rw [if_neg d]
    rcases ih with ⟨h1, h2, h3⟩ | ⟨h1, h2⟩
    ·exact .inl ⟨by omega, h2, h3⟩
    ·refine .inr ⟨?_, h2⟩
     rcases h1 with h1 | h1
     ·exact .inl (by omega)
     ·exact .inr h1
  ·rw [kpN, if_neg c]
   rcases ih with ⟨h1, h2, h3⟩ | ⟨h1, h2⟩
   ·exact .inl ⟨by omega, h2, h3⟩
   ·refine .inr ⟨?_, h2⟩
    rcases h1 with h1 | h1
    ·by_cases d : k = (n : Int)
     ·refine .inr ?_
      rw [d, Int.toNat_natCast]
      exact c
     ·exact .inl (by omega)
    ·exact .inr h1
theorem ok_b {j : List S51} {t : List S58} {l : List S42} (h : okP j t l) {i : Int} (i0 : 0 ≤ i) (i1 : i < j.length) : 0 ≤ (a0b l i).f1 ∧ 1 ≤ (a0b l i).f2 ∧ (a0b l i).f2 ≤ 36525 ∧ (a0b l i).f0 = jid j i := by
 obtain ⟨hv, hm, hc⟩ := h
 obtain ⟨⟨c1, c2, c3⟩, c4, _⟩ := hc i i0 i1
 obtain ⟨g1, g2, g3, g4, g5, _⟩ := hv.2.2.2 i i0 i1
 have := c2q (a8e hv i0 i1).1 c4
 exact ⟨c1, by omega, this.2, hm.2 i i0 i1⟩
theorem b3s {j : List S51} {t : List S58} {old : List S42} (h : okP j t old) (day : Int) (missed : List Int) {n : Nat} (hn : n ≤ j.length) : fxP j (kpN j old day missed n) ∧ ∀ k : Int, 0 ≤ k → 0 ≤ (a0b (kpN j old day missed n) k).f2 := by
 refine ⟨⟨fun k k0 k1 hk => ?_, fun k k0 k1 => ?_⟩, fun k k0 => ?_⟩
 ·rcases a8t j old day missed n hn k k0 with ⟨a, _, e⟩ | ⟨_, e⟩
  ·rw [e]; exact (ok_b h k0 (by omega)).2.2.2
  ·rw [e] at hk; exact absurd hk (by decide)
 ·rcases a8t j old day missed n hn k k0 with ⟨a, _, e⟩ | ⟨_, e⟩
  ·rw [e]; exact (ok_b h k0 (by omega)).2.2.1
  ·rw [e]; decide
 ·rcases a8t j old day missed n hn k k0 with ⟨a, _, e⟩ | ⟨_, e⟩
  ·rw [e]; have := (ok_b h k0 (show k < (j.length : Int) by omega)).2.1; omega
  ·rw [e]; decide
def agP (j : List S51) (t : List S58) (old : List S42) (day : Int) (missed : List Int) : Prop :=
 okP j t old ∧ 0 ≤ day ∧ day ≤ 36524 ∧ riP missed 1 1000 ∧ ∀ a : Int, 0 ≤ a → a < missed.length → ∃ n : Int, 0 ≤ n ∧ n < j.length ∧ jid j n = rd missed a
open Classical in
noncomputable def a5w (j : List S51) (t : List S58) (old : List S42) (day : Int) (missed : List Int) : List S42 × Int :=
 if agP j t old day missed then encF (a6n j t day (kept j old day missed)) else ([], 1)
theorem c3x {j : List S51} {t : List S58} (hv : vaP j t) {f : List S42} (hl : f.length = j.length) {i : Int} (i0 : 0 ≤ i) (i1 : i < j.length) (F : List (Int × List S56)) :
  ∃ r, Ev (fun k => a2t.f k (a0a j i).f3 f j (atM j) F) r ∧ (r = true ↔ ∃ q : Int, 0 ≤ q ∧ q < (a0a j i).f3.length ∧ (a0b f (a2h (atM j) (rd (a0a j i).f3 q))).f2 = 0) := by
 have hb := a8f hv i0 i1
 obtain ⟨r, ⟨K, hK⟩, hr⟩ := a7t (fun q k => a0x.l0 k (a0a j i).f3 ((a0a j i).f3.length : Int) q (atM j) F f j) (a0a j i).f3.length (by omega) (fun q => (a0b f (a2h (atM j) (rd (a0a j i).f3 q))).f2 = 0)
  (evUp 0 fun k _ => by rw [a0x.l0, if_neg (by omega)])
  (fun q q0 q1 h => by
   obtain ⟨a1, a2, _⟩ := after_at hv i0 i1 q0 q1
   exact evUp 0 fun k _ => by rw [a0x.l0, if_pos (by omega), if_pos q0, if_pos (by omega), a5j.f, if_pos a1, if_pos (by omega), Option.bind_some, if_pos (by rw [beq_iff_eq]; exact h)])
  (fun q r q0 q1 h ⟨K, hK⟩ => by
   obtain ⟨a1, a2, _⟩ := after_at hv i0 i1 q0 q1
   exact evUp K fun k hk => by
    rw [a0x.l0, if_pos (by omega), if_pos q0, if_pos (by omega), a5j.f, if_pos a1, if_pos (by omega), Option.bind_some, if_neg (by rw [beq_iff_eq]; exact h), w64 (by omega) (by omega)]
    exact hK k hk)
 refine ⟨decide (r ≥ 0), ⟨K, fun k hk => ?_⟩, a9c hr⟩
 dsimp only at hK ⊢
 unfold a2t.f a0x.f
 rw [hK k hk, Option.bind_some]
theorem c3y {j : List S51} {t : List S58} {old : List S42} (h : okP j t old) {day : Int} (d0 : 0 ≤ day) (d1 : day ≤ 36524) (missed : List Int) (hmi : (missed.length : Int) ≤ 1000000) :
  ∀ (n : Nat) (i : Int), 0 ≤ i → i + n = j.length → Ev (fun k => a0t.l1 k j day missed old (j.length : Int) i (atM j) (a4t t (frM t)) j (kpN j old day missed i.toNat)) (encF (a6n j t day (kept j old day missed))) := by
 have hv := h.1
 have hj := hv.2.1
 have hlen := h.2.1.1
 intro n
 induction n with
 | zero =>
  intro i i0 hi
  obtain ⟨K, hK⟩ := b7u hv d0 (show day ≤ 36525 by omega) (kept j old day missed) (a6z j old day missed _) (b3s h day missed (Nat.le_refl _)).1
  refine evUp K fun k hk => ?_
  dsimp only at hK
  unfold kept at hK
  rw [a0t.l1, if_neg (by omega), show i.toNat = j.length by omega, hK k hk, Option.bind_some]
  rfl
 | succ n ih =>
  intro i i0 hi
  obtain ⟨K, hK⟩ := ih (i + 1) (by omega) (by omega)
  have hl := a6z j old day missed i.toNat
  obtain ⟨s, ⟨K1, h1⟩, es⟩ := a8l missed (by omega) (a0b old i).f0
  obtain ⟨u, ⟨K2, h2⟩, eu⟩ := c3x hv hl i0 (show i < (j.length : Int) by omega) (a4t t (frM t))
  have e0 : (a0b old i).f0 = jid j i := h.2.1.2 i i0 (by omega)
  have hnn := (b3s h day missed (show i.toNat ≤ j.length by omega)).2
  dsimp only at hK h1 h2
  have nxt : kpN j old day missed (i + 1).toNat = @ite _ (a8n j old day missed (kpN j old day missed i.toNat) i) (Classical.propDecidable _) ((kpN j old day missed i.toNat).set i.toNat (a0b old i)) (kpN j old day missed i.toNat) := by
   rw [show (i + 1).toNat = i.toNat + 1 by omega, kpN, Int.toNat_of_nonneg i0]
  have yes : a8n j old day missed (kpN j old day missed i.toNat) i → ∀ k, K ≤ k → a0t.j3 (k + 1) j day missed i old (j.length : Int) i true (atM j) (a4t t (frM t)) j (kpN j old day missed i.toNat) (a0b old i).f0 (a0b old i).f1 (a0b old i).f2 = some (encF (a6n j t day (kept j old day missed))) := fun hk k hkk => by
   rw [a0t.j3, if_pos rfl, if_pos i0, if_pos (by omega), w64 (by omega) (by omega)]
   have := hK k hkk
   rw [nxt, @if_pos _ (Classical.propDecidable _) hk] at this
   exact this
  have no : ¬ a8n j old day missed (kpN j old day missed i.toNat) i → ∀ k, K ≤ k → a0t.j3 (k + 1) j day missed i old (j.length : Int) i false (atM j) (a4t t (frM t)) j (kpN j old day missed i.toNat) (a0b old i).f0 (a0b old i).f1 (a0b old i).f2 = some (encF (a6n j t day (kept j old day missed))) := fun hk k hkk => by
   rw [a0t.j3, if_neg (by decide), w64 (by omega) (by omega)]
   have := hK k hkk
   rw [nxt, @if_neg _ (Classical.propDecidable _) hk] at this
   exact this
  refine evUp (K + K1 + K2 + 1) fun k hk => ?_
  obtain ⟨k, rfl⟩ : ∃ z, k = z + 1 := ⟨k - 1, by omega⟩
  rw [a0t.l1, if_pos (by omega), if_pos i0, if_pos (by omega)]
  by_cases c1 : (a0b old i).f1 < day
  ·rw [if_pos c1, h1 _ (by omega), Option.bind_some]
   by_cases c2 : s = true
   ·rw [if_pos c2]
    exact no (fun g => g.2.1 (by rw [← e0]; exact es.1 c2)) k (by omega)
   ·rw [if_neg c2, if_pos (by omega), h2 _ (by omega), Option.bind_some]
    by_cases c3 : u = true
    ·rw [c3]
     exact no (fun g => by obtain ⟨q, q0, q1, hq⟩ := eu.1 c3; have := g.2.2 q q0 q1; omega) k (by omega)
    ·have hk : a8n j old day missed (kpN j old day missed i.toNat) i := ⟨c1, fun g => c2 (es.2 (by rw [e0]; exact g)), fun a a0 a1 => by
      obtain ⟨p1, _, _⟩ := after_at hv i0 (show i < (j.length : Int) by omega) a0 a1
      have := hnn _ p1
      by_cases z : (a0b (kpN j old day missed i.toNat) (a2h (atM j) (rd (a0a j i).f3 a))).f2 = 0
      ·exact absurd (eu.2 ⟨a, a0, a1, z⟩) c3
      ·omega⟩
     rw [Bool.not_eq_true] at c3
     rw [c3]
     exact yes hk k (by omega)
  ·rw [if_neg c1]
   exact no (fun g => c1 g.1) k (by omega)
theorem b6n (j : List S51) (t : List S58) (hb : bdP j t) (old : List S42) (day : Int) (missed : List Int) (hmi : (missed.length : Int) ≤ 1000000) : Ev (fun k => a0t.f k j t old day missed) (a5w j t old day missed) := by
 unfold a5w
 obtain ⟨r, ⟨K0, h0⟩, hr⟩ := b6m j t hb old
 dsimp only at h0
 by_cases c0 : r = 0
 ·rw [c0] at hr h0
  have hok : okP j t old := b6k hr
  have hv := hok.1
  have hj := hv.2.1
  by_cases c1 : day < 0
  ·rw [@if_neg _ (Classical.propDecidable _) (fun h => by have := h.2.1; omega)]
   refine ⟨K0 + 1, fun k hk => ?_⟩
   obtain ⟨k, rfl⟩ : ∃ z, k = z + 1 := ⟨k - 1, by omega⟩
   dsimp only
   unfold a0t.f
   rw [h0 _ (by omega), Option.bind_some, if_pos rfl, if_pos c1, a0t.j0, if_pos rfl]
  by_cases c2 : day > 36524
  ·rw [@if_neg _ (Classical.propDecidable _) (fun h => by have := h.2.2.1; omega)]
   refine ⟨K0 + 1, fun k hk => ?_⟩
   obtain ⟨k, rfl⟩ : ∃ z, k = z + 1 := ⟨k - 1, by omega⟩
   dsimp only
   unfold a0t.f
   rw [h0 _ (by omega), Option.bind_some, if_pos rfl, if_neg c1, if_pos c2, a0t.j0, if_pos rfl]
  obtain ⟨w, ⟨K1, h1⟩, ew⟩ := a8s missed (by omega) 1 1000
  dsimp only at h1
  by_cases c3 : w = true
  ·rcases b4l j t hb with ⟨_, K2, h2⟩ | ⟨hn, _⟩
   ·dsimp only at h2
    have top : ∀ r, Ev (fun k => a0t.l0 k j old day missed missed (missed.length : Int) 0 (atM j) (a4t t (frM t)) j) r → Ev (fun k => a0t.f k j t old day missed) r := fun r ⟨K, hK⟩ => ⟨K0 + K1 + K2 + K + 1, fun k hk => by
     obtain ⟨k, rfl⟩ : ∃ z, k = z + 1 := ⟨k - 1, by omega⟩
     dsimp only at hK ⊢
     unfold a0t.f
     rw [h0 _ (by omega), Option.bind_some, if_pos rfl, if_neg c1, if_neg c2, h1 _ (by omega), Option.bind_some, c3]
     show a0t.j0 (k + 1) j t old day missed false = _
     rw [a0t.j0, if_neg (by decide), h2 k (by omega), Option.bind_some, if_pos rfl]
     exact hK k (by omega)⟩
    obtain ⟨K3, h3⟩ := c3y hok (show 0 ≤ day by omega) (by omega) missed hmi j.length 0 (by omega) (by omega)
    dsimp only at h3
    rcases a5u (fun i k => a0t.l0 k j old day missed missed (missed.length : Int) i (atM j) (a4t t (frM t)) j) missed.length (by omega) (fun a => ∃ n : Int, 0 ≤ n ∧ n < j.length ∧ jid j n = rd missed a) (fun _ => (([] : List S42), 1)) (encF (a6n j t day (kept j old day missed)))
     (evUp K3 fun k hk => by
      rw [a0t.l0, if_neg (by omega), if_pos (by omega), if_pos (by rw [Int.toNat_natCast]; omega), Int.toNat_natCast, hok.2.1.1]
      exact h3 k hk)
     (fun a a0 a1 ha => evUp 0 fun k _ => by
      rw [a0t.l0, if_pos (by omega), if_pos a0, if_pos (by omega), if_neg]
      intro h
      exact ha ((b0k (jid j) j.length (rd missed a)).1 h))
     (fun a r a0 a1 ha ⟨K, hK⟩ => evUp K fun k hk => by
      rw [a0t.l0, if_pos (by omega), if_pos a0, if_pos (by omega), if_pos (show mhas (atM j) (rd missed a) = true from (b0k (jid j) j.length (rd missed a)).2 ha), w64 (by omega) (by omega)]
      exact hK k hk) with ⟨g1, g2⟩ | ⟨a, a0, a1, g1, _, g2⟩
    ·rw [@if_pos _ (Classical.propDecidable _) ⟨hok, by omega, by omega, ew.1 c3, g1⟩]
     exact top _ g2
    ·rw [@if_neg _ (Classical.propDecidable _) (fun h => g1 (h.2.2.2.2 a a0 a1))]
     exact top _ g2
   ·exact absurd hv hn
  ·rw [@if_neg _ (Classical.propDecidable _) (fun h => c3 (ew.2 h.2.2.2.1))]
   refine ⟨K0 + K1 + 1, fun k hk => ?_⟩
   obtain ⟨k, rfl⟩ : ∃ z, k = z + 1 := ⟨k - 1, by omega⟩
   dsimp only
   unfold a0t.f
   rw [Bool.not_eq_true] at c3
   rw [h0 _ (by omega), Option.bind_some, if_pos rfl, if_neg c1, if_neg c2, h1 _ (by omega), Option.bind_some, c3]
   show a0t.j0 (k + 1) j t old day missed true = _
   rw [a0t.j0, if_pos rfl]
 ·rw [@if_neg _ (Classical.propDecidable _) (fun h => c0 (b7v hr (.inr ⟨⟨h.1.1, h.1.2.1⟩, .inl ⟨h.1.2.2, rfl⟩⟩)))]
  refine ⟨K0 + 1, fun k hk => ?_⟩
  obtain ⟨k, rfl⟩ : ∃ z, k = z + 1 := ⟨k - 1, by omega⟩
  dsimp only
  unfold a0t.f
  rw [h0 _ (by omega), Option.bind_some, if_neg c0, a0t.j0, if_pos rfl]
theorem b9b {j : List S51} {t : List S58} {old : List S42} (hv : vaP j t) (hlen : old.length = j.length) (day : Int) (missed : List Int) (hmi : (missed.length : Int) ≤ 1000000) : Ev (fun k => a0u.f k j old day missed) (kept j old day missed) := by
 have hj := hv.2.1
 have main : ∀ (n : Nat) (i : Int), 0 ≤ i → i + n = j.length → Ev (fun k => a0u.l0 k j old day missed (kpN j old day missed i.toNat) i) (kept j old day missed) := by
  intro n
  induction n with
  | zero =>
   intro i i0 hi
   exact evUp 0 fun k _ => by rw [a0u.l0, if_neg (by omega), show i.toNat = j.length by omega]; rfl
  | succ n ih =>
   intro i i0 hi
   have i1 : i < (j.length : Int) := by omega
   obtain ⟨K, hK⟩ := ih (i + 1) (by omega) (by omega)
   have hl := a6z j old day missed i.toNat
   have hab := a8f hv i0 i1
   obtain ⟨s, ⟨K1, h1⟩, es⟩ := b8z missed (by omega) (a0a j i).f0
   dsimp only at hK h1
   have nxt : kpN j old day missed (i + 1).toNat = @ite _ (a8n j old day missed (kpN j old day missed i.toNat) i) (Classical.propDecidable _) ((kpN j old day missed i.toNat).set i.toNat (a0b old i)) (kpN j old day missed i.toNat) := by
    rw [show (i + 1).toNat = i.toNat + 1 by omega, kpN, Int.toNat_of_nonneg i0]
   have loop : ∀ (m : Nat) (a : Int) (b : Bool), 0 ≤ a → a + m = (a0a j i).f3.length → ((b = true ∧ ∀ q : Int, a ≤ q → q < (a0a j i).f3.length → 0 < (a0b (kpN j old day missed i.toNat) (a2h (atM j) (rd (a0a j i).f3 q))).f2) ↔ a8n j old day missed (kpN j old day missed i.toNat) i) →
     Ev (fun k => a0u.l1 k j old day missed (kpN j old day missed i.toNat) i b a) (kept j old day missed) := by
    intro m
    induction m with
    | zero =>
     intro a b a0 ha hb
     refine evUp K fun k hk => ?_
     rw [a0u.l1, if_pos i0, if_pos i1, if_neg (by omega), w64 (by omega) (by omega)]
     have := hK k hk
     rw [nxt] at this
     by_cases c : b = true
     ·rw [if_pos c, if_pos (by omega), if_pos (by omega)]
      rw [@if_pos _ (Classical.propDecidable _) (hb.1 ⟨c, fun q q0 q1 => by omega⟩)] at this
      exact this
     ·rw [if_neg c]
      rw [@if_neg _ (Classical.propDecidable _) (fun h => c (hb.2 h).1)] at this
      exact this
    | succ m ihm =>
     intro a b a0 ha hb
     obtain ⟨p1, p2, p3⟩ := after_at hv i0 i1 a0 (show a < ((a0a j i).f3.length : Int) by omega)
     by_cases c : b = true
     ·obtain ⟨q, ⟨K7, h7⟩, hq⟩ := a7x j i i0 (by omega) (by omega) (rd (a0a j i).f3 a)
      have eq : q = a2h (atM j) (rd (a0a j i).f3 a) := by
       rcases hq with ⟨_, hq⟩ | ⟨q0, q1, q2, _⟩
       ·exact absurd p3 (hq _ p1 p2)
       ·exact a8d hv q0 (by omega) p1 (by omega) (by rw [p3]; exact q2)
      rw [eq] at h7
      obtain ⟨K8, h8⟩ := ihm (a + 1) (decide ((a0b (kpN j old day missed i.toNat) (a2h (atM j) (rd (a0a j i).f3 a))).f2 > 0)) (by omega) (by omega) (by
       rw [← hb, decide_eq_true_eq]
       refine ⟨fun ⟨g1, g2⟩ => ⟨c, fun q q0 q1 => ?_⟩, fun ⟨_, g⟩ => ⟨g a (Int.le_refl _) (by omega), fun q q0 q1 => g q (by omega) q1⟩⟩
       by_cases e : q = a
       ·rw [e]; exact g1
       ·exact g2 q (by omega) q1)
      dsimp only at h7 h8
      refine evUp (K7 + K8) fun k hk => ?_
      rw [a0u.l1, if_pos i0, if_pos i1, if_pos (by omega), if_pos c, if_pos a0, h7 k (by omega), Option.bind_some, if_pos p1, if_pos (by omega), w64 (by omega) (by omega)]
      exact h8 k (by omega)
     ·obtain ⟨K8, h8⟩ := ihm (a + 1) false (by omega) (by omega) ⟨fun h => by simp at h, fun h => absurd (hb.2 h).1 c⟩
      refine evUp K8 fun k hk => ?_
      rw [a0u.l1, if_pos i0, if_pos i1, if_pos (by omega), if_neg c, w64 (by omega) (by omega)]
      exact h8 k hk
   have top : ∀ b : Bool, (b = true ↔ (a0b old i).f1 < day ∧ ¬ inP missed (jid j i)) → Ev (fun k => a0u.j1 k j old day missed (kpN j old day missed i.toNat) i b) (kept j old day missed) := fun b hb => by
    obtain ⟨K9, h9⟩ := loop (a0a j i).f3.length 0 b (by omega) (by omega) ⟨fun ⟨g1, g2⟩ => ⟨(hb.1 g1).1, (hb.1 g1).2, g2⟩, fun g => ⟨hb.2 ⟨g.1, g.2.1⟩, g.2.2⟩⟩
    exact evUp K9 fun k hk => by rw [a0u.j1]; exact h9 k hk
   by_cases c : s = true
   ·obtain ⟨K9, h9⟩ := top false ⟨fun h => by simp at h, fun h => absurd (es.1 c) h.2⟩
    dsimp only at h9
    refine evUp (K1 + K9) fun k hk => ?_
    rw [a0u.l0, if_pos (by omega), if_pos i0, h1 k (by omega), Option.bind_some, if_pos c]
    exact h9 k (by omega)
   ·obtain ⟨K9, h9⟩ := top (decide ((a0b old i).f1 < day)) (by rw [decide_eq_true_eq]; exact ⟨fun h => ⟨h, fun g => c (es.2 g)⟩, fun h => h.1⟩)
    dsimp only at h9
    refine evUp (K1 + K9) fun k hk => ?_
    rw [a0u.l0, if_pos (by omega), if_pos i0, h1 k (by omega), Option.bind_some, if_neg c, if_pos (by omega)]
    exact h9 k (by omega)
 obtain ⟨K, hK⟩ := main j.length 0 (by omega) (by omega)
 refine ⟨K, fun k hk => ?_⟩
 dsimp only at hK ⊢
 unfold a0u.f
 rw [if_pos (by omega), if_pos (by rw [Int.toNat_natCast]; omega), Int.toNat_natCast]
 exact hK k hk
end Go.Proofs.Ytheibjkjmkanoaa.Wk
/- What is planned is a plan: each slot is the first good one beside those before it and those that are fixed. Conditions: as_ each theorem states. -/
namespace Go.Proofs.Ytheibjkjmkanoaa.Wk
open Go.RowKit Go.Proofs.YtheibjkjmkanoaaW.PrintWords Go.Proofs.YtheibjkjmkanoaaW.PrintMore Go.Proofs.Ytheibjkjmkanoaa.Given Go.Proofs.Ytheibjkjmkanoaa.Px
set_option linter.unusedVariables false
set_option linter.unusedSimpArgs false
def midP (f r : List S42) (k : Int) (m : List S42) : Prop := m.length = f.length ∧ ∀ q : Int, 0 ≤ q → q < f.length → ((q < k ∨ 0 < (a0b f q).f2) → a0b m q = a0b r q) ∧ (¬ (q < k ∨ 0 < (a0b f q).f2) → a0b m q = a0b f q)
theorem b7w {j : List S51} {t : List S58} (hv : vaP j t) {day : Int} (h1 : 0 ≤ day) (h2 : day ≤ 36525) : ∀ (n : Nat) (i : Int) (f r : List S42), 0 ≤ i → i + n = j.length → f.length = j.length → fxP j f → a7k j t day n i f = some r →
  (r.length = f.length ∧ ∀ q : Int, 0 ≤ q → q < f.length → (q < i ∨ 0 < (a0b f q).f2) → a0b r q = a0b f q) ∧
  ∀ k : Int, i ≤ k → k < f.length → ¬ 0 < (a0b f k).f2 → ∃ m s, midP f r k m ∧ fxP j m ∧ plS j (a5p t (a0a j k).f1) k (a0a j k).f2 (lowF j m k day) m (some s) ∧ a0b r k = ⟨jid j k, s, s + (a0a j k).f2⟩ := by
 intro n
 induction n with
 | zero =>
  intro i f r i0 hi hl hx h
  rw [a7k] at h
  obtain rfl := Option.some.inj h
  exact ⟨⟨rfl, fun _ _ _ _ => rfl⟩, fun k k0 k1 => by omega⟩
 | succ n ih =>
  intro i f r i0 hi hl hx h
  have i1 : i < (j.length : Int) := by omega
  rw [a7k] at h
  by_cases c : 0 < (a0b f i).f2
  ·rw [if_pos c] at h
   obtain ⟨⟨g0, g1⟩, g2⟩ := ih (i + 1) f r (by omega) (by omega) hl hx h
   refine ⟨⟨g0, fun q q0 q1 hq => g1 q q0 q1 (by omega)⟩, fun k k0 k1 hk => ?_⟩
   by_cases e : k = i
   ·rw [e] at hk; exact absurd c hk
   ·exact g2 k (by omega) k1 hk
  ·rw [if_neg c] at h
   obtain ⟨hp, _⟩ := b7t hv i0 i1 f hl hx h1 h2 (by have := a8f hv i0 i1; omega)
   cases e : b1a j (a5p t (a0a j i).f1) i (a0a j i).f2 (lowF j f i day) f with
   | none => rw [e] at h; simp at h
   | some s =>
    rw [e] at h hp
    have hb := b6j hv i0 i1 hp
    have hx2 := c0t hx i0 (show i < (f.length : Int) by omega) (v := ⟨jid j i, s, s + (a0a j i).f2⟩) rfl hb.2
    have hl2 : (f.set i.toNat (⟨jid j i, s, s + (a0a j i).f2⟩ : S42)).length = f.length := List.length_set
    obtain ⟨⟨g0, g1⟩, g2⟩ := ih (i + 1) _ r (by omega) (by omega) (by rw [hl2]; exact hl) hx2 h
    rw [hl2] at g0 g1 g2
    have sv : ∀ q : Int, 0 ≤ q → a0b (f.set i.toNat (⟨jid j i, s, s + (a0a j i).f2⟩ : S42)) q = if q = i then ⟨jid j i, s, s + (a0a j i).f2⟩ else a0b f q := fun q q0 => b2j f i0 (by omega) _ q0
    have first : ∀ q : Int, 0 ≤ q → q < f.length → (q < i ∨ 0 < (a0b f q).f2) → a0b r q = a0b f q := fun q q0 q1 hq => by
     have ne : q ≠ i := fun e => by
      rw [e] at hq
      rcases hq with hq | hq
      ·omega
      ·exact c hq
     have := g1 q q0 q1 (by
      rw [sv q q0, if_neg ne]
      rcases hq with hq | hq
      ·exact .inl (by omega)
      ·exact .inr hq)
     rw [this, sv q q0, if_neg ne]
    refine ⟨⟨g0, first⟩, fun k k0 k1 hk => ?_⟩
    by_cases d : k = i
    ·subst d
     refine ⟨f, s, ⟨rfl, fun q q0 q1 => ⟨fun hq => (first q q0 q1 hq).symm, fun _ => rfl⟩⟩, hx, hp, ?_⟩
     rw [g1 k i0 k1 (.inl (by omega)), sv k i0, if_pos rfl]
    ·obtain ⟨m, s2, ⟨m1, m2⟩, m3, m4, m5⟩ := g2 k (by omega) k1 (by rw [sv k (by omega), if_neg d]; exact hk)
     rw [hl2] at m1 m2
     refine ⟨m, s2, ⟨m1, fun q q0 q1 => ?_⟩, m3, m4, m5⟩
     obtain ⟨a1, a2⟩ := m2 q q0 q1
     rw [sv q q0] at a1 a2
     by_cases z : q = i
     ·exact ⟨fun _ => a1 (.inl (by omega)), fun hh => absurd (.inl (by omega)) hh⟩
     ·rw [if_neg z] at a1 a2
      exact ⟨a1, a2⟩
def b9c (j : List S51) (t : List S58) (f : List S42) : Prop := ∀ k : Int, 0 ≤ k → k < f.length → 0 < (a0b f k).f2 →
 raG j f k ∧ suG j t f k ∧ (∀ a : Int, 0 ≤ a → a < (a0a j k).f3.length → 0 < (a0b f (a2h (atM j) (rd (a0a j k).f3 a))).f2 ∧ (a0b f (a2h (atM j) (rd (a0a j k).f3 a))).f2 ≤ (a0b f k).f1) ∧
 ∀ q : Int, 0 ≤ q → q < k → ¬ clA j k (a0b f k).f1 (a0b f k).f2 f q
theorem b2a (l : List S42) (n : Nat) {q : Int} (q0 : 0 ≤ q) (q1 : q < n) : a0b (l.take n) q = a0b l q := by
 unfold a0b
 rw [List.getD_eq_getElem?_getD, List.getD_eq_getElem?_getD, List.getElem?_take, if_pos (by omega)]
theorem b2b {j : List S51} {i a b : Int} {f g : List S42} {k : Int} (e : a0b f k = a0b g k) (h : clA j i a b f k) : clA j i a b g k := by
 unfold clA at h ⊢
 rw [e] at h
 exact h
theorem b7x {j : List S51} {t : List S58} (hv : vaP j t) {day : Int} (h1 : 0 ≤ day) (h2 : day ≤ 36525) {f r : List S42} (hl : f.length = j.length) (hx : fxP j f) (hf : b9c j t f) (h : a6n j t day f = some r) :
  okP j t r ∧ (∀ k : Int, 0 ≤ k → k < j.length → 0 < (a0b f k).f2 → a0b r k = a0b f k) ∧ ∀ k : Int, 0 ≤ k → k < j.length → ¬ 0 < (a0b f k).f2 → day ≤ (a0b r k).f1 := by
 obtain ⟨⟨g0, g1⟩, g2⟩ := b7w hv h1 h2 j.length 0 f r (by omega) (by omega) hl hx h
 have fixed : ∀ k : Int, 0 ≤ k → k < j.length → 0 < (a0b f k).f2 → a0b r k = a0b f k := fun k k0 k1 hk => g1 k k0 (by omega) (.inr hk)
 have planned : ∀ k : Int, 0 ≤ k → k < j.length → ¬ 0 < (a0b f k).f2 → ∃ m s, midP f r k m ∧ plS j (a5p t (a0a j k).f1) k (a0a j k).f2 (lowF j m k day) m (some s) ∧ a0b r k = ⟨jid j k, s, s + (a0a j k).f2⟩ ∧ day ≤ s ∧ 0 ≤ s ∧ s + (a0a j k).f2 ≤ 36525 ∧
   ∀ a : Int, 0 ≤ a → a < (a0a j k).f3.length → (a0b r (a2h (atM j) (rd (a0a j k).f3 a))).f2 ≤ s := fun k k0 k1 hk => by
  obtain ⟨m, s, hm, hmx, hp, hr⟩ := g2 k k0 (by omega) hk
  have hb := b6j hv k0 k1 hp
  obtain ⟨l1, l2, l3⟩ := c2r hv k0 k1 (by rw [hm.1]; exact hl) hmx.2 h1 h2
  have hs := hp.1
  refine ⟨m, s, hm, hp, hr, by omega, hb.1, hb.2, fun a a0 a1 => ?_⟩
  obtain ⟨p1, p2, _⟩ := after_at hv k0 k1 a0 a1
  have := l3 a a0 a1
  rw [(hm.2 _ p1 (by omega)).1 (.inl p2)] at this
  omega
 refine ⟨⟨hv, ⟨by omega, fun k k0 k1 => ?_⟩, fun k k0 k1 => ?_⟩, fixed, fun k k0 k1 hk => ?_⟩
 ·by_cases c : 0 < (a0b f k).f2
  ·rw [fixed k k0 k1 c]
   exact hx.1 k k0 (by omega) c
  ·obtain ⟨m, s, _, _, hr, _⟩ := planned k k0 k1 c
   rw [hr]
   rfl
 ·have hd := (hv.2.2.2 k k0 k1).2.2.2.1
  by_cases c : 0 < (a0b f k).f2
  ·obtain ⟨c1, c2, c3, c4⟩ := hf k k0 (by omega) c
   have e := fixed k k0 k1 c
   refine ⟨?_, ?_, fun a a0 a1 => ?_, ?_⟩
   ·unfold raG at c1 ⊢; rw [e]; exact c1
   ·unfold suG at c2 ⊢; rw [e]; exact c2
   ·obtain ⟨p1, p2, _⟩ := after_at hv k0 k1 a0 a1
    obtain ⟨q1, q2⟩ := c3 a a0 a1
    rw [e, fixed _ p1 (by omega) q1]
    exact q2
   ·rintro ⟨q, q0, q1, hq⟩
    rw [List.length_take] at q1
    have hq2 : clA j k (a0b f k).f1 (a0b f k).f2 r q := by
     rw [e] at hq
     exact b2b (b2a r k.toNat q0 (by omega)) hq
    by_cases d : 0 < (a0b f q).f2
    ·exact c4 q q0 (by omega) (b2b (fixed q q0 (by omega) d) hq2)
    ·obtain ⟨m, s, hm, hp, hr, _⟩ := planned q q0 (by omega) d
     have ek : a0b m k = a0b f k := by rw [(hm.2 k k0 (by omega)).1 (.inr c), e]
     unfold clA at hq2
     rw [hr] at hq2
     simp only at hq2
     refine hp.2.1.2 ⟨k, k0, by rw [hm.1]; omega, ?_⟩
     unfold clA
     rw [ek]
     exact ⟨c, by omega, by omega, by omega, c0o hq2.2.2.2.2⟩
  ·obtain ⟨m, s, hm, hp, hr, s1, s2, s3, s4⟩ := planned k k0 k1 c
   refine ⟨?_, ?_, fun a a0 a1 => ?_, ?_⟩
   ·unfold raG; rw [hr]; exact ⟨s2, by simp only; omega, rfl⟩
   ·unfold suG; rw [hr]; exact hp.2.1.1
   ·rw [hr]; exact s4 a a0 a1
   ·rw [hr]
    rintro ⟨q, q0, q1, hq⟩
    rw [List.length_take] at q1
    refine hp.2.1.2 ⟨q, q0, by rw [hm.1]; omega, ?_⟩
    have hq2 := b2b (b2a r k.toNat q0 (by omega)) hq
    exact b2b ((hm.2 q q0 (by omega)).1 (.inl (by omega))).symm hq2
 ·obtain ⟨m, s, _, _, hr, s1, _⟩ := planned k k0 k1 hk
  rw [hr]
  exact s1
theorem c1u (j : List S51) (t : List S58) : b9c j t (List.replicate j.length z42) := fun k _ _ h => by rw [a8m] at h; exact absurd h (by decide)
theorem c1v {j : List S51} {t : List S58} {old : List S42} (h : okP j t old) (day : Int) (missed : List Int) : b9c j t (kept j old day missed) := fun k k0 k1 hk => by
 have hv := h.1
 have hl := a6z j old day missed j.length
 unfold kept at hk k1 ⊢
 rw [hl] at k1
 have at_ := fun q (q0 : (0 : Int) ≤ q) => a8t j old day missed j.length (Nat.le_refl _) q q0
 rcases at_ k k0 with ⟨_, kk, e⟩ | ⟨_, e⟩
 ·obtain ⟨c1, c2, c3, c4⟩ := h.2.2 k k0 k1
  refine ⟨?_, ?_, fun a a0 a1 => ?_, fun q q0 q1 hq => ?_⟩
  ·unfold raG at c1 ⊢; rw [e]; exact c1
  ·unfold suG at c2 ⊢; rw [e]; exact c2
  ·obtain ⟨p1, p2, _⟩ := after_at hv k0 k1 a0 a1
   have hp := kk.2.2 a a0 a1
   rcases a8t j old day missed k.toNat (by omega) _ p1 with ⟨_, kq, _⟩ | ⟨_, e2⟩
   ·rcases at_ _ p1 with ⟨_, _, e3⟩ | ⟨h3, _⟩
    ·rw [e, e3]
     exact ⟨by have := (ok_b h p1 (by omega : _ < (j.length : Int))).2.1; omega, c3 a a0 a1⟩
    ·rcases h3 with h3 | h3
     ·omega
     ·exact absurd kq h3
   ·rw [e2] at hp; exact absurd hp (by decide)
  ·rw [e] at hq
   rcases at_ q q0 with ⟨_, _, e2⟩ | ⟨_, e2⟩
   ·refine c4 ⟨q, q0, by rw [List.length_take]; have := h.2.1.1; omega, ?_⟩
    exact b2b (e2.trans (b2a old k.toNat q0 (by omega)).symm) hq
   ·unfold clA at hq
    rw [e2] at hq
    exact absurd hq.1 (by decide)
 ·rw [e] at hk; exact absurd hk (by decide)
theorem b6o {j : List S51} {t : List S58} {day : Int} (h : (a5b j t day).2 = 0) : vaP j t ∧ 0 ≤ day ∧ day ≤ 36524 ∧ a6n j t day (List.replicate j.length z42) = some (a5b j t day).1 := by
 unfold a5b at h ⊢
 by_cases c : vaP j t ∧ 0 ≤ day ∧ day ≤ 36524
 ·rw [if_pos c] at h ⊢
  refine ⟨c.1, c.2.1, c.2.2, ?_⟩
  cases e : a6n j t day (List.replicate j.length z42) with
  | none => rw [e] at h; exact absurd h (by decide)
  | some r => rfl
 ·rw [if_neg c] at h
  exact absurd h (by decide)
theorem b6p {j : List S51} {t : List S58} {day : Int} (hv : vaP j t) (h1 : 0 ≤ day) (h2 : day ≤ 36524) (h : (a5b j t day).2 ≠ 0) : a5b j t day = ([], 20) := by
 unfold a5b at h ⊢
 rw [if_pos ⟨hv, h1, h2⟩] at h ⊢
 cases e : a6n j t day (List.replicate j.length z42) with
 | none => rfl
 | some r => rw [e] at h; exact absurd rfl h
theorem a7z {j : List S51} {t : List S58} {day : Int} (h : (a5b j t day).2 = 0) : okP j t (a5b j t day).1 ∧ (a5b j t day).1.length = j.length ∧ ∀ k : Int, 0 ≤ k → k < j.length → day ≤ (a0b (a5b j t day).1 k).f1 := by
 obtain ⟨hv, h1, h2, hf⟩ := b6o h
 obtain ⟨g1, _, g3⟩ := b7x hv h1 (by omega) List.length_replicate (b4m j) (c1u j t) hf
 exact ⟨g1, g1.2.1.1, fun k k0 k1 => g3 k k0 k1 (by rw [a8m]; decide)⟩
theorem c2s {j : List S51} {t : List S58} {l : List S42} (h : okP j t l) {r : Int} (hr : ckS j t l r) : r = 0 := b7v hr (.inr ⟨⟨h.1, h.2.1⟩, .inl ⟨h.2.2, rfl⟩⟩)
def onF (a : Int) : Int := Int.tmod (wrap64 a) 36525
end Go.Proofs.Ytheibjkjmkanoaa.Wk
/- What the laws of the works ask in common. Conditions: as_ each theorem states. -/
namespace Go.Proofs.Ytheibjkjmkanoaa.Wk
open Go.RowKit Go.Proofs.YtheibjkjmkanoaaW.PrintWords Go.Proofs.YtheibjkjmkanoaaW.PrintMore Go.Proofs.Ytheibjkjmkanoaa.Given Go.Proofs.Ytheibjkjmkanoaa.Px
set_option linter.unusedVariables false
set_option linter.unusedSimpArgs false
theorem a9x (j : List S51) (t : List S58) : ∃ b, Ev (fun k => a0v.f k j t) b ∧ (b = true ↔ feP j t ∧ vaP j t) := by
 obtain ⟨b, ⟨K1, h1⟩, hb⟩ := c0p j t
 dsimp only at h1
 by_cases c : b = true
 ·obtain ⟨v, ⟨K2, h2⟩, hv⟩ := b2r j t (b0l (hb.1 c))
  dsimp only at h2
  refine ⟨v, ⟨K1 + K2, fun k hk => ?_⟩, ⟨fun h => ⟨hb.1 c, hv.1 h⟩, fun h => hv.2 h.2⟩⟩
  dsimp only
  unfold a0v.f
  rw [h1 _ (by omega), Option.bind_some, if_pos c, h2 _ (by omega), Option.bind_some]
 ·refine ⟨false, ⟨K1, fun k hk => ?_⟩, ⟨fun h => by simp at h, fun h => absurd (hb.2 h.1) c⟩⟩
  dsimp only
  unfold a0v.f
  rw [h1 _ hk, Option.bind_some, if_neg c]
theorem on_f (a : Int) : a0k.f a = some (onF a) := rfl
theorem b5m {a : Int} (h0 : 0 ≤ a) (h1 : a ≤ 65535) : 0 ≤ onF a ∧ onF a ≤ 36524 := by
 unfold onF
 rw [w64 (by omega) (by omega), Int.tmod_eq_emod_of_nonneg h0]
 omega
theorem b7y {α : Type} (L : Int → Nat → Option α) (r : α) (n : Int) (n0 : 0 ≤ n) (hend : Ev (L n) r) (hyes : ∀ i, 0 ≤ i → i < n → Ev (L (i + 1)) r → Ev (L i) r) : Ev (L 0) r := by
 have main : ∀ (m : Nat) (i : Int), 0 ≤ i → i + m = n → Ev (L i) r := by
  intro m
  induction m with
  | zero => intro i i0 hi; rw [show i = n by omega]; exact hend
  | succ m ih => intro i i0 hi; exact hyes i i0 (by omega) (ih (i + 1) (by omega) (by omega))
 exact main n.toNat 0 (by omega) (by omega)
theorem b7b {j : List S51} {t : List S58} {l : List S42} (hb : bdP j t) (h : okP j t l) : Ev (fun k => a0d.f k j t l) 0 := by
 obtain ⟨r, e, s⟩ := b2s j t hb l
 rwa [c2s h s] at e
theorem b6q {j : List S51} {t : List S58} {l : List S42} (hb : bdP j t) (h : okP j t l) : Ev (fun k => a0z.f k j t l) 0 := by
 obtain ⟨r, e, s⟩ := b6m j t hb l
 rwa [c2s h s] at e
end Go.Proofs.Ytheibjkjmkanoaa.Wk
