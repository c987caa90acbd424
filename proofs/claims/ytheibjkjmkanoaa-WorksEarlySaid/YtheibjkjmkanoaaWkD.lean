/- Words that the kit's print.sh printed, in a copy without what is not used. Conditions: as_ each theorem states. -/
import Derived.Test.YtheibjkjmkanoaaWkC
import Derived.Test.YtheibjkjmkanoaaPx11
import Derived.Test.YtheibjkjmkanoaaPx24
import Derived.Test.YtheibjkjmkanoaaWkA
import Derived.Test.YtheibjkjmkanoaaWkB
namespace Go.Proofs.Ytheibjkjmkanoaa.Wk
open Go.RowKit Go.Proofs.YtheibjkjmkanoaaW.PrintWords Go.Proofs.YtheibjkjmkanoaaW.PrintMore Go.Proofs.Ytheibjkjmkanoaa.Given Go.Proofs.Ytheibjkjmkanoaa.Px
set_option linter.unusedVariables false
set_option linter.unusedSimpArgs false
theorem a9s (f : List S42) {i : Int} (i0 : 0 ≤ i) (i1 : i < f.length) (v : S42) {k : Int} (k0 : 0 ≤ k) : a0b (f.set i.toNat v) k = if k = i then v else a0b f k := by
 unfold a0b
 rw [List.getD_eq_getElem?_getD, List.getD_eq_getElem?_getD, List.getElem?_set]
 by_cases c : k = i
 ·rw [if_pos c, if_pos (by rw [c]), if_pos (by omega)]
  rfl
 ·rw [if_neg c, if_neg (by omega)]
theorem a9t {n : Nat} {k : Int} : a0b (List.replicate n z42) k = z42 := by
 unfold a0b
 rw [List.getD_eq_getElem?_getD, List.getElem?_replicate]
 split <;> rfl
noncomputable def a7z (j : List S51) (t : List S58) (day : Int) : Nat → Int → List S42 → Option (List S42)
 | 0, _, f => some f
 | n + 1, i, f => if 0 < (a0b f i).f2 then a7z j t day n (i + 1) f else
   match a9q j (a5r t (a0a j i).f1) i (a0a j i).f2 (lowF j f i day) f with
   | some s => a7z j t day n (i + 1) (f.set i.toNat ⟨jid j i, s, s + (a0a j i).f2⟩)
   | none => none
noncomputable def b0w (j : List S51) (t : List S58) (day : Int) (f : List S42) : Option (List S42) := a7z j t day j.length 0 f
def encF : Option (List S42) → List S42 × Int
 | some l => (l, 0)
 | none => ([], 20)
theorem b8l {j : List S51} {f : List S42} (hx : fxP j f) {i : Int} (i0 : 0 ≤ i) (i1 : i < f.length) {v : S42} (h1 : v.f0 = jid j i) (h2 : v.f2 ≤ 36525) : fxP j (f.set i.toNat v) := by
 refine ⟨fun k k0 k1 hk => ?_, fun k k0 k1 => ?_⟩
 ·rw [List.length_set] at k1
  rw [a9s f i0 i1 v k0] at hk ⊢
  by_cases c : k = i
  ·rw [if_pos c, h1, c]
  ·rw [if_neg c] at hk ⊢
   exact hx.1 k k0 k1 hk
 ·rw [List.length_set] at k1
  rw [a9s f i0 i1 v k0]
  by_cases c : k = i
  ·rw [if_pos c]; exact h2
  ·rw [if_neg c]; exact hx.2 k k0 k1
theorem b4v {j : List S51} {t : List S58} (hv : vaP j t) {i : Int} (i0 : 0 ≤ i) (i1 : i < j.length) {low s : Int} {f : List S42} (h : plS j (a5r t (a0a j i).f1) i (a0a j i).f2 low f (some s)) : 0 ≤ s ∧ s + (a0a j i).f2 ≤ 36525 :=
 b9v (a9r hv i0 i1).1 h.2.1.1
theorem b3d {j : List S51} {t : List S58} (hv : vaP j t) {i : Int} (i0 : 0 ≤ i) (i1 : i < j.length) : ((a0a j i).f3.length : Int) ≤ 1000 := by
 obtain ⟨_, _, _, _, _, _, _, g8, _, _⟩ := hv.2.2.2 i i0 i1
 have up : ∀ n : Nat, n < (a0a j i).f3.length → (n : Int) + 1 ≤ rd (a0a j i).f3 n := by
  intro n
  induction n with
  | zero => intro h; have := (g8 0 (by omega) (by omega)).1; exact this
  | succ n ih =>
   intro h
   have h1 := ih (by omega)
   have h2 := (g8 ((n + 1 : Nat) : Int) (by omega) (by omega)).2.2 (by omega)
   rw [show ((n + 1 : Nat) : Int) - 1 = n by omega] at h2
   omega
 by_cases c : (a0a j i).f3.length = 0
 ·omega
 ·have h1 := up ((a0a j i).f3.length - 1) (by omega)
  have h2 := (g8 (((a0a j i).f3.length - 1 : Nat) : Int) (by omega) (by omega)).2.1
  omega
theorem c1b {j : List S51} {t : List S58} (hv : vaP j t) {day : Int} (h1 : 0 ≤ day) (h2 : day ≤ 36525) : ∀ (n : Nat) (i : Int) (f : List S42), 0 ≤ i → i + n = j.length → f.length = j.length → fxP j f →
  Ev (fun k => a1q.l0 k day f (j.length : Int) i (atM j) (a4s t (frM t)) j) (encF (a7z j t day n i f)) := by
 have hj := hv.2.1
 intro n
 induction n with
 | zero =>
  intro i f i0 hi hl hx
  exact evUp 0 fun k _ => by rw [a1q.l0, if_neg (by omega)]; rfl
 | succ n ih =>
  intro i f i0 hi hl hx
  by_cases c : 0 < (a0b f i).f2
  ·obtain ⟨K, hK⟩ := ih (i + 1) f (by omega) (by omega) hl hx
   refine evUp K fun k hk => ?_
   rw [a1q.l0, if_pos (by omega), if_pos i0, if_pos (by omega), if_pos c, w64 (by omega) (by omega), a7z, if_pos c]
   exact hK k hk
  ·obtain ⟨hp, K, hK⟩ := b5y hv i0 (show i < (j.length : Int) by omega) f hl hx h1 h2 (by have := b3d hv i0 (show i < (j.length : Int) by omega); omega)
   dsimp only at hK
   cases e : a9q j (a5r t (a0a j i).f1) i (a0a j i).f2 (lowF j f i day) f with
   | none =>
    rw [e] at hK
    refine evUp K fun k hk => ?_
    rw [a1q.l0, if_pos (by omega), if_pos i0, if_pos (by omega), if_neg c, hK k hk, Option.bind_some, a7z, if_neg c, e]
    rfl
   | some s =>
    rw [e] at hK hp
    have hb := b4v hv i0 (by omega) hp
    obtain ⟨K2, hK2⟩ := ih (i + 1) (f.set i.toNat ⟨jid j i, s, s + (a0a j i).f2⟩) (by omega) (by omega) (by rw [List.length_set]; exact hl) (b8l hx i0 (by omega) rfl hb.2)
    refine evUp (K + K2) fun k hk => ?_
    rw [a1q.l0, if_pos (by omega), if_pos i0, if_pos (by omega), if_neg c, hK k (by omega), Option.bind_some, a7z, if_neg c, e, w64 (by omega) (by omega)]
    exact hK2 k (by omega)
theorem c1c {j : List S51} {t : List S58} (hv : vaP j t) {day : Int} (h1 : 0 ≤ day) (h2 : day ≤ 36525) (f : List S42) (hl : f.length = j.length) (hx : fxP j f) :
  Ev (fun k => a1q.f k j (atM j) (a4s t (frM t)) day f) (encF (b0w j t day f)) := by
 obtain ⟨K, hK⟩ := c1b hv h1 h2 j.length 0 f (by omega) (by omega) hl hx
 refine ⟨K, fun k hk => ?_⟩
 dsimp only at hK ⊢
 unfold a1q.f
 rw [hl]
 exact hK k hk
theorem b3e (j : List S51) : fxP j (List.replicate j.length z42) := ⟨fun k _ _ h => by rw [a9t] at h; exact absurd h (by decide), fun k _ _ => by rw [a9t]; decide⟩
theorem b5f (j : List S51) (t : List S58) (hb : bdP j t) : ∃ b, Ev (fun k => a0c.f k j t) b ∧ (b = true ↔ vaP j t) := by
 obtain ⟨b1, b2, b3, b4⟩ := hb
 unfold a0c.f
 by_cases c : (t.length : Int) > 20
 ·exact ⟨false, evUp 0 fun k _ => by rw [if_pos c, a0c.j0, if_pos rfl], fun h => by simp at h, fun h => by have := h.1; omega⟩
 by_cases d : (j.length : Int) > 60
 ·exact ⟨false, evUp 0 fun k _ => by rw [if_neg c, decide_eq_true d, a0c.j0, if_pos rfl], fun h => by simp at h, fun h => by have := h.2.1; omega⟩
 obtain ⟨bj, hbj, ej⟩ : ∃ b, Ev (fun k => a0c.l1 k j t 0) b ∧ (b = true ↔ (∀ i : Int, 0 ≤ i → i < j.length → joOk j t i)) := by
  obtain ⟨b, hb, e⟩ := a6r (fun i k => a0c.l1 k j t i) j.length (by omega) (joOk j t) true
   (evUp 0 fun k _ => by rw [a0c.l1, if_neg (by omega)])
   (fun i i0 i1 hg => by
    obtain ⟨ba, bb⟩ := b3 i i0 i1
    obtain ⟨l, bf, ⟨K0, h0⟩, hf⟩ := b3b t (by omega) (a0a j i).f1
    obtain ⟨w1, ⟨K1, h1⟩, e1⟩ := a8y (a0a j i).f3 (by omega) 1 1000
    obtain ⟨w2, ⟨K2, h2⟩, e2⟩ := a8y (a0a j i).f4 (by omega) 1 64
    dsimp only at h0 h1 h2
    have hj4 : ∀ k, a0c.j4 (k + 1) j t i true (a0a j i).f0 (a0a j i).f1 (a0a j i).f2 (a0a j i).f3 (a0a j i).f4 = some false := fun k => by rw [a0c.j4, if_pos rfl]
    have aft : (∃ a : Int, 0 ≤ a ∧ a < (a0a j i).f3.length ∧ ∀ n : Int, 0 ≤ n → n < i → (a0a j n).f0 ≠ rd (a0a j i).f3 a) → Ev (fun k => a0c.j4 k j t i false (a0a j i).f0 (a0a j i).f1 (a0a j i).f2 (a0a j i).f3 (a0a j i).f4) false := by
     rintro ⟨a, a0, a1, ha⟩
     rcases a7p (fun m k => a0c.l2 k j t i m (a0a j i).f0 (a0a j i).f1 (a0a j i).f2 (a0a j i).f3 (a0a j i).f4) a a0 (fun m => ∃ n : Int, 0 ≤ n ∧ n < i ∧ (a0a j n).f0 = rd (a0a j i).f3 m) (fun _ => false) false
      (by
       obtain ⟨q, ⟨K, hK⟩, hq⟩ := b2f j i i0 (by omega) (by omega) (rd (a0a j i).f3 a)
       dsimp only at hK
       refine evUp K fun k hk => ?_
       rcases hq with ⟨rfl, _⟩ | ⟨q0, q1, q2, _⟩
       ·rw [a0c.l2, if_pos (by omega), if_pos a0, hK k hk, Option.bind_some, if_pos (by decide)]
       ·exact absurd q2 (ha q q0 q1))
      (fun m m0 m1 hm => by
       obtain ⟨q, ⟨K, hK⟩, hq⟩ := b2f j i i0 (by omega) (by omega) (rd (a0a j i).f3 m)
       dsimp only at hK
       refine evUp K fun k hk => ?_
       rcases hq with ⟨rfl, _⟩ | ⟨q0, q1, q2, _⟩
       ·rw [a0c.l2, if_pos (by omega), if_pos m0, hK k hk, Option.bind_some, if_pos (by decide)]
       ·exact absurd ⟨q, q0, q1, q2⟩ hm)
      (fun m r m0 m1 ⟨n, n0, n1, hn⟩ ⟨K2, hK2⟩ => by
       obtain ⟨q, ⟨K, hK⟩, hq⟩ := b2f j i i0 (by omega) (by omega) (rd (a0a j i).f3 m)
       dsimp only at hK hK2
       refine evUp (K + K2) fun k hk => ?_
       rcases hq with ⟨rfl, h⟩ | ⟨q0, q1, q2, _⟩
       ·exact absurd hn (h n n0 n1)
       ·rw [a0c.l2, if_pos (by omega), if_pos m0, hK k (by omega), Option.bind_some, if_neg (by omega), w64 (by omega) (by omega)]
        exact hK2 k (by omega)) with ⟨_, K, hK⟩ | ⟨_, _, _, _, _, K, hK⟩
     ·exact evUp K fun k hk => by rw [a0c.j4, if_neg (by decide)]; exact hK k hk
     ·exact evUp K fun k hk => by rw [a0c.j4, if_neg (by decide)]; exact hK k hk
    by_cases c1 : bf = true
    ·by_cases c2 : w1 = true
     ·by_cases c3 : w2 = true
      ·by_cases c4 : (((a0a j i).f4).length : Int) > 8
       ·refine evUp (K0 + K1 + K2 + 1) fun k hk => ?_
        obtain ⟨k, rfl⟩ : ∃ z, k = z + 1 := ⟨k - 1, by omega⟩
        rw [a0c.l1, if_pos (by omega), if_pos i0, h0 _ (by omega), Option.bind_some, h1 _ (by omega), Option.bind_some, h2 _ (by omega), Option.bind_some, if_pos c1, if_pos c2, if_pos c3, if_pos c4, hj4]
       by_cases c5 : (a0a j i).f0 < 1
       ·refine evUp (K0 + K1 + K2 + 1) fun k hk => ?_
        obtain ⟨k, rfl⟩ : ∃ z, k = z + 1 := ⟨k - 1, by omega⟩
        rw [a0c.l1, if_pos (by omega), if_pos i0, h0 _ (by omega), Option.bind_some, h1 _ (by omega), Option.bind_some, h2 _ (by omega), Option.bind_some, if_pos c1, if_pos c2, if_pos c3, if_neg c4, if_pos c5, hj4]
       by_cases c6 : (a0a j i).f0 > 1000
       ·refine evUp (K0 + K1 + K2 + 1) fun k hk => ?_
        obtain ⟨k, rfl⟩ : ∃ z, k = z + 1 := ⟨k - 1, by omega⟩
        rw [a0c.l1, if_pos (by omega), if_pos i0, h0 _ (by omega), Option.bind_some, h1 _ (by omega), Option.bind_some, h2 _ (by omega), Option.bind_some, if_pos c1, if_pos c2, if_pos c3, if_neg c4, if_neg c5, if_pos c6, hj4]
       have hord : (¬ (0 < i → (a0a j (i - 1)).f0 < (a0a j i).f0)) ∨ (a0a j i).f2 < 1 ∨ (a0a j i).f2 > 100 ∨ ((0 < i → (a0a j (i - 1)).f0 < (a0a j i).f0) ∧ ¬ (a0a j i).f2 < 1 ∧ ¬ (a0a j i).f2 > 100) := by
        by_cases a : (0 < i → (a0a j (i - 1)).f0 < (a0a j i).f0)
        ·right
         by_cases b : (a0a j i).f2 < 1
         ·exact .inl b
         ·by_cases c : (a0a j i).f2 > 100
          ·exact .inr (.inl c)
          ·exact .inr (.inr ⟨a, b, c⟩)
        ·exact .inl a
       have go : ∀ (r : Bool), Ev (fun k => a0c.j4 k j t i r (a0a j i).f0 (a0a j i).f1 (a0a j i).f2 (a0a j i).f3 (a0a j i).f4) false →
         ((∀ k, (if i > 0 then (if 0 ≤ (wrap64 (i - 1)) then (if (wrap64 (i - 1)) < (j.length : Int) then (if ((a0a j i).f0) ≤ ((a0a j (wrap64 (i - 1))).f0) then (a0c.j4 k j t i true ((a0a j i).f0) ((a0a j i).f1) ((a0a j i).f2) ((a0a j i).f3) ((a0a j i).f4)) else (if ((a0a j i).f2) < 1 then (a0c.j4 k j t i true ((a0a j i).f0) ((a0a j i).f1) ((a0a j i).f2) ((a0a j i).f3) ((a0a j i).f4)) else (a0c.j4 k j t i (decide (((a0a j i).f2) > 100)) ((a0a j i).f0) ((a0a j i).f1) ((a0a j i).f2) ((a0a j i).f3) ((a0a j i).f4)))) else (none)) else (none)) else (if ((a0a j i).f2) < 1 then (a0c.j4 k j t i true ((a0a j i).f0) ((a0a j i).f1) ((a0a j i).f2) ((a0a j i).f3) ((a0a j i).f4)) else (a0c.j4 k j t i (decide (((a0a j i).f2) > 100)) ((a0a j i).f0) ((a0a j i).f1) ((a0a j i).f2) ((a0a j i).f3) ((a0a j i).f4)))) = a0c.j4 k j t i r (a0a j i).f0 (a0a j i).f1 (a0a j i).f2 (a0a j i).f3 (a0a j i).f4)) →
         Ev (fun k => a0c.l1 k j t i) false := fun r ⟨K, hK⟩ he => by
        dsimp only at hK
        refine evUp (K0 + K1 + K2 + K) fun k hk => ?_
        rw [a0c.l1, if_pos (by omega), if_pos i0, h0 _ (by omega), Option.bind_some, h1 _ (by omega), Option.bind_some, h2 _ (by omega), Option.bind_some, if_pos c1, if_pos c2, if_pos c3, if_neg c4, if_neg c5, if_neg c6, he]
        exact hK k (by omega)
       have yes : Ev (fun k => a0c.j4 k j t i true (a0a j i).f0 (a0a j i).f1 (a0a j i).f2 (a0a j i).f3 (a0a j i).f4) false := evUp 0 fun k _ => hj4 k
       rcases hord with h | h | h | ⟨h3, h4, h5⟩
       ·have hh : 0 < i ∧ ¬ (a0a j (i - 1)).f0 < (a0a j i).f0 := by
         by_cases p : 0 < i
         ·exact ⟨p, fun q => h fun _ => q⟩
         ·exact absurd (fun q => absurd q p) h
        exact go true yes fun k => by rw [if_pos hh.1, w64 (by omega) (by omega), if_pos (by omega), if_pos (by omega), if_pos (by omega)]
       ·refine go true yes fun k => ?_
        by_cases p : i > 0
        ·rw [if_pos p, w64 (by omega) (by omega), if_pos (by omega), if_pos (by omega), if_pos h]
         split <;> rfl
        ·rw [if_neg p, if_pos h]
       ·refine go true yes fun k => ?_
        by_cases p : i > 0
        ·rw [if_pos p, w64 (by omega) (by omega), if_pos (by omega), if_pos (by omega), if_neg (show ¬ (a0a j i).f2 < 1 by omega), decide_eq_true h]
         split <;> rfl
        ·rw [if_neg p, if_neg (by omega), decide_eq_true h]
       ·refine go false (aft ?_) fun k => ?_
        ·refine Classical.byContradiction fun hno => hg ⟨by omega, by omega, h3, by omega, by omega, by omega, e2.1 c3, e1.1 c2, ?_, fun a a0 a1 => ?_⟩
         ·rcases hf with ⟨h, _⟩ | ⟨_, n, n0, n1, n2, _⟩
          ·rw [h] at c1; simp at c1
          ·exact ⟨n, n0, n1, n2⟩
         ·refine Classical.byContradiction fun hn => hno ⟨a, a0, a1, fun n n0 n1 e => hn ⟨n, n0, n1, e⟩⟩
        ·by_cases p : i > 0
         ·have := h3 p
          rw [if_pos p, w64 (by omega) (by omega), if_pos (by omega), if_pos (by omega), if_neg (by omega), if_neg h4, decide_eq_false h5]
         ·rw [if_neg p, if_neg h4, decide_eq_false h5]
      ·refine evUp (K0 + K1 + K2 + 1) fun k hk => ?_
       obtain ⟨k, rfl⟩ : ∃ z, k = z + 1 := ⟨k - 1, by omega⟩
       rw [a0c.l1, if_pos (by omega), if_pos i0, h0 _ (by omega), Option.bind_some, h1 _ (by omega), Option.bind_some, h2 _ (by omega), Option.bind_some, if_pos c1, if_pos c2, if_neg c3, hj4]
     ·refine evUp (K0 + K1 + K2 + 1) fun k hk => ?_
      obtain ⟨k, rfl⟩ : ∃ z, k = z + 1 := ⟨k - 1, by omega⟩
      rw [a0c.l1, if_pos (by omega), if_pos i0, h0 _ (by omega), Option.bind_some, h1 _ (by omega), Option.bind_some, h2 _ (by omega), Option.bind_some, if_pos c1, if_neg c2, hj4]
    ·refine evUp (K0 + K1 + K2 + 1) fun k hk => ?_
     obtain ⟨k, rfl⟩ : ∃ z, k = z + 1 := ⟨k - 1, by omega⟩
     rw [a0c.l1, if_pos (by omega), if_pos i0, h0 _ (by omega), Option.bind_some, h1 _ (by omega), Option.bind_some, h2 _ (by omega), Option.bind_some, if_neg c1, hj4])
   (fun i r i0 i1 hg ⟨K3, hK3⟩ => by
    obtain ⟨g1, g2, g3, g4, g5, g6, g7, g8, g9, g10⟩ := hg
    obtain ⟨ba, bb⟩ := b3 i i0 i1
    obtain ⟨l, bf, ⟨K0, h0⟩, hf⟩ := b3b t (by omega) (a0a j i).f1
    obtain ⟨w1, ⟨K1, h1⟩, e1⟩ := a8y (a0a j i).f3 (by omega) 1 1000
    obtain ⟨w2, ⟨K2, h2⟩, e2⟩ := a8y (a0a j i).f4 (by omega) 1 64
    dsimp only at h0 h1 h2 hK3
    have cf : bf = true := by
     rcases hf with ⟨_, _, h⟩ | ⟨h, _⟩
     ·obtain ⟨n, n0, n1, n2⟩ := g9
      exact absurd n2 (h n n0 n1)
     ·exact h
    have loop : ∀ (n : Nat) (m : Int), 0 ≤ m → m + n = (a0a j i).f3.length → Ev (fun k => a0c.l2 k j t i m (a0a j i).f0 (a0a j i).f1 (a0a j i).f2 (a0a j i).f3 (a0a j i).f4) r := by
     intro n
     induction n with
     | zero =>
      intro m m0 hm
      refine evUp K3 fun k hk => ?_
      rw [a0c.l2, if_neg (by omega), w64 (by omega) (by omega)]
      exact hK3 k hk
     | succ n ih =>
      intro m m0 hm
      obtain ⟨K4, hK4⟩ := ih (m + 1) (by omega) (by omega)
      obtain ⟨q, ⟨K, hK⟩, hq⟩ := b2f j i i0 (by omega) (by omega) (rd (a0a j i).f3 m)
      dsimp only at hK hK4
      refine evUp (K + K4) fun k hk => ?_
      rcases hq with ⟨rfl, h⟩ | ⟨q0, q1, q2, _⟩
      ·obtain ⟨n, n0, n1, n2⟩ := g10 m m0 (by omega)
       exact absurd n2 (h n n0 n1)
      ·rw [a0c.l2, if_pos (by omega), if_pos m0, hK k (by omega), Option.bind_some, if_neg (by omega), w64 (by omega) (by omega)]
       exact hK4 k (by omega)
    obtain ⟨K5, hK5⟩ := loop (a0a j i).f3.length 0 (by omega) (by omega)
    dsimp only at hK5
    refine evUp (K0 + K1 + K2 + K5 + 1) fun k hk => ?_
    obtain ⟨k, rfl⟩ : ∃ z, k = z + 1 := ⟨k - 1, by omega⟩
    have hj4 : a0c.j4 (k + 1) j t i false (a0a j i).f0 (a0a j i).f1 (a0a j i).f2 (a0a j i).f3 (a0a j i).f4 = some r := by
     rw [a0c.j4, if_neg (by decide)]
     exact hK5 k (by omega)
    rw [a0c.l1, if_pos (by omega), if_pos i0, h0 _ (by omega), Option.bind_some, h1 _ (by omega), Option.bind_some, h2 _ (by omega), Option.bind_some, if_pos cf, if_pos (e1.2 g8), if_pos (e2.2 g7), if_neg (by omega), if_neg (by omega), if_neg (by omega)]
    by_cases p : i > 0
    ·have := g3 p
     rw [if_pos p, w64 (by omega) (by omega), if_pos (by omega), if_pos (by omega), if_neg (by omega), if_neg (by omega), decide_eq_false (by omega)]
     exact hj4
    ·rw [if_neg p, if_neg (by omega), decide_eq_false (by omega)]
     exact hj4)
  exact ⟨b, hb, e.trans ⟨fun h => h.1, fun h => ⟨h, rfl⟩⟩⟩
 obtain ⟨b, ⟨K, hK⟩, e⟩ := a6r (fun i k => a0c.l0 k j t i) t.length (by omega) (trOk t) bj
  (by
   obtain ⟨K, hK⟩ := hbj
   exact evUp K fun k hk => by rw [a0c.l0, if_neg (by omega)]; exact hK k hk)
  (fun i i0 i1 hg => by
   obtain ⟨s, ⟨K, hK⟩, es⟩ := b2e (a1l t i).f1 (by have := b4 i i0 i1; omega)
   dsimp only at hK
   refine evUp (K + 1) fun k hk => ?_
   obtain ⟨k, rfl⟩ : ∃ z, k = z + 1 := ⟨k - 1, by omega⟩
   have hj2 : a0c.j2 (k + 1) j t i true = some false := by rw [a0c.j2, if_pos rfl]
   rw [a0c.l0, if_pos (by omega), if_pos i0, hK _ (by omega), Option.bind_some]
   by_cases c1 : s = true
   ·rw [if_pos c1]
    by_cases c2 : (a1l t i).f0 < 1
    ·rw [if_pos c2, hj2]
    rw [if_neg c2]
    by_cases c3 : (a1l t i).f0 > 1000
    ·rw [if_pos c3, hj2]
    rw [if_neg c3]
    have hh : 0 < i ∧ ¬ (a1l t (i - 1)).f0 < (a1l t i).f0 := by
     by_cases p : 0 < i
     ·exact ⟨p, fun q => hg ⟨es.1 c1, by omega, by omega, fun _ => q⟩⟩
     ·exact absurd ⟨es.1 c1, by omega, by omega, fun q => absurd q p⟩ hg
    rw [if_pos hh.1, w64 (by omega) (by omega), if_pos (by omega), if_pos (by omega), decide_eq_true (by omega), hj2]
   ·rw [if_neg c1, hj2])
  (fun i r i0 i1 hg ⟨K2, hK2⟩ => by
   obtain ⟨g1, g2, g3, g4⟩ := hg
   obtain ⟨s, ⟨K, hK⟩, es⟩ := b2e (a1l t i).f1 (by have := b4 i i0 i1; omega)
   dsimp only at hK hK2
   refine evUp (K + K2 + 1) fun k hk => ?_
   obtain ⟨k, rfl⟩ : ∃ z, k = z + 1 := ⟨k - 1, by omega⟩
   have hj2 : a0c.j2 (k + 1) j t i false = some r := by
    rw [a0c.j2, if_neg (by decide), w64 (by omega) (by omega)]
    exact hK2 k (by omega)
   rw [a0c.l0, if_pos (by omega), if_pos i0, hK _ (by omega), Option.bind_some, if_pos (es.2 g1), if_neg (by omega), if_neg (by omega)]
   by_cases p : i > 0
   ·have := g4 p
    rw [if_pos p, w64 (by omega) (by omega), if_pos (by omega), if_pos (by omega), decide_eq_false (by omega)]
    exact hj2
   ·rw [if_neg p]
    exact hj2)
 refine ⟨b, evUp K fun k hk => ?_, ?_⟩
 ·dsimp only at hK
  rw [if_neg c, decide_eq_false d, a0c.j0, if_neg (by decide)]
  exact hK k hk
 ·rw [e, ej]
  exact ⟨fun h => ⟨by omega, by omega, h.1, h.2⟩, fun h => ⟨h.2.2.1, h.2.2.2⟩⟩
open Classical in
noncomputable def a4y (j : List S51) (t : List S58) (day : Int) : List S42 × Int := if vaP j t ∧ 0 ≤ day ∧ day ≤ 36524 then encF (b0w j t day (List.replicate j.length z42)) else ([], 1)
theorem c1d (j : List S51) (t : List S58) (hb : bdP j t) (day : Int) : Ev (fun k => a2m.f k j t day) (a4y j t day) := by
 unfold a4y
 rcases b5v j t hb with ⟨hv, K, hK⟩ | ⟨hv, A, B, K, hK⟩
 ·have hj := hv.2.1
  by_cases c1 : day < 0
  ·rw [if_neg (by omega)]
   refine ⟨K, fun k hk => ?_⟩
   dsimp only at hK ⊢
   unfold a2m.f
   rw [hK k hk, Option.bind_some, if_pos rfl, if_pos c1]
  by_cases c2 : day > 36524
  ·rw [if_neg (by omega)]
   refine ⟨K, fun k hk => ?_⟩
   dsimp only at hK ⊢
   unfold a2m.f
   rw [hK k hk, Option.bind_some, if_pos rfl, if_neg c1, if_pos c2]
  rw [if_pos ⟨hv, by omega, by omega⟩]
  obtain ⟨K2, hK2⟩ := c1c hv (show 0 ≤ day by omega) (by omega) (List.replicate j.length z42) List.length_replicate (b3e j)
  refine ⟨K + K2, fun k hk => ?_⟩
  dsimp only at hK hK2 ⊢
  unfold a2m.f
  rw [hK k (by omega), Option.bind_some, if_pos rfl, if_neg c1, if_neg c2, if_pos (by omega), if_pos (by rw [Int.toNat_natCast]; omega), Int.toNat_natCast, hK2 k (by omega), Option.bind_some]
 ·rw [if_neg (fun h => hv h.1)]
  refine ⟨K, fun k hk => ?_⟩
  dsimp only at hK ⊢
  unfold a2m.f
  rw [hK k hk, Option.bind_some, if_neg (show ¬ (false = true) by decide)]
end Go.Proofs.Ytheibjkjmkanoaa.Wk
