/- Words that the kit's print.sh printed, in a copy without what is not used. Conditions: as_ each theorem states. -/
import Derived.Test.YtheibjkjmkanoaaWkB
import Derived.Test.YtheibjkjmkanoaaPx10
import Derived.Test.YtheibjkjmkanoaaPx22
import Derived.Test.YtheibjkjmkanoaaPx8
import Derived.Test.YtheibjkjmkanoaaPx9
import Derived.Test.YtheibjkjmkanoaaWkA
namespace Go.Proofs.Ytheibjkjmkanoaa.Wk
open Go.RowKit Go.Proofs.YtheibjkjmkanoaaW.PrintWords Go.Proofs.YtheibjkjmkanoaaW.PrintMore Go.Proofs.Ytheibjkjmkanoaa.Given Go.Proofs.Ytheibjkjmkanoaa.Px
set_option linter.unusedVariables false
set_option linter.unusedSimpArgs false
def clA (j : List S51) (i a b : Int) (f : List S42) (k : Int) : Prop := 0 < (a0b f k).f2 ∧ (a0b f k).f1 < b ∧ a < (a0b f k).f2 ∧ k ≠ i ∧ wayP (a0a j i) (a0a j k)
def clP (j : List S51) (i a b : Int) (f : List S42) : Prop := ∃ k : Int, 0 ≤ k ∧ k < f.length ∧ clA j i a b f k
def idP (j : List S51) (f : List S42) : Prop := ∀ k : Int, 0 ≤ k → k < f.length → 0 < (a0b f k).f2 → (a0b f k).f0 = jid j k
theorem b4u {j : List S51} {t : List S58} (hv : vaP j t) {a b : Int} (a0 : 0 ≤ a) (ab : a < b) (b1 : b < j.length) : jid j a < jid j b :=
 a8r (g := jid j) (n := j.length) (fun q q0 q1 q2 => (hv.2.2.2 q q0 q1).2.2.1 q2) a0 ab b1
theorem b5w {j : List S51} {t : List S58} (hv : vaP j t) {a b : Int} (a0 : 0 ≤ a) (a1 : a < j.length) (b0 : 0 ≤ b) (b1 : b < j.length) (e : jid j a = jid j b) : a = b := by
 by_cases c : a < b
 ·have := b4u hv a0 c b1; omega
 ·by_cases d : b < a
  ·have := b4u hv b0 d a1; omega
  ·omega
theorem b2h {j : List S51} {t : List S58} (hv : vaP j t) {n : Int} (n0 : 0 ≤ n) (n1 : n < j.length) : a1z (atM j) (jid j n) = n :=
 b5t (jid j) j.length n n0 n1 fun q q0 q1 e => by have := b5w hv q0 (by omega) n0 n1 e; omega
theorem b8i {j : List S51} {t : List S58} (hv : vaP j t) {i : Int} (i0 : 0 ≤ i) (i1 : i < j.length) : ((a0a j i).f4.length : Int) ≤ 8 ∧ (j.length : Int) ≤ 60 := by
 have := (hv.2.2.2 i i0 i1).2.2.2.2.2.1
 have := hv.2.1
 omega
theorem b8j {j : List S51} {t : List S58} (hv : vaP j t) {i : Int} (i0 : 0 ≤ i) (i1 : i < j.length) (a b : Int) (f : List S42) (hf : f.length ≤ j.length) (hid : idP j f) (F : List (Int × List S56)) {k : Int} (k0 : 0 ≤ k) (k1 : k < f.length) :
  ∃ r, Ev (fun q => a1g.f q (a0b f k).f0 (a0b f k).f1 (a0b f k).f2 (jid j i) a b j (atM j) F i) r ∧ (r = true ↔ clA j i a b f k) := by
 unfold a1g.f clA
 by_cases c1 : (a0b f k).f2 > 0
 ·have e := hid k k0 k1 c1
  have e2 : a1z (atM j) (a0b f k).f0 = k := by rw [e]; exact b2h hv k0 (by omega)
  by_cases c2 : (a0b f k).f1 < b
  ·by_cases c3 : a < (a0b f k).f2
   ·by_cases c4 : (a0b f k).f0 = jid j i
    ·refine ⟨false, b0u fun q => by rw [if_pos c1, if_pos c2, if_pos c3, if_pos c4], fun h => by simp at h, fun h => absurd ?_ h.2.2.2.1⟩
     rw [e] at c4
     exact b5w hv k0 (by omega) i0 i1 c4
    ·obtain ⟨w, ⟨K, hK⟩, hw⟩ := c1v (a0a j i) (a0a j k) (by have := b8i hv i0 i1; omega) (by have := b8i hv k0 (by omega : k < (j.length : Int)); omega)
     refine ⟨w, ⟨K, fun q hq => ?_⟩, hw.trans ⟨fun h => ⟨c1, c2, c3, fun h2 => c4 (by rw [e, h2]), h⟩, fun h => h.2.2.2.2⟩⟩
     dsimp only at hK ⊢
     rw [if_pos c1, if_pos c2, if_pos c3, if_neg c4, if_pos i0, if_pos i1, e2, if_pos k0, if_pos (by omega), hK q hq, Option.bind_some]
   ·exact ⟨false, b0u fun q => by rw [if_pos c1, if_pos c2, if_neg c3], fun h => by simp at h, fun h => absurd h.2.2.1 c3⟩
  ·exact ⟨false, b0u fun q => by rw [if_pos c1, if_neg c2], fun h => by simp at h, fun h => absurd h.2.1 c2⟩
 ·exact ⟨false, b0u fun q => by rw [if_neg c1], fun h => by simp at h, fun h => absurd h.1 c1⟩
theorem a9p {j : List S51} {t : List S58} (hv : vaP j t) {i : Int} (i0 : 0 ≤ i) (i1 : i < j.length) (a b : Int) (f : List S42) (hf : f.length ≤ j.length) (hid : idP j f) (F : List (Int × List S56)) :
  (¬ clP j i a b f ∧ Ev (fun q => a2p.f q j (atM j) F i (jid j i) a b f) (0, 0, 0, false)) ∨
  (∃ k : Int, 0 ≤ k ∧ k < f.length ∧ clA j i a b f k ∧ Ev (fun q => a2p.f q j (atM j) F i (jid j i) a b f) ((a0b f k).f0, (a0b f k).f1, (a0b f k).f2, true)) := by
 have hj := hv.2.1
 obtain ⟨r, ⟨K, hK⟩, hr⟩ := a7t (fun k q => a0p.l0 q f (f.length : Int) k (atM j) F (jid j i) a b j i) f.length (by omega) (fun k => clA j i a b f k)
  (evUp 0 fun q _ => by rw [a0p.l0, if_neg (by omega)])
  (fun k k0 k1 h => by
   obtain ⟨r, ⟨K, hK⟩, hr⟩ := b8j hv i0 i1 a b f hf hid F k0 k1
   dsimp only at hK
   exact evUp K fun q hq => by rw [a0p.l0, if_pos (by omega), if_pos k0, if_pos (by omega), hK q hq, Option.bind_some, if_pos (hr.2 h)])
  (fun k r2 k0 k1 h ⟨K2, hK2⟩ => by
   obtain ⟨r, ⟨K, hK⟩, hr⟩ := b8j hv i0 i1 a b f hf hid F k0 k1
   dsimp only at hK hK2
   exact evUp (K + K2) fun q hq => by
    rw [a0p.l0, if_pos (by omega), if_pos k0, if_pos (by omega), hK q (by omega), Option.bind_some, if_neg (fun e => h (hr.1 e)), w64 (by omega) (by omega)]
    exact hK2 q (by omega))
 dsimp only at hK
 rcases hr with ⟨rfl, hr⟩ | ⟨h1, h2, h3, _⟩
 ·refine .inl ⟨fun ⟨k, k0, k1, h⟩ => hr k k0 k1 h, K, fun q hq => ?_⟩
  dsimp only
  unfold a2p.f a0p.f
  rw [hK q hq, Option.bind_some, if_pos (by decide)]
 ·refine .inr ⟨r, h1, h2, h3, K, fun q hq => ?_⟩
  dsimp only
  unfold a2p.f a0p.f
  rw [hK q hq, Option.bind_some, if_neg (by omega), if_pos h1, if_pos h2]
def b0v (j : List S51) (F : List S56) (i d : Int) (f : List S42) (s : Int) : Prop := suP F s (s + d) ∧ ¬ clP j i s (s + d) f
def plS (j : List S51) (F : List S56) (i d low : Int) (f : List S42) : Option Int → Prop
 | some s => low ≤ s ∧ b0v j F i d f s ∧ ∀ q, low ≤ q → q < s → ¬ b0v j F i d f q
 | none => ∀ q, low ≤ q → ¬ b0v j F i d f q
theorem c0x {j F i d low f} {a b : Option Int} (ha : plS j F i d low f a) (hb : plS j F i d low f b) : a = b := by
 cases a with
 | none =>
  cases b with
  | none => rfl
  | some y => exact absurd hb.2.1 (ha y hb.1)
 | some x =>
  cases b with
  | none => exact absurd ha.2.1 (hb x ha.1)
  | some y =>
   by_cases c : x < y
   ·exact absurd ha.2.1 (hb.2.2 x ha.1 c)
   ·by_cases d : y < x
    ·exact absurd hb.2.1 (ha.2.2 y hb.1 d)
    ·rw [show x = y by omega]
open Classical in
noncomputable def a9q (j : List S51) (F : List S56) (i d low : Int) (f : List S42) : Option Int := if h : ∃ r, plS j F i d low f r then Classical.choose h else none
theorem b9d {j F i d low f} {r : Option Int} (h : plS j F i d low f r) : a9q j F i d low f = r := by
 unfold a9q
 rw [dif_pos ⟨r, h⟩]
 exact c0x (Classical.choose_spec ⟨r, h⟩) h
def encP (id d : Int) : Option Int → Int × Int × Int × Bool
 | some s => (id, s, s + d, true)
 | none => (0, 0, 0, false)
def fxP (j : List S51) (f : List S42) : Prop := idP j f ∧ ∀ k : Int, 0 ≤ k → k < f.length → (a0b f k).f2 ≤ 36525
theorem c0y {F : List S56} (hF : spV F) {a b : Int} (a0 : 0 ≤ a) (ab : a < b) (b1 : b < F.length) : (a0h F a).f0 < (a0h F b).f0 :=
 a8r (g := fun i => (a0h F i).f0) (n := F.length) (fun q q0 q1 q2 => by
  have h1 := (hF.1 q q0 q1).2 q2
  have h2 := (hF.1 (q - 1) (by omega) (by omega)).1.2.1
  show (a0h F (q - 1)).f0 < (a0h F q).f0
  omega) a0 ab b1
theorem b9v {F : List S56} (hF : spV F) {a b : Int} (h : suP F a b) : 0 ≤ a ∧ b ≤ 36525 := by
 obtain ⟨p, p0, p1, h1, h2⟩ := h
 have := (hF.1 p p0 p1).1
 unfold stP at this
 omega
theorem c1x (a b : Int) : mx a b = if a < b then b else a := rfl
theorem c0z {j : List S51} {t : List S58} (hv : vaP j t) {i : Int} (i0 : 0 ≤ i) (i1 : i < j.length) {F : List S56} (hF : spV F) {d : Int} (d1 : 1 ≤ d) (d2 : d ≤ 100) (f : List S42) (hf : f.length ≤ j.length) (hx : fxP j f) (low : Int) (M : List (Int × List S56)) (x1 : Int) (x3 x4 : List Int) :
  ∀ (n : Nat) (m day : Int), 0 ≤ m → m + n = F.length → 0 ≤ day → day ≤ 36525 → low ≤ day → (∀ s, low ≤ s → b0v j F i d f s → day ≤ s ∧ ∀ p : Int, 0 ≤ p → p < m → ¬ ((a0h F p).f0 ≤ s ∧ s + d ≤ (a0h F p).f1)) →
  ∃ r, plS j F i d low f r ∧ Ev (fun k => a0u.l1 k i day f F (F.length : Int) m (atM j) M j (jid j i) x1 d x3 x4) (encP (jid j i) d r) := by
 intro n
 induction n with
 | zero =>
  intro m day m0 hm day0 day1 hlow hinv
  refine ⟨none, fun q hq hg => ?_, evUp 0 fun k _ => by rw [a0u.l1, if_neg (by omega)]; rfl⟩
  obtain ⟨p, p0, p1, h1, h2⟩ := hg.1
  exact (hinv q hq hg).2 p p0 (by omega) ⟨h1, h2⟩
 | succ n ih =>
  intro m day m0 hm day0 day1 hlow hinv
  have hst := (hF.1 m m0 (by omega)).1
  have hl := hF.2
  unfold stP at hst
  have inner : ∀ (z : Nat) (y : Int), ((a0h F m).f1 - y).toNat ≤ z → 0 ≤ y → y ≤ 36525 → low ≤ y → (a0h F m).f0 ≤ y → (∀ s, low ≤ s → b0v j F i d f s → y ≤ s ∧ ∀ p : Int, 0 ≤ p → p < m → ¬ ((a0h F p).f0 ≤ s ∧ s + d ≤ (a0h F p).f1)) →
    ∃ r, plS j F i d low f r ∧ Ev (fun k => a0u.l2 k i y f F (F.length : Int) m (atM j) M j (jid j i) x1 d x3 x4 (a0h F m).f0 (a0h F m).f1) (encP (jid j i) d r) := by
   intro z
   induction z with
   | zero =>
    intro y hz y0 y1 hly hfy hi
    obtain ⟨r, hr, K, hK⟩ := ih (m + 1) y (by omega) (by omega) y0 y1 hly (fun s hs hg => by
     obtain ⟨h1, h2⟩ := hi s hs hg
     refine ⟨h1, fun p p0 p1 => ?_⟩
     by_cases e : p = m
     ·rw [e]; omega
     ·exact h2 p p0 (by omega))
    dsimp only at hK
    refine ⟨r, hr, evUp K fun k hk => ?_⟩
    rw [a0u.l2, w64 (by omega) (by omega), if_neg (by omega), w64 (by omega) (by omega)]
    exact hK k hk
   | succ z ihz =>
    intro y hz y0 y1 hly hfy hi
    by_cases c : y + d ≤ (a0h F m).f1
    ·rcases a9p hv i0 i1 y (y + d) f hf hx.1 M with ⟨hno, K, hK⟩ | ⟨k, k0, k1, hh, K, hK⟩
     ·dsimp only at hK
      refine ⟨some y, ⟨hly, ⟨⟨m, m0, by omega, hfy, c⟩, hno⟩, fun q hq1 hq2 hg => by have := (hi q hq1 hg).1; omega⟩, evUp K fun k hk => ?_⟩
      rw [a0u.l2, w64 (by omega) (by omega), if_pos c, hK k hk, Option.bind_some, if_neg (by decide)]
      rfl
     ·have hh' := hh
      obtain ⟨h1, h2, h3, h4, h5⟩ := hh
      have hb := hx.2 k k0 k1
      have hi2 : ∀ s, low ≤ s → b0v j F i d f s → (a0b f k).f2 ≤ s ∧ ∀ p : Int, 0 ≤ p → p < m → ¬ ((a0h F p).f0 ≤ s ∧ s + d ≤ (a0h F p).f1) := fun s hs hg => by
       obtain ⟨g1, g2⟩ := hi s hs hg
       refine ⟨?_, g2⟩
       by_cases q : (a0b f k).f2 ≤ s
       ·exact q
       ·exact absurd ⟨k, k0, k1, h1, by omega, by omega, h4, h5⟩ hg.2
      dsimp only at hK
      by_cases e : (a0b f k).f2 ≥ (a0h F m).f1
      ·obtain ⟨r, hr, K2, hK2⟩ := ih (m + 1) (a0b f k).f2 (by omega) (by omega) (by omega) hb (by omega) (fun s hs hg => by
        obtain ⟨g1, g2⟩ := hi2 s hs hg
        refine ⟨g1, fun p p0 p1 => ?_⟩
        by_cases e : p = m
        ·rw [e]; omega
        ·exact g2 p p0 (by omega))
       dsimp only at hK2
       refine ⟨r, hr, evUp (K + K2) fun q hq => ?_⟩
       rw [a0u.l2, w64 (by omega) (by omega), if_pos c, hK q (by omega), Option.bind_some, if_pos rfl]
       show (if (a0b f k).f2 ≥ _ then _ else _) = _
       rw [if_pos e, w64 (by omega) (by omega)]
       exact hK2 q (by omega)
      ·obtain ⟨r, hr, K2, hK2⟩ := ihz (a0b f k).f2 (by omega) (by omega) hb (by omega) (by omega) hi2
       dsimp only at hK2
       refine ⟨r, hr, evUp (K + K2) fun q hq => ?_⟩
       rw [a0u.l2, w64 (by omega) (by omega), if_pos c, hK q (by omega), Option.bind_some, if_pos rfl]
       show (if (a0b f k).f2 ≥ _ then _ else _) = _
       rw [if_neg e]
       exact hK2 q (by omega)
    ·obtain ⟨r, hr, K, hK⟩ := ih (m + 1) y (by omega) (by omega) y0 y1 hly (fun s hs hg => by
      obtain ⟨h1, h2⟩ := hi s hs hg
      refine ⟨h1, fun p p0 p1 => ?_⟩
      by_cases e : p = m
      ·rw [e]; omega
      ·exact h2 p p0 (by omega))
     dsimp only at hK
     refine ⟨r, hr, evUp K fun k hk => ?_⟩
     rw [a0u.l2, w64 (by omega) (by omega), if_neg c, w64 (by omega) (by omega)]
     exact hK k hk
  have hmx : mx day (a0h F m).f0 = if day < (a0h F m).f0 then (a0h F m).f0 else day := rfl
  obtain ⟨r, hr, K, hK⟩ := inner ((a0h F m).f1 - mx day (a0h F m).f0).toNat (mx day (a0h F m).f0) (Nat.le_refl _) (by rw [hmx]; split <;> omega) (by rw [hmx]; split <;> omega) (by rw [hmx]; split <;> omega) (by rw [hmx]; split <;> omega)
   (fun s hs hg => by
    obtain ⟨g1, g2⟩ := hinv s hs hg
    refine ⟨?_, g2⟩
    obtain ⟨p, p0, p1, h1, h2⟩ := hg.1
    have hp : m ≤ p := by
     by_cases q : m ≤ p
     ·exact q
     ·exact absurd ⟨h1, h2⟩ (g2 p p0 (by omega))
    have h3 : (a0h F m).f0 ≤ (a0h F p).f0 := by
     by_cases q : m = p
     ·rw [q]; exact Int.le_refl _
     ·exact Int.le_of_lt (c0y hF m0 (by omega) p1)
    rw [hmx]
    split <;> omega)
  dsimp only at hK
  refine ⟨r, hr, evUp K fun k hk => ?_⟩
  rw [a0u.l1, if_pos (by omega), if_pos m0, if_pos (by omega)]
  exact hK k hk
def lowN (j : List S51) (f : List S42) (l : List Int) (day : Int) : Nat → Int
 | 0 => day
 | n + 1 => mx (lowN j f l day n) (a0b f (a1z (atM j) (rd l (n : Int)))).f2
def lowF (j : List S51) (f : List S42) (i day : Int) : Int := lowN j f (a0a j i).f3 day (a0a j i).f3.length
theorem b8k {j : List S51} {f : List S42} {l : List Int} {day : Int} (h1 : 0 ≤ day) (h2 : day ≤ 36525) (hf : ∀ k : Int, 0 ≤ k → k < f.length → (a0b f k).f2 ≤ 36525) : ∀ n : Nat, (∀ q : Int, 0 ≤ q → q < n → 0 ≤ a1z (atM j) (rd l q) ∧ a1z (atM j) (rd l q) < f.length) →
  day ≤ lowN j f l day n ∧ lowN j f l day n ≤ 36525 ∧ ∀ q : Int, 0 ≤ q → q < n → (a0b f (a1z (atM j) (rd l q))).f2 ≤ lowN j f l day n
 | 0, _ => ⟨Int.le_refl _, h2, fun q a b => by omega⟩
 | n + 1, h => by
  obtain ⟨a, b, c⟩ := b8k (l := l) h1 h2 hf n fun q a b => h q a (by omega)
  obtain ⟨d, e⟩ := h n (by omega) (by omega)
  have g := hf _ d e
  have m : lowN j f l day (n + 1) = if lowN j f l day n < (a0b f (a1z (atM j) (rd l (n : Int)))).f2 then (a0b f (a1z (atM j) (rd l (n : Int)))).f2 else lowN j f l day n := rfl
  rw [m]
  refine ⟨by split <;> omega, by split <;> omega, fun q q0 q1 => ?_⟩
  by_cases z : q = n
  ·rw [z]; split <;> omega
  ·have := c q q0 (by omega); split <;> omega
theorem after_at {j : List S51} {t : List S58} (hv : vaP j t) {i : Int} (i0 : 0 ≤ i) (i1 : i < j.length) {a : Int} (a0 : 0 ≤ a) (a1 : a < (a0a j i).f3.length) :
  0 ≤ a1z (atM j) (rd (a0a j i).f3 a) ∧ a1z (atM j) (rd (a0a j i).f3 a) < i ∧ jid j (a1z (atM j) (rd (a0a j i).f3 a)) = rd (a0a j i).f3 a := by
 obtain ⟨n, n0, n1, e⟩ := (hv.2.2.2 i i0 i1).2.2.2.2.2.2.2.2.2 a a0 a1
 have := b2h hv n0 (show n < (j.length : Int) by omega)
 unfold jid at this ⊢
 rw [← e, this]
 exact ⟨n0, n1, rfl⟩
theorem b9w {j : List S51} {t : List S58} (hv : vaP j t) {i : Int} (i0 : 0 ≤ i) (i1 : i < j.length) {f : List S42} (hf : f.length = j.length) (hx : ∀ k : Int, 0 ≤ k → k < f.length → (a0b f k).f2 ≤ 36525) {day : Int} (h1 : 0 ≤ day) (h2 : day ≤ 36525) :
  day ≤ lowF j f i day ∧ lowF j f i day ≤ 36525 ∧ ∀ a : Int, 0 ≤ a → a < (a0a j i).f3.length → (a0b f (a1z (atM j) (rd (a0a j i).f3 a))).f2 ≤ lowF j f i day :=
 b8k h1 h2 hx _ fun q q0 q1 => by
  obtain ⟨a, b, _⟩ := after_at hv i0 i1 q0 q1
  exact ⟨a, by omega⟩
def a5r (t : List S58) (id : Int) : List S56 := a3q (a4s t (frM t)) id
theorem b5x {j : List S51} {t : List S58} (hv : vaP j t) {a b : Int} (a0 : 0 ≤ a) (a1 : a < t.length) (b0 : 0 ≤ b) (b1 : b < t.length) (e : tid t a = tid t b) : a = b := by
 have rise : ∀ {a b : Int}, 0 ≤ a → a < b → b < t.length → tid t a < tid t b := fun a0 ab b1 => a8r (g := tid t) (n := t.length) (fun q q0 q1 q2 => (hv.2.2.1 q q0 q1).2.2.2 q2) a0 ab b1
 by_cases c : a < b
 ·have := rise a0 c b1; omega
 ·by_cases d : b < a
  ·have := rise b0 d a1; omega
  ·omega
theorem b9e {j : List S51} {t : List S58} (hv : vaP j t) {n : Int} (n0 : 0 ≤ n) (n1 : n < t.length) : a5r t (tid t n) = (a1l t n).f1 := by
 unfold a5r a3q
 rw [b5o]
 unfold frM
 have e := b5t (tid t) t.length n n0 n1 fun q q0 q1 e => by have := b5x hv q0 (by omega) n0 n1 e; omega
 unfold a1z at e
 rcases a8q (tid t) (tid t n) t.length with ⟨h1, h2⟩ | ⟨q, h1, h2, h3, h4⟩
 ·have := h2 n.toNat (by omega)
  rw [Int.toNat_of_nonneg n0] at this
  exact absurd rfl this
 ·rw [h3] at e ⊢
  have e' : (q : Int) = n := e
  show (a1l t (q : Int)).f1 = _
  rw [e']
theorem a9r {j : List S51} {t : List S58} (hv : vaP j t) {i : Int} (i0 : 0 ≤ i) (i1 : i < j.length) : spV (a5r t (a0a j i).f1) ∧ Ev (fun k => a1k.f k t (a0a j i).f1) (a5r t (a0a j i).f1, true) := by
 obtain ⟨n, n0, n1, e⟩ := (hv.2.2.2 i i0 i1).2.2.2.2.2.2.2.2.1
 have h := b9e hv n0 n1
 unfold tid at h
 rw [e] at h
 rw [h]
 refine ⟨(hv.2.2.1 n n0 n1).1, ?_⟩
 have hl := hv.1
 obtain ⟨l, b, hev, hh⟩ := b3b t (by omega) (a0a j i).f1
 rcases hh with ⟨_, _, h3⟩ | ⟨rfl, m, m0, m1, h4, rfl, h5⟩
 ·exact absurd e (h3 n n0 n1)
 ·have : m = n := b5x hv m0 m1 n0 n1 (by unfold tid; rw [h4, e])
  rw [this] at hev
  exact hev
theorem b5y {j : List S51} {t : List S58} (hv : vaP j t) {i : Int} (i0 : 0 ≤ i) (i1 : i < j.length) (f : List S42) (hf : f.length = j.length) (hx : fxP j f) {day : Int} (h1 : 0 ≤ day) (h2 : day ≤ 36525) (hal : ((a0a j i).f3.length : Int) ≤ 1000000) :
  plS j (a5r t (a0a j i).f1) i (a0a j i).f2 (lowF j f i day) f (a9q j (a5r t (a0a j i).f1) i (a0a j i).f2 (lowF j f i day) f) ∧
  Ev (fun k => a0u.f k j (atM j) (a4s t (frM t)) i day f) (encP (jid j i) (a0a j i).f2 (a9q j (a5r t (a0a j i).f1) i (a0a j i).f2 (lowF j f i day) f)) := by
 obtain ⟨g1, g2, g3, g4, g5, g6, g7, g8, g9, g10⟩ := hv.2.2.2 i i0 i1
 obtain ⟨lb1, lb2, _⟩ := b9w hv i0 i1 hf hx.2 h1 h2
 obtain ⟨hF, _⟩ := a9r hv i0 i1
 obtain ⟨r, hr, K, hK⟩ := c0z hv i0 i1 hF g4 g5 f (by omega) hx (lowF j f i day) (a4s t (frM t)) (a0a j i).f1 (a0a j i).f3 (a0a j i).f4 (a5r t (a0a j i).f1).length 0 (lowF j f i day) (by omega) (by omega) (by omega) lb2 (Int.le_refl _) (fun s hs hg => ⟨hs, fun p a b => by omega⟩)
 rw [b9d hr]
 refine ⟨hr, ?_⟩
 have loop : ∀ (n : Nat) (m : Int), 0 ≤ m → m + n = (a0a j i).f3.length → Ev (fun k => a0u.l0 k i (lowN j f (a0a j i).f3 day m.toNat) f (a0a j i).f3 ((a0a j i).f3.length : Int) m (atM j) (a4s t (frM t)) j (jid j i) (a0a j i).f1 (a0a j i).f2 (a0a j i).f3 (a0a j i).f4) (encP (jid j i) (a0a j i).f2 r) := by
  intro n
  induction n with
  | zero =>
   intro m m0 hm
   dsimp only at hK
   refine evUp K fun k hk => ?_
   rw [a0u.l0, if_neg (by omega), show m.toNat = (a0a j i).f3.length by omega]
   exact hK k hk
  | succ n ih =>
   intro m m0 hm
   obtain ⟨K2, hK2⟩ := ih (m + 1) (by omega) (by omega)
   dsimp only at hK2
   obtain ⟨a1, a2, _⟩ := after_at hv i0 i1 m0 (show m < ((a0a j i).f3.length : Int) by omega)
   refine evUp K2 fun k hk => ?_
   rw [a0u.l0, if_pos (by omega), if_pos m0, if_pos (by omega), if_pos a1, if_pos (by omega), w64 (by omega) (by omega)]
   have := hK2 k hk
   rw [show (m + 1).toNat = m.toNat + 1 by omega, lowN, Int.toNat_of_nonneg m0] at this
   exact this
 obtain ⟨K2, hK2⟩ := loop (a0a j i).f3.length 0 (by omega) (by omega)
 refine ⟨K2, fun k hk => ?_⟩
 dsimp only at hK2 ⊢
 unfold a0u.f
 rw [if_pos i0, if_pos i1]
 exact hK2 k hk
end Go.Proofs.Ytheibjkjmkanoaa.Wk
