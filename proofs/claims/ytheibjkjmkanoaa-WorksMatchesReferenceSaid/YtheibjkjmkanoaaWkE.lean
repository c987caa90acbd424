/- Words that the kit's print.sh printed, in a copy without what is not used. Conditions: as_ each theorem states. -/
import Derived.Test.YtheibjkjmkanoaaWkD
import Derived.Test.YtheibjkjmkanoaaPx14
import Derived.Test.YtheibjkjmkanoaaPx16
import Derived.Test.YtheibjkjmkanoaaPx29
import Derived.Test.YtheibjkjmkanoaaPx31
import Derived.Test.YtheibjkjmkanoaaPx30
namespace Go.Proofs.Ytheibjkjmkanoaa.Wk
open Go.RowKit Go.Proofs.YtheibjkjmkanoaaW.PrintWords Go.Proofs.YtheibjkjmkanoaaW.PrintMore Go.Proofs.Ytheibjkjmkanoaa.Given Go.Proofs.Ytheibjkjmkanoaa.Px
set_option linter.unusedVariables false
set_option linter.unusedSimpArgs false
def raG (j : List S51) (l : List S42) (i : Int) : Prop := 0 ≤ (a0b l i).f1 ∧ (a0b l i).f1 ≤ 36524 ∧ (a0b l i).f2 = (a0b l i).f1 + (a0a j i).f2
def suG (j : List S51) (t : List S58) (l : List S42) (i : Int) : Prop := suP (a5w t (a0a j i).f1) (a0b l i).f1 (a0b l i).f2
def afG (j : List S51) (l : List S42) (i : Int) : Prop := ∀ a : Int, 0 ≤ a → a < (a0a j i).f3.length → (a0b l (a2j (atM j) (rd (a0a j i).f3 a))).f2 ≤ (a0b l i).f1
def ckG (j : List S51) (t : List S58) (l : List S42) (i : Int) : Prop := raG j l i ∧ suG j t l i ∧ afG j l i ∧ ¬ clP j i (a0b l i).f1 (a0b l i).f2 (l.take i.toNat)
open Classical in
noncomputable def errC (j : List S51) (t : List S58) (l : List S42) (i : Int) : Int := if ¬ raG j l i then 3 else if ¬ suG j t l i then 6 else if ¬ afG j l i then 21 else 22
def ckS (j : List S51) (t : List S58) (l : List S42) (r : Int) : Prop := (¬ (vaP j t ∧ maP j l) ∧ r = 1) ∨ ((vaP j t ∧ maP j l) ∧ (((∀ i : Int, 0 ≤ i → i < j.length → ckG j t l i) ∧ r = 0) ∨ ∃ i : Int, 0 ≤ i ∧ i < j.length ∧ ¬ ckG j t l i ∧ (∀ q : Int, 0 ≤ q → q < i → ckG j t l q) ∧ r = errC j t l i))
theorem c3e (j : List S51) (t : List S58) (l : List S42) (i : Int) : errC j t l i ≠ 0 := by
 unfold errC
 split
 ·decide
 ·split
  ·decide
  ·split <;> decide
theorem b4e {j t l} {a b : Int} (ha : ckS j t l a) (hb : ckS j t l b) : a = b := by
 rcases ha with ⟨h1, h2⟩ | ⟨h1, h2⟩
 ·rcases hb with ⟨_, g2⟩ | ⟨g1, _⟩
  ·rw [h2, g2]
  ·exact absurd g1 h1
 ·rcases hb with ⟨g1, _⟩ | ⟨_, g2⟩
  ·exact absurd h1 g1
  ·rcases h2 with ⟨h2, h3⟩ | ⟨i, i0, i1, h3, h4, h5⟩
   ·rcases g2 with ⟨_, g3⟩ | ⟨q, q0, q1, g3, _⟩
    ·rw [h3, g3]
    ·exact absurd (h2 q q0 q1) g3
   ·rcases g2 with ⟨g2, _⟩ | ⟨q, q0, q1, g3, g4, g5⟩
    ·exact absurd (g2 i i0 i1) h3
    ·by_cases c : i < q
     ·exact absurd (g4 i i0 c) h3
     ·by_cases d : q < i
      ·exact absurd (h4 q q0 d) g3
      ·rw [h5, g5, show i = q by omega]
theorem b6e {j t l} (h : ckS j t l 0) : vaP j t ∧ maP j l ∧ ∀ i : Int, 0 ≤ i → i < j.length → ckG j t l i := by
 rcases h with ⟨_, h⟩ | ⟨h1, ⟨h2, _⟩ | ⟨i, _, _, _, _, h⟩⟩
 ·omega
 ·exact ⟨h1.1, h1.2, h2⟩
 ·exact absurd h.symm (c3e j t l i)
theorem a9b {j : List S51} {l : List S42} (hm : maP j l) (n : Nat) (hn : n ≤ l.length) : idP j (l.take n) ∧ (l.take n).length ≤ j.length := by
 have hlen : (l.take n).length = n := by rw [List.length_take]; omega
 have h1 := hm.1
 refine ⟨fun k k0 k1 _ => ?_, by omega⟩
 have e : a0b (l.take n) k = a0b l k := by
  unfold a0b
  rw [List.getD_eq_getElem?_getD, List.getD_eq_getElem?_getD, List.getElem?_take, if_pos (by omega)]
 rw [e]
 exact hm.2 k k0 (by omega)
theorem b6f {j : List S51} {t : List S58} (hv : vaP j t) {l : List S42} (hl : l.length = j.length) {i : Int} (i0 : 0 ≤ i) (i1 : i < j.length) (F : List (Int × List S56)) (a b c : Int) :
  ∃ r, Ev (fun k => a2e.f k (a0a j i).f3 a b c l j (atM j) F) r ∧ (r = true ↔ ∃ q : Int, 0 ≤ q ∧ q < (a0a j i).f3.length ∧ b < (a0b l (a2j (atM j) (rd (a0a j i).f3 q))).f2) := by
 have hb := a7t hv i0 i1
 obtain ⟨r, ⟨K, hK⟩, hr⟩ := a7r (fun q k => a0o.l0 k (a0a j i).f3 ((a0a j i).f3.length : Int) q (atM j) F a b c l j) (a0a j i).f3.length (by omega) (fun q => b < (a0b l (a2j (atM j) (rd (a0a j i).f3 q))).f2)
  (evUp 0 fun k _ => by rw [a0o.l0, if_neg (by omega)])
  (fun q q0 q1 h => by
   obtain ⟨a1, a2, _⟩ := after_at hv i0 i1 q0 q1
   exact evUp 0 fun k _ => by rw [a0o.l0, if_pos (by omega), if_pos q0, if_pos (by omega), a3l.f, if_pos a1, if_pos (by omega), Option.bind_some, if_pos (decide_eq_true h)])
  (fun q r q0 q1 h ⟨K, hK⟩ => by
   obtain ⟨a1, a2, _⟩ := after_at hv i0 i1 q0 q1
   exact evUp K fun k hk => by
    rw [a0o.l0, if_pos (by omega), if_pos q0, if_pos (by omega), a3l.f, if_pos a1, if_pos (by omega), Option.bind_some, if_neg (by rw [decide_eq_true_eq]; exact h), w64 (by omega) (by omega)]
    exact hK k hk)
 refine ⟨decide (r ≥ 0), ⟨K, fun k hk => ?_⟩, a9a hr⟩
 dsimp only at hK ⊢
 unfold a2e.f a0o.f
 rw [hK k hk, Option.bind_some]
theorem b0u {j : List S51} {t : List S58} (hv : vaP j t) {i : Int} (i0 : 0 ≤ i) (i1 : i < j.length) : ((a5w t (a0a j i).f1).length : Int) ≤ 1000 := by
 have := (a7n hv i0 i1).1.2
 omega
noncomputable def badR (j : List S51) (l : List S42) (i : Int) : Bool := @decide (¬ raG j l i) (Classical.propDecidable _)
theorem b1r {j : List S51} {l : List S42} {i : Int} (h : ¬ raG j l i) : badR j l i = true := @decide_eq_true _ (Classical.propDecidable _) h
theorem a7z {j : List S51} {l : List S42} {i : Int} (h : raG j l i) : badR j l i = false := @decide_eq_false _ (Classical.propDecidable _) fun g => g h
theorem b0v {α : Type} {j : List S51} {l : List S42} {i : Int} (hd : 1 ≤ (a0a j i).f2 ∧ (a0a j i).f2 ≤ 100) (J : Bool → α) : (if (a0b l i).f1 < 0 then J true else (if (a0b l i).f1 > 36524 then J true else J ((a0b l i).f2 != wrap64 ((a0b l i).f1 + (a0a j i).f2)))) = J (badR j l i) := by
 by_cases c1 : (a0b l i).f1 < 0
 ·rw [if_pos c1, b1r (fun h => by unfold raG at h; omega)]
 ·by_cases c2 : (a0b l i).f1 > 36524
  ·rw [if_neg c1, if_pos c2, b1r (fun h => by unfold raG at h; omega)]
  ·rw [if_neg c1, if_neg c2, w64 (by omega) (by omega)]
   by_cases c3 : (a0b l i).f2 = (a0b l i).f1 + (a0a j i).f2
   ·rw [a7z ⟨by omega, by omega, c3⟩]
    congr 1
    rw [bne_eq_false_iff_eq]
    exact c3
   ·rw [b1r (fun h => c3 h.2.2)]
    congr 1
    rw [bne_iff_ne]
    exact c3
theorem b6g (j : List S51) (t : List S58) (hb : bdP j t) (l : List S42) : ∃ r, Ev (fun k => a1d.f k j t l) r ∧ ckS j t l r := by
 rcases b2c j t hb with ⟨hv, K0, h0⟩ | ⟨hv, A, B, K0, h0⟩
 ·have hj := hv.2.1
  obtain ⟨m, ⟨K1, h1⟩, em⟩ := b3j j l (by omega)
  dsimp only at h0 h1
  by_cases cm : m = true
  ·have hm := em.1 cm
   have hlen := hm.1
   have top : ∀ r, Ev (fun k => a1d.l0 k j l (j.length : Int) 0 l (atM j) (a4e t (frM t)) j) r → Ev (fun k => a1d.f k j t l) r := fun r ⟨K, hK⟩ => ⟨K0 + K1 + K, fun k hk => by
    dsimp only at hK ⊢
    unfold a1d.f
    rw [h0 k (by omega), Option.bind_some, if_pos rfl, h1 k (by omega), Option.bind_some, if_pos cm, hlen]
    exact hK k (by omega)⟩
   rcases a5h (fun i k => a1d.l0 k j l (j.length : Int) i l (atM j) (a4e t (frM t)) j) j.length (by omega) (ckG j t l) (errC j t l) 0
    (evUp 0 fun k _ => by rw [a1d.l0, if_neg (by omega)])
    (fun i i0 i1 hg => by
     obtain ⟨g1, g2, g3, g4, g5, g6, g7, g8, g9, g10⟩ := hv.2.2.2 i i0 i1
     have step : ∀ k, a1d.l0 (k + 1) j l (j.length : Int) i l (atM j) (a4e t (frM t)) j = a1d.j1 k j i l (j.length : Int) i (badR j l i) l (atM j) (a4e t (frM t)) j (a0b l i).f0 (a0b l i).f1 (a0b l i).f2 (a0a j i).f0 (a0a j i).f1 (a0a j i).f2 (a0a j i).f3 (a0a j i).f4 := fun k => by
      rw [a1d.l0, if_pos (by omega), if_pos i0, if_pos (by omega), if_pos (by omega)]
      exact b0v ⟨g4, g5⟩ (fun b => a1d.j1 k j i l (j.length : Int) i b l (atM j) (a4e t (frM t)) j (a0b l i).f0 (a0b l i).f1 (a0b l i).f2 (a0a j i).f0 (a0a j i).f1 (a0a j i).f2 (a0a j i).f3 (a0a j i).f4)
     by_cases c1 : raG j l i
     ·obtain ⟨s, ⟨K2, h2⟩, es⟩ := b1a (a5w t (a0a j i).f1) (by have := b0u hv i0 i1; omega) (a0b l i).f0 (a0b l i).f1 (a0b l i).f2
      obtain ⟨u, ⟨K3, h3⟩, eu⟩ := b6f hv hlen i0 i1 (a4e t (frM t)) (a0b l i).f0 (a0b l i).f1 (a0b l i).f2
      dsimp only at h2 h3
      by_cases c2 : suG j t l i
      ·by_cases c3 : afG j l i
       ·have c4 : clP j i (a0b l i).f1 (a0b l i).f2 (l.take i.toNat) := Classical.byContradiction fun h => hg ⟨c1, c2, c3, h⟩
        have e0 : (a0b l i).f0 = jid j i := hm.2 i i0 i1
        rcases b0t hv i0 i1 (a0b l i).f1 (a0b l i).f2 (l.take i.toNat) (a9b hm _ (by omega)).2 (a9b hm _ (by omega)).1 (a4e t (frM t)) with ⟨hno, _⟩ | ⟨q, _, _, _, K4, h4⟩
        ·exact absurd c4 hno
        ·dsimp only at h4
         refine evUp (K2 + K3 + K4 + 1) fun k hk => ?_
         obtain ⟨k, rfl⟩ : ∃ z, k = z + 1 := ⟨k - 1, by omega⟩
         rw [step, a1d.j1, a7z c1, if_neg (by decide)]
         have hs := h2 k (by omega)
         unfold a5w at hs
         rw [hs, Option.bind_some, if_pos (es.2 c2), h3 k (by omega), Option.bind_some, if_neg (fun h => by obtain ⟨a, a0, a1, h⟩ := eu.1 h; have := c3 a a0 a1; omega), if_pos i0, if_pos (by omega), e0, h4 k (by omega), Option.bind_some, if_pos rfl]
         unfold errC
         rw [if_neg (fun h => h c1), if_neg (fun h => h c2), if_neg (fun h => h c3)]
       ·refine evUp (K2 + K3 + 1) fun k hk => ?_
        obtain ⟨k, rfl⟩ : ∃ z, k = z + 1 := ⟨k - 1, by omega⟩
        rw [step, a1d.j1, a7z c1, if_neg (by decide)]
        have hs := h2 k (by omega)
        unfold a5w at hs
        rw [hs, Option.bind_some, if_pos (es.2 c2), h3 k (by omega), Option.bind_some, if_pos (eu.2 (Classical.byContradiction fun h => c3 fun a a0 a1 => Classical.byContradiction fun h2 => h ⟨a, a0, a1, by omega⟩))]
        unfold errC
        rw [if_neg (fun h => h c1), if_neg (fun h => h c2), if_pos c3]
      ·refine evUp (K2 + K3 + 1) fun k hk => ?_
       obtain ⟨k, rfl⟩ : ∃ z, k = z + 1 := ⟨k - 1, by omega⟩
       rw [step, a1d.j1, a7z c1, if_neg (by decide)]
       have hs := h2 k (by omega)
       unfold a5w at hs
       rw [hs, Option.bind_some, if_neg (fun h => c2 (es.1 h))]
       unfold errC
       rw [if_neg (fun h => h c1), if_pos c2]
     ·refine evUp 1 fun k hk => ?_
      obtain ⟨k, rfl⟩ : ∃ z, k = z + 1 := ⟨k - 1, by omega⟩
      rw [step, a1d.j1, b1r c1, if_pos rfl]
      unfold errC
      rw [if_pos c1])
    (fun i r i0 i1 hg ⟨K5, h5⟩ => by
     obtain ⟨g1, g2, g3, g4, g5, g6, g7, g8, g9, g10⟩ := hv.2.2.2 i i0 i1
     obtain ⟨c1, c2, c3, c4⟩ := hg
     obtain ⟨s, ⟨K2, h2⟩, es⟩ := b1a (a5w t (a0a j i).f1) (by have := b0u hv i0 i1; omega) (a0b l i).f0 (a0b l i).f1 (a0b l i).f2
     obtain ⟨u, ⟨K3, h3⟩, eu⟩ := b6f hv hlen i0 i1 (a4e t (frM t)) (a0b l i).f0 (a0b l i).f1 (a0b l i).f2
     have e0 : (a0b l i).f0 = jid j i := hm.2 i i0 i1
     dsimp only at h2 h3 h5
     rcases b0t hv i0 i1 (a0b l i).f1 (a0b l i).f2 (l.take i.toNat) (a9b hm _ (by omega)).2 (a9b hm _ (by omega)).1 (a4e t (frM t)) with ⟨_, K4, h4⟩ | ⟨q, q0, q1, hq, _⟩
     ·dsimp only at h4
      refine evUp (K2 + K3 + K4 + K5 + 1) fun k hk => ?_
      obtain ⟨k, rfl⟩ : ∃ z, k = z + 1 := ⟨k - 1, by omega⟩
      rw [a1d.l0, if_pos (by omega), if_pos i0, if_pos (by omega), if_pos (by omega)]
      rw [b0v (l := l) (i := i) ⟨g4, g5⟩ (fun b => a1d.j1 (k + 1) j i l (j.length : Int) i b l (atM j) (a4e t (frM t)) j (a0b l i).f0 (a0b l i).f1 (a0b l i).f2 (a0a j i).f0 (a0a j i).f1 (a0a j i).f2 (a0a j i).f3 (a0a j i).f4)]
      rw [a1d.j1, a7z c1, if_neg (by decide)]
      have hs := h2 k (by omega)
      unfold a5w at hs
      rw [hs, Option.bind_some, if_pos (es.2 c2), h3 k (by omega), Option.bind_some, if_neg (fun h => by obtain ⟨a, a0, a1, h⟩ := eu.1 h; have := c3 a a0 a1; omega), if_pos i0, if_pos (by omega), e0, h4 k (by omega), Option.bind_some, if_neg (by decide), w64 (by omega) (by omega)]
      exact h5 k (by omega)
     ·exact absurd ⟨q, q0, q1, hq⟩ c4) with ⟨h2, h3⟩ | ⟨i, i0, i1, h2, h3, h4⟩
   ·exact ⟨0, top _ h3, .inr ⟨⟨hv, hm⟩, .inl ⟨h2, rfl⟩⟩⟩
   ·exact ⟨_, top _ h4, .inr ⟨⟨hv, hm⟩, .inr ⟨i, i0, i1, h2, h3, rfl⟩⟩⟩
  ·refine ⟨1, ⟨K0 + K1, fun k hk => ?_⟩, .inl ⟨fun h => cm (em.2 h.2), rfl⟩⟩
   dsimp only
   unfold a1d.f
   rw [h0 k (by omega), Option.bind_some, if_pos rfl, h1 k (by omega), Option.bind_some, if_neg cm]
 ·refine ⟨1, ⟨K0, fun k hk => ?_⟩, .inl ⟨fun h => hv h.1, rfl⟩⟩
  dsimp only at h0 ⊢
  unfold a1d.f
  rw [h0 k (by omega), Option.bind_some, if_neg (show ¬ (false = true) by decide)]
theorem b2j (j : List S51) (t : List S58) (hb : bdP j t) (l : List S42) : ∃ r, Ev (fun k => a0e.f k j t l) r ∧ ckS j t l r := by
 obtain ⟨v, ⟨K0, h0⟩, ev⟩ := a9y j t hb
 obtain ⟨m, ⟨K1, h1⟩, em⟩ := b5z j l (by have := hb.1; omega)
 dsimp only at h0 h1
 by_cases cv : v = true
 ·have hv := ev.1 cv
  have hj := hv.2.1
  by_cases cm : m = true
  ·have hm := em.1 cm
   have hlen := hm.1
   have top : ∀ r, Ev (fun k => a0e.l0 k j t l 0) r → Ev (fun k => a0e.f k j t l) r := fun r ⟨K, hK⟩ => ⟨K0 + K1 + K + 1, fun k hk => by
    obtain ⟨k, rfl⟩ : ∃ z, k = z + 1 := ⟨k - 1, by omega⟩
    dsimp only at hK ⊢
    unfold a0e.f
    rw [h0 _ (by omega), Option.bind_some, h1 _ (by omega), Option.bind_some, if_pos cv, cm, a0e.j0, if_neg (by decide)]
    exact hK k (by omega)⟩
   rcases a5h (fun i k => a0e.l0 k j t l i) j.length (by omega) (ckG j t l) (errC j t l) 0
    (evUp 0 fun k _ => by rw [a0e.l0, if_neg (by omega)])
    (fun i i0 i1 hg => by
     obtain ⟨g1, g2, g3, g4, g5, g6, g7, g8, g9, g10⟩ := hv.2.2.2 i i0 i1
     have hab := a7t hv i0 i1
     have step : ∀ k, a0e.l0 (k + 1) j t l i = a0e.j2 k j t l i (badR j l i) (a0a j i).f0 (a0a j i).f1 (a0a j i).f2 (a0a j i).f3 (a0a j i).f4 (a0b l i).f0 (a0b l i).f1 (a0b l i).f2 := fun k => by
      rw [a0e.l0, if_pos (by omega), if_pos i0, if_pos (by omega)]
      exact b0v ⟨g4, g5⟩ (fun b => a0e.j2 k j t l i b (a0a j i).f0 (a0a j i).f1 (a0a j i).f2 (a0a j i).f3 (a0a j i).f4 (a0b l i).f0 (a0b l i).f1 (a0b l i).f2)
     by_cases c1 : raG j l i
     ·obtain ⟨_, K6, h6⟩ := a7n hv i0 i1
      obtain ⟨s, ⟨K2, h2⟩, es⟩ := b2q (a5w t (a0a j i).f1) (by have := b0u hv i0 i1; omega) (a0b l i).f1 (a0b l i).f2
      dsimp only at h2 h6
      by_cases c2 : suG j t l i
      · -- the loop over the jobs before it
       have lo : ∀ e, Ev (fun k => a0e.l1 k j t l i (a0a j i).f3.length (a0a j i).f0 (a0a j i).f1 (a0a j i).f2 (a0a j i).f3 (a0a j i).f4 (a0b l i).f0 (a0b l i).f1 (a0b l i).f2) e → (afG j l i ∧ Ev (fun k => a0e.l1 k j t l i 0 (a0a j i).f0 (a0a j i).f1 (a0a j i).f2 (a0a j i).f3 (a0a j i).f4 (a0b l i).f0 (a0b l i).f1 (a0b l i).f2) e) ∨
         (¬ afG j l i ∧ Ev (fun k => a0e.l1 k j t l i 0 (a0a j i).f0 (a0a j i).f1 (a0a j i).f2 (a0a j i).f3 (a0a j i).f4 (a0b l i).f0 (a0b l i).f1 (a0b l i).f2) 21) := fun e he => by
        rcases a5h (fun a k => a0e.l1 k j t l i a (a0a j i).f0 (a0a j i).f1 (a0a j i).f2 (a0a j i).f3 (a0a j i).f4 (a0b l i).f0 (a0b l i).f1 (a0b l i).f2) (a0a j i).f3.length (by omega) (fun a => (a0b l (a2j (atM j) (rd (a0a j i).f3 a))).f2 ≤ (a0b l i).f1) (fun _ => 21) e he
         (fun a a0 a1 ha => by
          obtain ⟨p1, p2, p3⟩ := after_at hv i0 i1 a0 a1
          obtain ⟨q, ⟨K7, h7⟩, hq⟩ := a6w j i i0 (by omega) (by omega) (rd (a0a j i).f3 a)
          dsimp only at h7
          have eq : q = a2j (atM j) (rd (a0a j i).f3 a) := by
           rcases hq with ⟨_, hq⟩ | ⟨q0, q1, q2, _⟩
           ·exact absurd p3 (hq _ p1 p2)
           ·exact a7s hv q0 (by omega) p1 (by omega) (by rw [p3]; exact q2)
          rw [eq] at h7
          exact evUp K7 fun k hk => by rw [a0e.l1, if_pos (by omega), if_pos a0, h7 k hk, Option.bind_some, if_pos p1, if_pos (by omega), if_pos (by omega)])
         (fun a r a0 a1 ha ⟨K8, h8⟩ => by
          obtain ⟨p1, p2, p3⟩ := after_at hv i0 i1 a0 a1
          obtain ⟨q, ⟨K7, h7⟩, hq⟩ := a6w j i i0 (by omega) (by omega) (rd (a0a j i).f3 a)
          dsimp only at h7 h8
          have eq : q = a2j (atM j) (rd (a0a j i).f3 a) := by
           rcases hq with ⟨_, hq⟩ | ⟨q0, q1, q2, _⟩
           ·exact absurd p3 (hq _ p1 p2)
           ·exact a7s hv q0 (by omega) p1 (by omega) (by rw [p3]; exact q2)
          rw [eq] at h7
          exact evUp (K7 + K8) fun k hk => by rw [a0e.l1, if_pos (by omega), if_pos a0, h7 k (by omega), Option.bind_some, if_pos p1, if_pos (by omega), if_neg (by omega), w64 (by omega) (by omega)]; exact h8 k (by omega)) with ⟨h, h'⟩ | ⟨a, a0, a1, h, _, h'⟩
        ·exact .inl ⟨h, h'⟩
        ·exact .inr ⟨fun hh => h (hh a a0 a1), h'⟩
       obtain ⟨w, ⟨K4, h4⟩, ew⟩ := b2r hv i0 i1 (a0b l i).f1 (a0b l i).f2 (l.take i.toNat) (a9b hm _ (by omega)).2
       dsimp only at h4
       by_cases c3 : afG j l i
       ·have c4 : clP j i (a0b l i).f1 (a0b l i).f2 (l.take i.toNat) := Classical.byContradiction fun h => hg ⟨c1, c2, c3, h⟩
        rcases lo 22 (evUp K4 fun k hk => by rw [a0e.l1, if_neg (by omega), if_pos i0, if_pos (by omega), h4 k hk, Option.bind_some, if_pos (ew.2 c4)]) with ⟨_, K9, h9⟩ | ⟨hn, _⟩
        ·dsimp only at h9
         refine evUp (K2 + K6 + K9 + 1) fun k hk => ?_
         obtain ⟨k, rfl⟩ : ∃ z, k = z + 1 := ⟨k - 1, by omega⟩
         rw [step, a0e.j2, a7z c1, if_neg (by decide), h6 k (by omega), Option.bind_some, h2 k (by omega), Option.bind_some, if_pos (es.2 c2)]
         unfold errC
         rw [if_neg (fun h => h c1), if_neg (fun h => h c2), if_neg (fun h => h c3)]
         exact h9 k (by omega)
        ·exact absurd c3 hn
       ·obtain ⟨e, he⟩ : ∃ e, Ev (fun k => a0e.l1 k j t l i (a0a j i).f3.length (a0a j i).f0 (a0a j i).f1 (a0a j i).f2 (a0a j i).f3 (a0a j i).f4 (a0b l i).f0 (a0b l i).f1 (a0b l i).f2) e ∨ True := ⟨21, .inr trivial⟩
        have hx : Ev (fun k => a0e.l1 k j t l i 0 (a0a j i).f0 (a0a j i).f1 (a0a j i).f2 (a0a j i).f3 (a0a j i).f4 (a0b l i).f0 (a0b l i).f1 (a0b l i).f2) 21 := by
         obtain ⟨a, a0, a1, ha⟩ : ∃ a : Int, 0 ≤ a ∧ a < (a0a j i).f3.length ∧ ¬ (a0b l (a2j (atM j) (rd (a0a j i).f3 a))).f2 ≤ (a0b l i).f1 := Classical.byContradiction fun h => c3 fun a a0 a1 => Classical.byContradiction fun h2 => h ⟨a, a0, a1, h2⟩
         have one : ∀ b : Int, 0 ≤ b → b < (a0a j i).f3.length → ∃ K7, ∀ k, K7 ≤ k → a1f.f k j i (rd (a0a j i).f3 b) = some (a2j (atM j) (rd (a0a j i).f3 b)) := fun b b0 b1 => by
          obtain ⟨p1, p2, p3⟩ := after_at hv i0 i1 b0 b1
          obtain ⟨q, ⟨K7, h7⟩, hq⟩ := a6w j i i0 (by omega) (by omega) (rd (a0a j i).f3 b)
          dsimp only at h7
          have eq : q = a2j (atM j) (rd (a0a j i).f3 b) := by
           rcases hq with ⟨_, hq⟩ | ⟨q0, q1, q2, _⟩
           ·exact absurd p3 (hq _ p1 p2)
           ·exact a7s hv q0 (by omega) p1 (by omega) (by rw [p3]; exact q2)
          rw [eq] at h7
          exact ⟨K7, h7⟩
         have bad : ∀ b : Int, 0 ≤ b → b < (a0a j i).f3.length → ¬ (a0b l (a2j (atM j) (rd (a0a j i).f3 b))).f2 ≤ (a0b l i).f1 → Ev (fun k => a0e.l1 k j t l i b (a0a j i).f0 (a0a j i).f1 (a0a j i).f2 (a0a j i).f3 (a0a j i).f4 (a0b l i).f0 (a0b l i).f1 (a0b l i).f2) 21 := fun b b0 b1 hb => by
          obtain ⟨p1, p2, p3⟩ := after_at hv i0 i1 b0 b1
          obtain ⟨K7, h7⟩ := one b b0 b1
          exact evUp K7 fun k hk => by rw [a0e.l1, if_pos (by omega), if_pos b0, h7 k hk, Option.bind_some, if_pos p1, if_pos (by omega), if_pos (by omega)]
         rcases a5h (fun a k => a0e.l1 k j t l i a (a0a j i).f0 (a0a j i).f1 (a0a j i).f2 (a0a j i).f3 (a0a j i).f4 (a0b l i).f0 (a0b l i).f1 (a0b l i).f2) a a0 (fun a => (a0b l (a2j (atM j) (rd (a0a j i).f3 a))).f2 ≤ (a0b l i).f1) (fun _ => 21) 21 (bad a a0 a1 ha)
          (fun b b0 b1 hb => bad b b0 (by omega) hb)
          (fun b r b0 b1 hb ⟨K8, h8⟩ => by
           obtain ⟨p1, p2, p3⟩ := after_at hv i0 i1 b0 (show b < ((a0a j i).f3.length : Int) by omega)
           obtain ⟨K7, h7⟩ := one b b0 (by omega)
           dsimp only at h8
           exact evUp (K7 + K8) fun k hk => by rw [a0e.l1, if_pos (by omega), if_pos b0, h7 k (by omega), Option.bind_some, if_pos p1, if_pos (by omega), if_neg (by omega), w64 (by omega) (by omega)]; exact h8 k (by omega)) with ⟨_, h⟩ | ⟨_, _, _, _, _, h⟩
         ·exact h
         ·exact h
        obtain ⟨K9, h9⟩ := hx
        dsimp only at h9
        refine evUp (K2 + K6 + K9 + 1) fun k hk => ?_
        obtain ⟨k, rfl⟩ : ∃ z, k = z + 1 := ⟨k - 1, by omega⟩
        rw [step, a0e.j2, a7z c1, if_neg (by decide), h6 k (by omega), Option.bind_some, h2 k (by omega), Option.bind_some, if_pos (es.2 c2)]
        unfold errC
        rw [if_neg (fun h => h c1), if_neg (fun h => h c2), if_pos c3]
        exact h9 k (by omega)
      ·refine evUp (K2 + K6 + 1) fun k hk => ?_
       obtain ⟨k, rfl⟩ : ∃ z, k = z + 1 := ⟨k - 1, by omega⟩
       rw [step, a0e.j2, a7z c1, if_neg (by decide), h6 k (by omega), Option.bind_some, h2 k (by omega), Option.bind_some, if_neg (fun h => c2 (es.1 h))]
       unfold errC
       rw [if_neg (fun h => h c1), if_pos c2]
     ·refine evUp 1 fun k hk => ?_
      obtain ⟨k, rfl⟩ : ∃ z, k = z + 1 := ⟨k - 1, by omega⟩
      rw [step, a0e.j2, b1r c1, if_pos rfl]
      unfold errC
      rw [if_pos c1])
    (fun i r i0 i1 hg ⟨K5, h5⟩ => by
     obtain ⟨g1, g2, g3, g4, g5, g6, g7, g8, g9, g10⟩ := hv.2.2.2 i i0 i1
     have hab := a7t hv i0 i1
     obtain ⟨c1, c2, c3, c4⟩ := hg
     obtain ⟨_, K6, h6⟩ := a7n hv i0 i1
     obtain ⟨s, ⟨K2, h2⟩, es⟩ := b2q (a5w t (a0a j i).f1) (by have := b0u hv i0 i1; omega) (a0b l i).f1 (a0b l i).f2
     obtain ⟨w, ⟨K4, h4⟩, ew⟩ := b2r hv i0 i1 (a0b l i).f1 (a0b l i).f2 (l.take i.toNat) (a9b hm _ (by omega)).2
     dsimp only at h2 h4 h5 h6
     have loop : ∀ (n : Nat) (a : Int), 0 ≤ a → a + n = (a0a j i).f3.length → Ev (fun k => a0e.l1 k j t l i a (a0a j i).f0 (a0a j i).f1 (a0a j i).f2 (a0a j i).f3 (a0a j i).f4 (a0b l i).f0 (a0b l i).f1 (a0b l i).f2) r := by
      intro n
      induction n with
      | zero =>
       intro a a0 ha
       refine evUp (K4 + K5) fun k hk => ?_
       rw [a0e.l1, if_neg (by omega), if_pos i0, if_pos (by omega), h4 k (by omega), Option.bind_some, if_neg (fun h => c4 (ew.1 h)), w64 (by omega) (by omega)]
       exact h5 k (by omega)
      | succ n ih =>
       intro a a0 ha
       obtain ⟨K8, h8⟩ := ih (a + 1) (by omega) (by omega)
       obtain ⟨p1, p2, p3⟩ := after_at hv i0 i1 a0 (show a < ((a0a j i).f3.length : Int) by omega)
       obtain ⟨q, ⟨K7, h7⟩, hq⟩ := a6w j i i0 (by omega) (by omega) (rd (a0a j i).f3 a)
       dsimp only at h7 h8
       have eq : q = a2j (atM j) (rd (a0a j i).f3 a) := by
        rcases hq with ⟨_, hq⟩ | ⟨q0, q1, q2, _⟩
        ·exact absurd p3 (hq _ p1 p2)
        ·exact a7s hv q0 (by omega) p1 (by omega) (by rw [p3]; exact q2)
       rw [eq] at h7
       have := c3 a a0 (by omega)
       exact evUp (K7 + K8) fun k hk => by rw [a0e.l1, if_pos (by omega), if_pos a0, h7 k (by omega), Option.bind_some, if_pos p1, if_pos (by omega), if_neg (by omega), w64 (by omega) (by omega)]; exact h8 k (by omega)
     obtain ⟨K9, h9⟩ := loop (a0a j i).f3.length 0 (by omega) (by omega)
     dsimp only at h9
     refine evUp (K2 + K6 + K9 + 1) fun k hk => ?_
     obtain ⟨k, rfl⟩ : ∃ z, k = z + 1 := ⟨k - 1, by omega⟩
     rw [a0e.l0, if_pos (by omega), if_pos i0, if_pos (by omega)]
     rw [b0v (l := l) (i := i) ⟨g4, g5⟩ (fun b => a0e.j2 (k + 1) j t l i b (a0a j i).f0 (a0a j i).f1 (a0a j i).f2 (a0a j i).f3 (a0a j i).f4 (a0b l i).f0 (a0b l i).f1 (a0b l i).f2)]
     rw [a0e.j2, a7z c1, if_neg (by decide), h6 k (by omega), Option.bind_some, h2 k (by omega), Option.bind_some, if_pos (es.2 c2)]
     exact h9 k (by omega)) with ⟨h2, h3⟩ | ⟨i, i0, i1, h2, h3, h4⟩
   ·exact ⟨0, top _ h3, .inr ⟨⟨hv, hm⟩, .inl ⟨h2, rfl⟩⟩⟩
   ·exact ⟨_, top _ h4, .inr ⟨⟨hv, hm⟩, .inr ⟨i, i0, i1, h2, h3, rfl⟩⟩⟩
  ·refine ⟨1, ⟨K0 + K1 + 1, fun k hk => ?_⟩, .inl ⟨fun h => cm (em.2 h.2), rfl⟩⟩
   obtain ⟨k, rfl⟩ : ∃ z, k = z + 1 := ⟨k - 1, by omega⟩
   dsimp only
   unfold a0e.f
   rw [Bool.not_eq_true] at cm
   rw [h0 _ (by omega), Option.bind_some, h1 _ (by omega), Option.bind_some, if_pos cv, cm, a0e.j0, if_pos (by decide)]
 ·refine ⟨1, ⟨K0 + K1 + 1, fun k hk => ?_⟩, .inl ⟨fun h => cv (ev.2 h.1), rfl⟩⟩
  obtain ⟨k, rfl⟩ : ∃ z, k = z + 1 := ⟨k - 1, by omega⟩
  dsimp only
  unfold a0e.f
  rw [h0 _ (by omega), Option.bind_some, h1 _ (by omega), Option.bind_some, if_neg cv, a0e.j0, if_pos rfl]
end Go.Proofs.Ytheibjkjmkanoaa.Wk
