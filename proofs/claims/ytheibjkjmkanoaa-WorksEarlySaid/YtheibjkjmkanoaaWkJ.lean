/- Words that the kit's print.sh printed, in a copy without what is not used. Conditions: as_ each theorem states. -/
import Derived.Test.YtheibjkjmkanoaaWkD
import Derived.Test.YtheibjkjmkanoaaPx14
import Derived.Test.YtheibjkjmkanoaaWkB
import Derived.Test.YtheibjkjmkanoaaPx34
import Derived.Test.YtheibjkjmkanoaaPx12
import Derived.Test.YtheibjkjmkanoaaPx13
import Derived.Test.YtheibjkjmkanoaaWkA
import Derived.Test.YtheibjkjmkanoaaWkC
namespace Go.Proofs.Ytheibjkjmkanoaa.Wk
open Go.RowKit Go.Proofs.YtheibjkjmkanoaaW.PrintWords Go.Proofs.YtheibjkjmkanoaaW.PrintMore Go.Proofs.Ytheibjkjmkanoaa.Given Go.Proofs.Ytheibjkjmkanoaa.Px
set_option linter.unusedVariables false
set_option linter.unusedSimpArgs false
def raG (j : List S51) (l : List S42) (i : Int) : Prop := 0 ≤ (a0b l i).f1 ∧ (a0b l i).f1 ≤ 36524 ∧ (a0b l i).f2 = (a0b l i).f1 + (a0a j i).f2
def suG (j : List S51) (t : List S58) (l : List S42) (i : Int) : Prop := suP (a5r t (a0a j i).f1) (a0b l i).f1 (a0b l i).f2
def afG (j : List S51) (l : List S42) (i : Int) : Prop := ∀ a : Int, 0 ≤ a → a < (a0a j i).f3.length → (a0b l (a1z (atM j) (rd (a0a j i).f3 a))).f2 ≤ (a0b l i).f1
def ckG (j : List S51) (t : List S58) (l : List S42) (i : Int) : Prop := raG j l i ∧ suG j t l i ∧ afG j l i ∧ ¬ clP j i (a0b l i).f1 (a0b l i).f2 (l.take i.toNat)
open Classical in
noncomputable def errC (j : List S51) (t : List S58) (l : List S42) (i : Int) : Int := if ¬ raG j l i then 3 else if ¬ suG j t l i then 6 else if ¬ afG j l i then 21 else 22
def ckS (j : List S51) (t : List S58) (l : List S42) (r : Int) : Prop := (¬ (vaP j t ∧ maP j l) ∧ r = 1) ∨ ((vaP j t ∧ maP j l) ∧ (((∀ i : Int, 0 ≤ i → i < j.length → ckG j t l i) ∧ r = 0) ∨ ∃ i : Int, 0 ≤ i ∧ i < j.length ∧ ¬ ckG j t l i ∧ (∀ q : Int, 0 ≤ q → q < i → ckG j t l q) ∧ r = errC j t l i))
theorem c1e (j : List S51) (t : List S58) (l : List S42) (i : Int) : errC j t l i ≠ 0 := by
 unfold errC
 split
 ·decide
 ·split
  ·decide
  ·split <;> decide
theorem c1f {j t l} {a b : Int} (ha : ckS j t l a) (hb : ckS j t l b) : a = b := by
 rcases ha with ⟨h1, h2⟩ | ⟨h1, h2⟩
 ·rcases hb with ⟨_, g2⟩ | ⟨g1, _⟩
  ·rw [h2, g2]
  ·exact absurd g1 h1
 ·rcases hb with ⟨g1, _⟩ | ⟨_, g2⟩
  ·exact absurd h1 g1
  ·rcases h2 with ⟨h2, h3⟩ | ⟨i, i0, i1, h3, h4, h5⟩
   ·rcases g2 with ⟨_, g3⟩ | ⟨q, q0, q1, g3, _⟩
    ·rw [h3, g3]
    ·exact absurd (h2 q q0 q1) g3
   ·rcases g2 with ⟨g2, _⟩ | ⟨q, q0, q1, g3, g4, g5⟩
    ·exact absurd (g2 i i0 i1) h3
    ·by_cases c : i < q
     ·exact absurd (g4 i i0 c) h3
     ·by_cases d : q < i
      ·exact absurd (h4 q q0 d) g3
      ·rw [h5, g5, show i = q by omega]
theorem b9f {j t l} (h : ckS j t l 0) : vaP j t ∧ maP j l ∧ ∀ i : Int, 0 ≤ i → i < j.length → ckG j t l i := by
 rcases h with ⟨_, h⟩ | ⟨h1, ⟨h2, _⟩ | ⟨i, _, _, _, _, h⟩⟩
 ·omega
 ·exact ⟨h1.1, h1.2, h2⟩
 ·exact absurd h.symm (c1e j t l i)
theorem b0x {j : List S51} {l : List S42} (hm : maP j l) (n : Nat) (hn : n ≤ l.length) : idP j (l.take n) ∧ (l.take n).length ≤ j.length := by
 have hlen : (l.take n).length = n := by rw [List.length_take]; omega
 have h1 := hm.1
 refine ⟨fun k k0 k1 _ => ?_, by omega⟩
 have e : a0b (l.take n) k = a0b l k := by
  unfold a0b
  rw [List.getD_eq_getElem?_getD, List.getD_eq_getElem?_getD, List.getElem?_take, if_pos (by omega)]
 rw [e]
 exact hm.2 k k0 (by omega)
theorem b4w {j : List S51} {t : List S58} (hv : vaP j t) {l : List S42} (hl : l.length = j.length) {i : Int} (i0 : 0 ≤ i) (i1 : i < j.length) (F : List (Int × List S56)) (a b c : Int) :
  ∃ r, Ev (fun k => a1o.f k (a0a j i).f3 a b c l j (atM j) F) r ∧ (r = true ↔ ∃ q : Int, 0 ≤ q ∧ q < (a0a j i).f3.length ∧ b < (a0b l (a1z (atM j) (rd (a0a j i).f3 q))).f2) := by
 have hb := b3d hv i0 i1
 obtain ⟨r, ⟨K, hK⟩, hr⟩ := a7t (fun q k => a0m.l0 k (a0a j i).f3 ((a0a j i).f3.length : Int) q (atM j) F a b c l j) (a0a j i).f3.length (by omega) (fun q => b < (a0b l (a1z (atM j) (rd (a0a j i).f3 q))).f2)
  (evUp 0 fun k _ => by rw [a0m.l0, if_neg (by omega)])
  (fun q q0 q1 h => by
   obtain ⟨a1, a2, _⟩ := after_at hv i0 i1 q0 q1
   exact evUp 0 fun k _ => by rw [a0m.l0, if_pos (by omega), if_pos q0, if_pos (by omega), a3k.f, if_pos a1, if_pos (by omega), Option.bind_some, if_pos (decide_eq_true h)])
  (fun q r q0 q1 h ⟨K, hK⟩ => by
   obtain ⟨a1, a2, _⟩ := after_at hv i0 i1 q0 q1
   exact evUp K fun k hk => by
    rw [a0m.l0, if_pos (by omega), if_pos q0, if_pos (by omega), a3k.f, if_pos a1, if_pos (by omega), Option.bind_some, if_neg (by rw [decide_eq_true_eq]; exact h), w64 (by omega) (by omega)]
    exact hK k hk)
 refine ⟨decide (r ≥ 0), ⟨K, fun k hk => ?_⟩, a9f hr⟩
 dsimp only at hK ⊢
 unfold a1o.f a0m.f
 rw [hK k hk, Option.bind_some]
theorem b4x {j : List S51} {t : List S58} (hv : vaP j t) {i : Int} (i0 : 0 ≤ i) (i1 : i < j.length) : ((a5r t (a0a j i).f1).length : Int) ≤ 1000 := by
 have := (a9r hv i0 i1).1.2
 omega
noncomputable def badR (j : List S51) (l : List S42) (i : Int) : Bool := @decide (¬ raG j l i) (Classical.propDecidable _)
theorem b2i {j : List S51} {l : List S42} {i : Int} (h : ¬ raG j l i) : badR j l i = true := @decide_eq_true _ (Classical.propDecidable _) h
theorem b0m {j : List S51} {l : List S42} {i : Int} (h : raG j l i) : badR j l i = false := @decide_eq_false _ (Classical.propDecidable _) fun g => g h
theorem b4y {α : Type} {j : List S51} {l : List S42} {i : Int} (hd : 1 ≤ (a0a j i).f2 ∧ (a0a j i).f2 ≤ 100) (J : Bool → α) : (if (a0b l i).f1 < 0 then J true else (if (a0b l i).f1 > 36524 then J true else J ((a0b l i).f2 != wrap64 ((a0b l i).f1 + (a0a j i).f2)))) = J (badR j l i) := by
 by_cases c1 : (a0b l i).f1 < 0
 ·rw [if_pos c1, b2i (fun h => by unfold raG at h; omega)]
 ·by_cases c2 : (a0b l i).f1 > 36524
  ·rw [if_neg c1, if_pos c2, b2i (fun h => by unfold raG at h; omega)]
  ·rw [if_neg c1, if_neg c2, w64 (by omega) (by omega)]
   by_cases c3 : (a0b l i).f2 = (a0b l i).f1 + (a0a j i).f2
   ·rw [b0m ⟨by omega, by omega, c3⟩]
    congr 1
    rw [bne_eq_false_iff_eq]
    exact c3
   ·rw [b2i (fun h => c3 h.2.2)]
    congr 1
    rw [bne_iff_ne]
    exact c3
theorem b4z (j : List S51) (t : List S58) (hb : bdP j t) (l : List S42) : ∃ r, Ev (fun k => a0j.f k j t l) r ∧ ckS j t l r := by
 rcases b5v j t hb with ⟨hv, K0, h0⟩ | ⟨hv, A, B, K0, h0⟩
 ·have hj := hv.2.1
  obtain ⟨m, ⟨K1, h1⟩, em⟩ := b6z j l (by omega)
  dsimp only at h0 h1
  by_cases cm : m = true
  ·have hm := em.1 cm
   have hlen := hm.1
   have top : ∀ r, Ev (fun k => a0j.l0 k j l (j.length : Int) 0 l (atM j) (a4s t (frM t)) j) r → Ev (fun k => a0j.f k j t l) r := fun r ⟨K, hK⟩ => ⟨K0 + K1 + K, fun k hk => by
    dsimp only at hK ⊢
    unfold a0j.f
    rw [h0 k (by omega), Option.bind_some, if_pos rfl, h1 k (by omega), Option.bind_some, if_pos cm, hlen]
    exact hK k (by omega)⟩
   rcases a7p (fun i k => a0j.l0 k j l (j.length : Int) i l (atM j) (a4s t (frM t)) j) j.length (by omega) (ckG j t l) (errC j t l) 0
    (evUp 0 fun k _ => by rw [a0j.l0, if_neg (by omega)])
    (fun i i0 i1 hg => by
     obtain ⟨g1, g2, g3, g4, g5, g6, g7, g8, g9, g10⟩ := hv.2.2.2 i i0 i1
     have step : ∀ k, a0j.l0 (k + 1) j l (j.length : Int) i l (atM j) (a4s t (frM t)) j = a0j.j1 k j i l (j.length : Int) i (badR j l i) l (atM j) (a4s t (frM t)) j (a0b l i).f0 (a0b l i).f1 (a0b l i).f2 (a0a j i).f0 (a0a j i).f1 (a0a j i).f2 (a0a j i).f3 (a0a j i).f4 := fun k => by
      rw [a0j.l0, if_pos (by omega), if_pos i0, if_pos (by omega), if_pos (by omega)]
      exact b4y ⟨g4, g5⟩ (fun b => a0j.j1 k j i l (j.length : Int) i b l (atM j) (a4s t (frM t)) j (a0b l i).f0 (a0b l i).f1 (a0b l i).f2 (a0a j i).f0 (a0a j i).f1 (a0a j i).f2 (a0a j i).f3 (a0a j i).f4)
     by_cases c1 : raG j l i
     ·obtain ⟨s, ⟨K2, h2⟩, es⟩ := a9w (a5r t (a0a j i).f1) (by have := b4x hv i0 i1; omega) (a0b l i).f0 (a0b l i).f1 (a0b l i).f2
      obtain ⟨u, ⟨K3, h3⟩, eu⟩ := b4w hv hlen i0 i1 (a4s t (frM t)) (a0b l i).f0 (a0b l i).f1 (a0b l i).f2
      dsimp only at h2 h3
      by_cases c2 : suG j t l i
      ·by_cases c3 : afG j l i
       ·have c4 : clP j i (a0b l i).f1 (a0b l i).f2 (l.take i.toNat) := Classical.byContradiction fun h => hg ⟨c1, c2, c3, h⟩
        have e0 : (a0b l i).f0 = jid j i := hm.2 i i0 i1
        rcases a9p hv i0 i1 (a0b l i).f1 (a0b l i).f2 (l.take i.toNat) (b0x hm _ (by omega)).2 (b0x hm _ (by omega)).1 (a4s t (frM t)) with ⟨hno, _⟩ | ⟨q, _, _, _, K4, h4⟩
        ·exact absurd c4 hno
        ·dsimp only at h4
         refine evUp (K2 + K3 + K4 + 1) fun k hk => ?_
         obtain ⟨k, rfl⟩ : ∃ z, k = z + 1 := ⟨k - 1, by omega⟩
         rw [step, a0j.j1, b0m c1, if_neg (by decide)]
         have hs := h2 k (by omega)
         unfold a5r at hs
         rw [hs, Option.bind_some, if_pos (es.2 c2), h3 k (by omega), Option.bind_some, if_neg (fun h => by obtain ⟨a, a0, a1, h⟩ := eu.1 h; have := c3 a a0 a1; omega), if_pos i0, if_pos (by omega), e0, h4 k (by omega), Option.bind_some, if_pos rfl]
         unfold errC
         rw [if_neg (fun h => h c1), if_neg (fun h => h c2), if_neg (fun h => h c3)]
       ·refine evUp (K2 + K3 + 1) fun k hk => ?_
        obtain ⟨k, rfl⟩ : ∃ z, k = z + 1 := ⟨k - 1, by omega⟩
        rw [step, a0j.j1, b0m c1, if_neg (by decide)]
        have hs := h2 k (by omega)
        unfold a5r at hs
        rw [hs, Option.bind_some, if_pos (es.2 c2), h3 k (by omega), Option.bind_some, if_pos (eu.2 (Classical.byContradiction fun h => c3 fun a a0 a1 => Classical.byContradiction fun h2 => h ⟨a, a0, a1, by omega⟩))]
        unfold errC
        rw [if_neg (fun h => h c1), if_neg (fun h => h c2), if_pos c3]
      ·refine evUp (K2 + K3 + 1) fun k hk => ?_
       obtain ⟨k, rfl⟩ : ∃ z, k = z + 1 := ⟨k - 1, by omega⟩
       rw [step, a0j.j1, b0m c1, if_neg (by decide)]
       have hs := h2 k (by omega)
       unfold a5r at hs
       rw [hs, Option.bind_some, if_neg (fun h => c2 (es.1 h))]
       unfold errC
       rw [if_neg (fun h => h c1), if_pos c2]
     ·refine evUp 1 fun k hk => ?_
      obtain ⟨k, rfl⟩ : ∃ z, k = z + 1 := ⟨k - 1, by omega⟩
      rw [step, a0j.j1, b2i c1, if_pos rfl]
      unfold errC
      rw [if_pos c1])
    (fun i r i0 i1 hg ⟨K5, h5⟩ => by
     obtain ⟨g1, g2, g3, g4, g5, g6, g7, g8, g9, g10⟩ := hv.2.2.2 i i0 i1
     obtain ⟨c1, c2, c3, c4⟩ := hg
     obtain ⟨s, ⟨K2, h2⟩, es⟩ := a9w (a5r t (a0a j i).f1) (by have := b4x hv i0 i1; omega) (a0b l i).f0 (a0b l i).f1 (a0b l i).f2
     obtain ⟨u, ⟨K3, h3⟩, eu⟩ := b4w hv hlen i0 i1 (a4s t (frM t)) (a0b l i).f0 (a0b l i).f1 (a0b l i).f2
     have e0 : (a0b l i).f0 = jid j i := hm.2 i i0 i1
     dsimp only at h2 h3 h5
     rcases a9p hv i0 i1 (a0b l i).f1 (a0b l i).f2 (l.take i.toNat) (b0x hm _ (by omega)).2 (b0x hm _ (by omega)).1 (a4s t (frM t)) with ⟨_, K4, h4⟩ | ⟨q, q0, q1, hq, _⟩
     ·dsimp only at h4
      refine evUp (K2 + K3 + K4 + K5 + 1) fun k hk => ?_
      obtain ⟨k, rfl⟩ : ∃ z, k = z + 1 := ⟨k - 1, by omega⟩
      rw [a0j.l0, if_pos (by omega), if_pos i0, if_pos (by omega), if_pos (by omega)]
      rw [b4y (l := l) (i := i) ⟨g4, g5⟩ (fun b => a0j.j1 (k + 1) j i l (j.length : Int) i b l (atM j) (a4s t (frM t)) j (a0b l i).f0 (a0b l i).f1 (a0b l i).f2 (a0a j i).f0 (a0a j i).f1 (a0a j i).f2 (a0a j i).f3 (a0a j i).f4)]
      rw [a0j.j1, b0m c1, if_neg (by decide)]
      have hs := h2 k (by omega)
      unfold a5r at hs
      rw [hs, Option.bind_some, if_pos (es.2 c2), h3 k (by omega), Option.bind_some, if_neg (fun h => by obtain ⟨a, a0, a1, h⟩ := eu.1 h; have := c3 a a0 a1; omega), if_pos i0, if_pos (by omega), e0, h4 k (by omega), Option.bind_some, if_neg (by decide), w64 (by omega) (by omega)]
      exact h5 k (by omega)
     ·exact absurd ⟨q, q0, q1, hq⟩ c4) with ⟨h2, h3⟩ | ⟨i, i0, i1, h2, h3, h4⟩
   ·exact ⟨0, top _ h3, .inr ⟨⟨hv, hm⟩, .inl ⟨h2, rfl⟩⟩⟩
   ·exact ⟨_, top _ h4, .inr ⟨⟨hv, hm⟩, .inr ⟨i, i0, i1, h2, h3, rfl⟩⟩⟩
  ·refine ⟨1, ⟨K0 + K1, fun k hk => ?_⟩, .inl ⟨fun h => cm (em.2 h.2), rfl⟩⟩
   dsimp only
   unfold a0j.f
   rw [h0 k (by omega), Option.bind_some, if_pos rfl, h1 k (by omega), Option.bind_some, if_neg cm]
 ·refine ⟨1, ⟨K0, fun k hk => ?_⟩, .inl ⟨fun h => hv h.1, rfl⟩⟩
  dsimp only at h0 ⊢
  unfold a0j.f
  rw [h0 k (by omega), Option.bind_some, if_neg (show ¬ (false = true) by decide)]
end Go.Proofs.Ytheibjkjmkanoaa.Wk
/- Jobs are planned anew: what works and its reference do. Conditions: as_ each theorem states. -/
namespace Go.Proofs.Ytheibjkjmkanoaa.Wk
open Go.RowKit Go.Proofs.YtheibjkjmkanoaaW.PrintWords Go.Proofs.YtheibjkjmkanoaaW.PrintMore Go.Proofs.Ytheibjkjmkanoaa.Given Go.Proofs.Ytheibjkjmkanoaa.Px
set_option linter.unusedVariables false
set_option linter.unusedSimpArgs false
def c2o (j : List S51) (old : List S42) (day : Int) (missed : List Int) (f : List S42) (i : Int) : Prop :=
 (a0b old i).f1 < day ∧ ¬ inP missed (jid j i) ∧ ∀ a : Int, 0 ≤ a → a < (a0a j i).f3.length → 0 < (a0b f (a1z (atM j) (rd (a0a j i).f3 a))).f2
open Classical in
noncomputable def kpN (j : List S51) (old : List S42) (day : Int) (missed : List Int) : Nat → List S42
 | 0 => List.replicate j.length z42
 | n + 1 => if c2o j old day missed (kpN j old day missed n) (n : Int) then (kpN j old day missed n).set n (a0b old (n : Int)) else kpN j old day missed n
noncomputable def kept (j : List S51) (old : List S42) (day : Int) (missed : List Int) : List S42 := kpN j old day missed j.length
def okP (j : List S51) (t : List S58) (l : List S42) : Prop := vaP j t ∧ maP j l ∧ ∀ i : Int, 0 ≤ i → i < j.length → ckG j t l i
theorem ok_b {j : List S51} {t : List S58} {l : List S42} (h : okP j t l) {i : Int} (i0 : 0 ≤ i) (i1 : i < j.length) : 0 ≤ (a0b l i).f1 ∧ 1 ≤ (a0b l i).f2 ∧ (a0b l i).f2 ≤ 36525 ∧ (a0b l i).f0 = jid j i := by
 obtain ⟨hv, hm, hc⟩ := h
 obtain ⟨⟨c1, c2, c3⟩, c4, _⟩ := hc i i0 i1
 obtain ⟨g1, g2, g3, g4, g5, _⟩ := hv.2.2.2 i i0 i1
 have := b9v (a9r hv i0 i1).1 c4
 exact ⟨c1, by omega, this.2, hm.2 i i0 i1⟩
end Go.Proofs.Ytheibjkjmkanoaa.Wk
/- What is planned is a plan: each slot is the first good one beside those before it and those that are fixed. Conditions: as_ each theorem states. -/
namespace Go.Proofs.Ytheibjkjmkanoaa.Wk
open Go.RowKit Go.Proofs.YtheibjkjmkanoaaW.PrintWords Go.Proofs.YtheibjkjmkanoaaW.PrintMore Go.Proofs.Ytheibjkjmkanoaa.Given Go.Proofs.Ytheibjkjmkanoaa.Px
set_option linter.unusedVariables false
set_option linter.unusedSimpArgs false
def midP (f r : List S42) (k : Int) (m : List S42) : Prop := m.length = f.length ∧ ∀ q : Int, 0 ≤ q → q < f.length → ((q < k ∨ 0 < (a0b f q).f2) → a0b m q = a0b r q) ∧ (¬ (q < k ∨ 0 < (a0b f q).f2) → a0b m q = a0b f q)
theorem b5z {j : List S51} {t : List S58} (hv : vaP j t) {day : Int} (h1 : 0 ≤ day) (h2 : day ≤ 36525) : ∀ (n : Nat) (i : Int) (f r : List S42), 0 ≤ i → i + n = j.length → f.length = j.length → fxP j f → a7z j t day n i f = some r →
  (r.length = f.length ∧ ∀ q : Int, 0 ≤ q → q < f.length → (q < i ∨ 0 < (a0b f q).f2) → a0b r q = a0b f q) ∧
  ∀ k : Int, i ≤ k → k < f.length → ¬ 0 < (a0b f k).f2 → ∃ m s, midP f r k m ∧ fxP j m ∧ plS j (a5r t (a0a j k).f1) k (a0a j k).f2 (lowF j m k day) m (some s) ∧ a0b r k = ⟨jid j k, s, s + (a0a j k).f2⟩ := by
 intro n
 induction n with
 | zero =>
  intro i f r i0 hi hl hx h
  rw [a7z] at h
  obtain rfl := Option.some.inj h
  exact ⟨⟨rfl, fun _ _ _ _ => rfl⟩, fun k k0 k1 => by omega⟩
 | succ n ih =>
  intro i f r i0 hi hl hx h
  have i1 : i < (j.length : Int) := by omega
  rw [a7z] at h
  by_cases c : 0 < (a0b f i).f2
  ·rw [if_pos c] at h
   obtain ⟨⟨g0, g1⟩, g2⟩ := ih (i + 1) f r (by omega) (by omega) hl hx h
   refine ⟨⟨g0, fun q q0 q1 hq => g1 q q0 q1 (by omega)⟩, fun k k0 k1 hk => ?_⟩
   by_cases e : k = i
   ·rw [e] at hk; exact absurd c hk
   ·exact g2 k (by omega) k1 hk
  ·rw [if_neg c] at h
   obtain ⟨hp, _⟩ := b5y hv i0 i1 f hl hx h1 h2 (by have := b3d hv i0 i1; omega)
   cases e : a9q j (a5r t (a0a j i).f1) i (a0a j i).f2 (lowF j f i day) f with
   | none => rw [e] at h; simp at h
   | some s =>
    rw [e] at h hp
    have hb := b4v hv i0 i1 hp
    have hx2 := b8l hx i0 (show i < (f.length : Int) by omega) (v := ⟨jid j i, s, s + (a0a j i).f2⟩) rfl hb.2
    have hl2 : (f.set i.toNat (⟨jid j i, s, s + (a0a j i).f2⟩ : S42)).length = f.length := List.length_set
    obtain ⟨⟨g0, g1⟩, g2⟩ := ih (i + 1) _ r (by omega) (by omega) (by rw [hl2]; exact hl) hx2 h
    rw [hl2] at g0 g1 g2
    have sv : ∀ q : Int, 0 ≤ q → a0b (f.set i.toNat (⟨jid j i, s, s + (a0a j i).f2⟩ : S42)) q = if q = i then ⟨jid j i, s, s + (a0a j i).f2⟩ else a0b f q := fun q q0 => a9s f i0 (by omega) _ q0
    have first : ∀ q : Int, 0 ≤ q → q < f.length → (q < i ∨ 0 < (a0b f q).f2) → a0b r q = a0b f q := fun q q0 q1 hq => by
     have ne : q ≠ i := fun e => by
      rw [e] at hq
      rcases hq with hq | hq
      ·omega
      ·exact c hq
     have := g1 q q0 q1 (by
      rw [sv q q0, if_neg ne]
      rcases hq with hq | hq
      ·exact .inl (by omega)
      ·exact .inr hq)
     rw [this, sv q q0, if_neg ne]
    refine ⟨⟨g0, first⟩, fun k k0 k1 hk => ?_⟩
    by_cases d : k = i
    ·subst d
     refine ⟨f, s, ⟨rfl, fun q q0 q1 => ⟨fun hq => (first q q0 q1 hq).symm, fun _ => rfl⟩⟩, hx, hp, ?_⟩
     rw [g1 k i0 k1 (.inl (by omega)), sv k i0, if_pos rfl]
    ·obtain ⟨m, s2, ⟨m1, m2⟩, m3, m4, m5⟩ := g2 k (by omega) k1 (by rw [sv k (by omega), if_neg d]; exact hk)
     rw [hl2] at m1 m2
     refine ⟨m, s2, ⟨m1, fun q q0 q1 => ?_⟩, m3, m4, m5⟩
     obtain ⟨a1, a2⟩ := m2 q q0 q1
     rw [sv q q0] at a1 a2
     by_cases z : q = i
     ·exact ⟨fun _ => a1 (.inl (by omega)), fun hh => absurd (.inl (by omega)) hh⟩
     ·rw [if_neg z] at a1 a2
      exact ⟨a1, a2⟩
def b9x (j : List S51) (t : List S58) (f : List S42) : Prop := ∀ k : Int, 0 ≤ k → k < f.length → 0 < (a0b f k).f2 →
 raG j f k ∧ suG j t f k ∧ (∀ a : Int, 0 ≤ a → a < (a0a j k).f3.length → 0 < (a0b f (a1z (atM j) (rd (a0a j k).f3 a))).f2 ∧ (a0b f (a1z (atM j) (rd (a0a j k).f3 a))).f2 ≤ (a0b f k).f1) ∧
 ∀ q : Int, 0 ≤ q → q < k → ¬ clA j k (a0b f k).f1 (a0b f k).f2 f q
theorem a6l (l : List S42) (n : Nat) {q : Int} (q0 : 0 ≤ q) (q1 : q < n) : a0b (l.take n) q = a0b l q := by
 unfold a0b
 rw [List.getD_eq_getElem?_getD, List.getD_eq_getElem?_getD, List.getElem?_take, if_pos (by omega)]
theorem b2j {j : List S51} {i a b : Int} {f g : List S42} {k : Int} (e : a0b f k = a0b g k) (h : clA j i a b f k) : clA j i a b g k := by
 unfold clA at h ⊢
 rw [e] at h
 exact h
theorem c1g {j : List S51} {t : List S58} (hv : vaP j t) {day : Int} (h1 : 0 ≤ day) (h2 : day ≤ 36525) {f r : List S42} (hl : f.length = j.length) (hx : fxP j f) (hf : b9x j t f) (h : b0w j t day f = some r) :
  okP j t r ∧ (∀ k : Int, 0 ≤ k → k < j.length → 0 < (a0b f k).f2 → a0b r k = a0b f k) ∧ ∀ k : Int, 0 ≤ k → k < j.length → ¬ 0 < (a0b f k).f2 → day ≤ (a0b r k).f1 := by
 obtain ⟨⟨g0, g1⟩, g2⟩ := b5z hv h1 h2 j.length 0 f r (by omega) (by omega) hl hx h
 have fixed : ∀ k : Int, 0 ≤ k → k < j.length → 0 < (a0b f k).f2 → a0b r k = a0b f k := fun k k0 k1 hk => g1 k k0 (by omega) (.inr hk)
 have planned : ∀ k : Int, 0 ≤ k → k < j.length → ¬ 0 < (a0b f k).f2 → ∃ m s, midP f r k m ∧ plS j (a5r t (a0a j k).f1) k (a0a j k).f2 (lowF j m k day) m (some s) ∧ a0b r k = ⟨jid j k, s, s + (a0a j k).f2⟩ ∧ day ≤ s ∧ 0 ≤ s ∧ s + (a0a j k).f2 ≤ 36525 ∧
   ∀ a : Int, 0 ≤ a → a < (a0a j k).f3.length → (a0b r (a1z (atM j) (rd (a0a j k).f3 a))).f2 ≤ s := fun k k0 k1 hk => by
  obtain ⟨m, s, hm, hmx, hp, hr⟩ := g2 k k0 (by omega) hk
  have hb := b4v hv k0 k1 hp
  obtain ⟨l1, l2, l3⟩ := b9w hv k0 k1 (by rw [hm.1]; exact hl) hmx.2 h1 h2
  have hs := hp.1
  refine ⟨m, s, hm, hp, hr, by omega, hb.1, hb.2, fun a a0 a1 => ?_⟩
  obtain ⟨p1, p2, _⟩ := after_at hv k0 k1 a0 a1
  have := l3 a a0 a1
  rw [(hm.2 _ p1 (by omega)).1 (.inl p2)] at this
  omega
 refine ⟨⟨hv, ⟨by omega, fun k k0 k1 => ?_⟩, fun k k0 k1 => ?_⟩, fixed, fun k k0 k1 hk => ?_⟩
 ·by_cases c : 0 < (a0b f k).f2
  ·rw [fixed k k0 k1 c]
   exact hx.1 k k0 (by omega) c
  ·obtain ⟨m, s, _, _, hr, _⟩ := planned k k0 k1 c
   rw [hr]
   rfl
 ·have hd := (hv.2.2.2 k k0 k1).2.2.2.1
  by_cases c : 0 < (a0b f k).f2
  ·obtain ⟨c1, c2, c3, c4⟩ := hf k k0 (by omega) c
   have e := fixed k k0 k1 c
   refine ⟨?_, ?_, fun a a0 a1 => ?_, ?_⟩
   ·unfold raG at c1 ⊢; rw [e]; exact c1
   ·unfold suG at c2 ⊢; rw [e]; exact c2
   ·obtain ⟨p1, p2, _⟩ := after_at hv k0 k1 a0 a1
    obtain ⟨q1, q2⟩ := c3 a a0 a1
    rw [e, fixed _ p1 (by omega) q1]
    exact q2
   ·rintro ⟨q, q0, q1, hq⟩
    rw [List.length_take] at q1
    have hq2 : clA j k (a0b f k).f1 (a0b f k).f2 r q := by
     rw [e] at hq
     exact b2j (a6l r k.toNat q0 (by omega)) hq
    by_cases d : 0 < (a0b f q).f2
    ·exact c4 q q0 (by omega) (b2j (fixed q q0 (by omega) d) hq2)
    ·obtain ⟨m, s, hm, hp, hr, _⟩ := planned q q0 (by omega) d
     have ek : a0b m k = a0b f k := by rw [(hm.2 k k0 (by omega)).1 (.inr c), e]
     unfold clA at hq2
     rw [hr] at hq2
     simp only at hq2
     refine hp.2.1.2 ⟨k, k0, by rw [hm.1]; omega, ?_⟩
     unfold clA
     rw [ek]
     exact ⟨c, by omega, by omega, by omega, b8f hq2.2.2.2.2⟩
  ·obtain ⟨m, s, hm, hp, hr, s1, s2, s3, s4⟩ := planned k k0 k1 c
   refine ⟨?_, ?_, fun a a0 a1 => ?_, ?_⟩
   ·unfold raG; rw [hr]; exact ⟨s2, by simp only; omega, rfl⟩
   ·unfold suG; rw [hr]; exact hp.2.1.1
   ·rw [hr]; exact s4 a a0 a1
   ·rw [hr]
    rintro ⟨q, q0, q1, hq⟩
    rw [List.length_take] at q1
    refine hp.2.1.2 ⟨q, q0, by rw [hm.1]; omega, ?_⟩
    have hq2 := b2j (a6l r k.toNat q0 (by omega)) hq
    exact b2j ((hm.2 q q0 (by omega)).1 (.inl (by omega))).symm hq2
 ·obtain ⟨m, s, _, _, hr, s1, _⟩ := planned k k0 k1 hk
  rw [hr]
  exact s1
theorem b9g (j : List S51) (t : List S58) : b9x j t (List.replicate j.length z42) := fun k _ _ h => by rw [a9t] at h; exact absurd h (by decide)
theorem b5a {j : List S51} {t : List S58} {day : Int} (h : (a4y j t day).2 = 0) : vaP j t ∧ 0 ≤ day ∧ day ≤ 36524 ∧ b0w j t day (List.replicate j.length z42) = some (a4y j t day).1 := by
 unfold a4y at h ⊢
 by_cases c : vaP j t ∧ 0 ≤ day ∧ day ≤ 36524
 ·rw [if_pos c] at h ⊢
  refine ⟨c.1, c.2.1, c.2.2, ?_⟩
  cases e : b0w j t day (List.replicate j.length z42) with
  | none => rw [e] at h; exact absurd h (by decide)
  | some r => rfl
 ·rw [if_neg c] at h
  exact absurd h (by decide)
theorem b7a {j : List S51} {t : List S58} {day : Int} (h : (a4y j t day).2 = 0) : okP j t (a4y j t day).1 ∧ (a4y j t day).1.length = j.length ∧ ∀ k : Int, 0 ≤ k → k < j.length → day ≤ (a0b (a4y j t day).1 k).f1 := by
 obtain ⟨hv, h1, h2, hf⟩ := b5a h
 obtain ⟨g1, _, g3⟩ := c1g hv h1 (by omega) List.length_replicate (b3e j) (b9g j t) hf
 exact ⟨g1, g1.2.1.1, fun k k0 k1 => g3 k k0 k1 (by rw [a9t]; decide)⟩
theorem c2p {j : List S51} {t : List S58} {l : List S42} (h : okP j t l) {r : Int} (hr : ckS j t l r) : r = 0 := c1f hr (.inr ⟨⟨h.1, h.2.1⟩, .inl ⟨h.2.2, rfl⟩⟩)
def onF (a : Int) : Int := Int.tmod (wrap64 a) 36525
end Go.Proofs.Ytheibjkjmkanoaa.Wk
/- What the laws of the works ask in common. Conditions: as_ each theorem states. -/
namespace Go.Proofs.Ytheibjkjmkanoaa.Wk
open Go.RowKit Go.Proofs.YtheibjkjmkanoaaW.PrintWords Go.Proofs.YtheibjkjmkanoaaW.PrintMore Go.Proofs.Ytheibjkjmkanoaa.Given Go.Proofs.Ytheibjkjmkanoaa.Px
set_option linter.unusedVariables false
set_option linter.unusedSimpArgs false
theorem b8m (j : List S51) (t : List S58) : ∃ b, Ev (fun k => a3a.f k j t) b ∧ (b = true ↔ feP j t ∧ vaP j t) := by
 obtain ⟨b, ⟨K1, h1⟩, hb⟩ := c1w j t
 dsimp only at h1
 by_cases c : b = true
 ·obtain ⟨v, ⟨K2, h2⟩, hv⟩ := b5f j t (b8g (hb.1 c))
  dsimp only at h2
  refine ⟨v, ⟨K1 + K2, fun k hk => ?_⟩, ⟨fun h => ⟨hb.1 c, hv.1 h⟩, fun h => hv.2 h.2⟩⟩
  dsimp only
  unfold a3a.f
  rw [h1 _ (by omega), Option.bind_some, if_pos c, h2 _ (by omega), Option.bind_some]
 ·refine ⟨false, ⟨K1, fun k hk => ?_⟩, ⟨fun h => by simp at h, fun h => absurd (hb.2 h.1) c⟩⟩
  dsimp only
  unfold a3a.f
  rw [h1 _ hk, Option.bind_some, if_neg c]
theorem on_f (a : Int) : a2x.f a = some (onF a) := rfl
theorem c2q {a : Int} (h0 : 0 ≤ a) (h1 : a ≤ 65535) : 0 ≤ onF a ∧ onF a ≤ 36524 := by
 unfold onF
 rw [w64 (by omega) (by omega), Int.tmod_eq_emod_of_nonneg h0]
 omega
theorem b9h {j : List S51} {t : List S58} {l : List S42} (hb : bdP j t) (h : okP j t l) : Ev (fun k => a0j.f k j t l) 0 := by
 obtain ⟨r, e, s⟩ := b4z j t hb l
 rwa [c2p h s] at e
end Go.Proofs.Ytheibjkjmkanoaa.Wk
