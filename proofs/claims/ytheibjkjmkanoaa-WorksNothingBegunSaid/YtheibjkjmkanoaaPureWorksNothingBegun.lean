/- A plan made again on a day no later than the day it was made on, with no room of it missed, is the plan for that day. Conditions: both numbers lie within 0 and 65535. -/
import Derived.Test.YtheibjkjmkanoaaWkJ
import Derived.Test.YtheibjkjmkanoaaPx38
import Derived.Test.YtheibjkjmkanoaaWkC
namespace Go.Proofs.Ytheibjkjmkanoaa.Pure
open Go.RowKit Go.Proofs.YtheibjkjmkanoaaW.PrintWords Go.Proofs.YtheibjkjmkanoaaW.PrintMore Go.Proofs.Ytheibjkjmkanoaa.Given Go.Proofs.Ytheibjkjmkanoaa.Px Go.Proofs.Ytheibjkjmkanoaa.Wk
set_option linter.unusedVariables false
set_option linter.unusedSimpArgs false
theorem c0w {j : List S51} {old : List S42} {day : Int} (missed : List Int) (h : ∀ k : Int, 0 ≤ k → k < j.length → day ≤ (a0b old k).f1) : kept j old day missed = List.replicate j.length z42 := by
 unfold kept
 refine b9a (by rw [a6z, List.length_replicate]) fun i i0 i1 => ?_
 rw [a6z] at i1
 rw [a8m]
 rcases a8t j old day missed j.length (Nat.le_refl _) i i0 with ⟨_, hk, _⟩ | ⟨_, e⟩
 ·exact absurd hk.1 (by have := h i i0 i1; omega)
 ·exact e
theorem b9d {j : List S51} {t : List S58} {old : List S42} {day : Int} (ok : okP j t old) (d0 : 0 ≤ day) (d1 : day ≤ 36524) (h : ∀ k : Int, 0 ≤ k → k < j.length → day ≤ (a0b old k).f1) : a5w j t old day [] = a5b j t day := by
 have ag : agP j t old day [] := ⟨ok, d0, d1, fun i i0 i1 => by simp at i1; omega, fun i i0 i1 => by simp at i1; omega⟩
 unfold a5w a5b
 rw [if_pos ag, if_pos ⟨ok.1, d0, d1⟩, c0w [] h]
theorem WorksNothingBegun (j : List S51) (t : List S58) (a b : Int) (h0 : 0 ≤ a) (h1 : a ≤ 65535) (b0 : 0 ≤ b) (b1 : b ≤ 65535) : Ev (fun k => a3g.f k j t a b) true := by
 obtain ⟨K0, g0⟩ := b0j
 obtain ⟨u, ⟨K1, g1⟩, hu⟩ := a9x j t
 dsimp only at g0 g1
 by_cases c : u = true
 ·obtain ⟨hf, hv⟩ := hu.1 c
  have hb := b0l hf
  have hday := b5m h0 h1
  obtain ⟨K2, g2⟩ := a9d j t hb (onF a)
  dsimp only at g2
  by_cases c2 : (a5b j t (onF a)).2 = 0
  ·obtain ⟨ok, len, low⟩ := a7z c2
   have w1 : wrap64 (onF a + 1) = onF a + 1 := w64 (by omega) (by omega)
   have m0 : 0 ≤ b % (onF a + 1) := Int.emod_nonneg _ (by omega)
   have m1 : b % (onF a + 1) < onF a + 1 := Int.emod_lt_of_pos _ (by omega)
   have w2 : Int.tmod (wrap64 b) (wrap64 (onF a + 1)) = b % (onF a + 1) := by rw [w1, w64 (by omega) (by omega), Int.tmod_eq_emod_of_nonneg b0]
   obtain ⟨d, hd⟩ : ∃ d, d = onF a - b % (onF a + 1) := ⟨_, rfl⟩
   have w3 : wrap64 (onF a - Int.tmod (wrap64 b) (wrap64 (onF a + 1))) = d := by rw [w2, w64 (by omega) (by omega), hd]
   have d0 : 0 ≤ d := by omega
   have d1 : d ≤ 36524 := by omega
   obtain ⟨K3, g3⟩ := b6n j t hb (a5b j t (onF a)).1 d [] (by decide)
   obtain ⟨K4, g4⟩ := a9d j t hb d
   dsimp only at g3 g4
   have e := b9d ok d0 d1 fun k k0 k1 => by have := low k k0 k1; omega
   have hl : ((a5w j t (a5b j t (onF a)).1 d []).1.length : Int) ≤ 9223372036854775806 := by
    rw [e]
    have hj := hv.2.1
    by_cases c3 : (a5b j t d).2 = 0
    ·have := (a7z c3).2.1; omega
    ·rw [b6p hv d0 d1 c3]; decide
   obtain ⟨s, ⟨K5, g5⟩, hs⟩ := b5b (a5w j t (a5b j t (onF a)).1 d []).1 (a5b j t d).1 hl
   dsimp only at g5
   refine ⟨K0 + K1 + K2 + K3 + K4 + K5, fun k hk => ?_⟩
   dsimp only
   unfold a3g.f
   rw [g0 _ (by omega), Option.bind_some, g1 _ (by omega), Option.bind_some, if_pos c, on_f, Option.bind_some, g2 _ (by omega), Option.bind_some, if_pos c2, Option.bind_some, Option.bind_some, if_neg (by rw [w1]; omega), w3, g3 _ (by omega), Option.bind_some, g4 _ (by omega), Option.bind_some, if_pos rfl, if_pos (by rw [e]), g5 _ (by omega), Option.bind_some, hs.2 (by rw [e])]
  ·refine ⟨K0 + K1 + K2, fun k hk => ?_⟩
   dsimp only
   unfold a3g.f
   rw [g0 _ (by omega), Option.bind_some, g1 _ (by omega), Option.bind_some, if_pos c, on_f, Option.bind_some, g2 _ (by omega), Option.bind_some, if_neg c2]
 ·refine ⟨K0 + K1, fun k hk => ?_⟩
  dsimp only
  unfold a3g.f
  rw [g0 _ (by omega), Option.bind_some, g1 _ (by omega), Option.bind_some, if_neg c]
end Go.Proofs.Ytheibjkjmkanoaa.Pure
