/- A plan passes its own check and the reference's, and begins on no day before the given one; without a plan there is none. Conditions: the day lies within 0 and 65535. -/
import Derived.Test.YtheibjkjmkanoaaWkJ
import Derived.Test.YtheibjkjmkanoaaPx35
import Derived.Test.YtheibjkjmkanoaaWkC
namespace Go.Proofs.Ytheibjkjmkanoaa.Pure
open Go.RowKit Go.Proofs.YtheibjkjmkanoaaW.PrintWords Go.Proofs.YtheibjkjmkanoaaW.PrintMore Go.Proofs.Ytheibjkjmkanoaa.Given Go.Proofs.Ytheibjkjmkanoaa.Px Go.Proofs.Ytheibjkjmkanoaa.Wk
set_option linter.unusedVariables false
set_option linter.unusedSimpArgs false
theorem WorksRight (j : List S51) (t : List S58) (a : Int) (h0 : 0 ≤ a) (h1 : a ≤ 65535) : Ev (fun k => a1x.f k j t a) true := by
 obtain ⟨K0, g0⟩ := b0j
 obtain ⟨u, ⟨K1, g1⟩, hu⟩ := a9x j t
 dsimp only at g0 g1
 by_cases c : u = true
 ·obtain ⟨hf, hv⟩ := hu.1 c
  have hb := b0l hf
  have hday := b5m h0 h1
  obtain ⟨K2, g2⟩ := a9d j t hb (onF a)
  dsimp only at g2
  by_cases c2 : (a5b j t (onF a)).2 = 0
  ·obtain ⟨ok, len, low⟩ := a7z c2
   have hj := hv.2.1
   obtain ⟨K3, g3⟩ : Ev (fun k => a1x.l0 k j t a true (a5b j t (onF a)).1 0) true := by
    refine b7y (fun i k => a1x.l0 k j t a true (a5b j t (onF a)).1 i) true ((a5b j t (onF a)).1.length : Int) (by omega) ?_ ?_
    ·obtain ⟨Ka, ga⟩ := b6q hb ok
     obtain ⟨Kb, gb⟩ := b7b hb ok
     dsimp only at ga gb
     refine evUp (Ka + Kb) fun k hk => ?_
     try dsimp only
     rw [a1x.l0, if_neg (by omega), if_pos rfl, ga _ (by omega), Option.bind_some, if_pos rfl, gb _ (by omega), Option.bind_some]
     rfl
    ·intro i i0 i1 ⟨K, g⟩
     dsimp only at g
     refine evUp K fun k hk => ?_
     try dsimp only
     rw [a1x.l0, if_pos i1, if_pos i0, on_f, Option.bind_some, if_neg (by have := low i i0 (by omega); omega), w64 (by omega) (by omega)]
     exact g k hk
   dsimp only at g3
   refine ⟨K0 + K1 + K2 + K3, fun k hk => ?_⟩
   dsimp only
   unfold a1x.f
   rw [g0 _ (by omega), Option.bind_some, g1 _ (by omega), Option.bind_some, if_pos c, on_f, Option.bind_some, g2 _ (by omega), Option.bind_some, if_pos c2, g3 _ (by omega)]
  ·have e := b6p hv hday.1 hday.2 c2
   refine ⟨K0 + K1 + K2, fun k hk => ?_⟩
   dsimp only
   unfold a1x.f
   rw [g0 _ (by omega), Option.bind_some, g1 _ (by omega), Option.bind_some, if_pos c, on_f, Option.bind_some, g2 _ (by omega), Option.bind_some, if_neg c2, if_pos rfl, e, if_pos rfl]
   rfl
 ·refine ⟨K0 + K1, fun k hk => ?_⟩
  dsimp only
  unfold a1x.f
  rw [g0 _ (by omega), Option.bind_some, g1 _ (by omega), Option.bind_some, if_neg c]
end Go.Proofs.Ytheibjkjmkanoaa.Pure
