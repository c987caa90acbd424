/- A plan made again passes its check, keeps what is kept as it was, and begins all else no earlier than the given day; without a plan there is none. Conditions: the day lies within 0 and 65535. -/
import Derived.Test.YtheibjkjmkanoaaWkJ
import Derived.Test.YtheibjkjmkanoaaPx37
import Derived.Test.YtheibjkjmkanoaaWkC
namespace Go.Proofs.Ytheibjkjmkanoaa.Pure
open Go.RowKit Go.Proofs.YtheibjkjmkanoaaW.PrintWords Go.Proofs.YtheibjkjmkanoaaW.PrintMore Go.Proofs.Ytheibjkjmkanoaa.Given Go.Proofs.Ytheibjkjmkanoaa.Px Go.Proofs.Ytheibjkjmkanoaa.Wk
set_option linter.unusedVariables false
set_option linter.unusedSimpArgs false
theorem c0u {j : List S51} {t : List S58} {old : List S42} {day : Int} {missed : List Int} (h : (a5w j t old day missed).2 = 0) : agP j t old day missed ∧ a6n j t day (kept j old day missed) = some (a5w j t old day missed).1 := by
 unfold a5w at h ⊢
 by_cases c : agP j t old day missed
 ·rw [if_pos c] at h ⊢
  refine ⟨c, ?_⟩
  cases e : a6n j t day (kept j old day missed) with
  | none => rw [e] at h; exact absurd h (by decide)
  | some r => rfl
 ·rw [if_neg c] at h
  exact absurd h (by decide)
theorem c0v {j : List S51} {t : List S58} {old : List S42} {day : Int} {missed : List Int} (h : (a5w j t old day missed).2 ≠ 0) : (a5w j t old day missed).1 = [] := by
 unfold a5w at h ⊢
 by_cases c : agP j t old day missed
 ·rw [if_pos c] at h ⊢
  cases e : a6n j t day (kept j old day missed) with
  | none => rfl
  | some r => rw [e] at h; exact absurd rfl h
 ·rw [if_neg c]
theorem WorksAgain (j : List S51) (t : List S58) (old : List S42) (a : Int) (missed : List Int) (h0 : 0 ≤ a) (h1 : a ≤ 65535) : Ev (fun k => a0f.f k j t old a missed) true := by
 obtain ⟨K0, g0⟩ := b0j
 obtain ⟨b, ⟨K1, g1⟩, eb⟩ := c0p j t
 dsimp only at g0 g1
 have no : ∀ k, a0f.j0 (k + 1) j t old a missed true true = some true := fun k => by rw [a0f.j0, if_pos rfl]
 by_cases c0 : b = true
 ·by_cases c1 : (old.length : Int) > 20
  ·refine ⟨K0 + K1 + 1, fun k hk => ?_⟩
   obtain ⟨k, rfl⟩ : ∃ z, k = z + 1 := ⟨k - 1, by omega⟩
   try dsimp only
   unfold a0f.f
   rw [g0 _ (by omega), Option.bind_some, g1 _ (by omega), Option.bind_some, if_pos c0, if_pos c1, no]
  by_cases c2 : (missed.length : Int) > 20
  ·refine ⟨K0 + K1 + 1, fun k hk => ?_⟩
   obtain ⟨k, rfl⟩ : ∃ z, k = z + 1 := ⟨k - 1, by omega⟩
   try dsimp only
   unfold a0f.f
   rw [g0 _ (by omega), Option.bind_some, g1 _ (by omega), Option.bind_some, if_pos c0, if_neg c1, if_pos c2, no]
  have hf := eb.1 c0
  have hb := b0l hf
  have hmi : (missed.length : Int) ≤ 1000000 := by omega
  obtain ⟨q, ⟨K2, g2⟩, hq⟩ := b2s j t hb old
  dsimp only at g2
  by_cases c3 : q = 0
  ·rw [c3] at hq
   have ok : okP j t old := b6k hq
   have hv := ok.1
   have hj := hv.2.1
   have hlen : old.length = j.length := ok.2.1.1
   have hday := b5m h0 h1
   obtain ⟨K3, g3⟩ := b6n j t hb old (onF a) missed hmi
   dsimp only at g3
   obtain ⟨K4, g4⟩ : Ev (fun k => a0f.j0 k j t old a missed true false) true := by
    by_cases c4 : (a5w j t old (onF a) missed).2 = 0
    ·obtain ⟨ag, hr⟩ := c0u c4
     have kl : (kept j old (onF a) missed).length = j.length := a6z j old (onF a) missed j.length
     obtain ⟨okr, same, late⟩ := b7x hv hday.1 (by omega) kl (b3s ok (onF a) missed (Nat.le_refl _)).1 (c1v ok (onF a) missed) hr
     have rl : (a5w j t old (onF a) missed).1.length = j.length := okr.2.1.1
     obtain ⟨K5, g5⟩ := b6q hb okr
     obtain ⟨K6, g6⟩ := b9b hv hlen (onF a) missed hmi
     obtain ⟨K7, g7⟩ : Ev (fun k => a0f.l0 k old a true (a5w j t old (onF a) missed).1 (kept j old (onF a) missed) 0) true := by
      refine b7y (fun i k => a0f.l0 k old a true (a5w j t old (onF a) missed).1 (kept j old (onF a) missed) i) true ((a5w j t old (onF a) missed).1.length : Int) (by omega) ?_ ?_
      ·refine evUp 0 fun k hk => ?_
       try dsimp only
       rw [a0f.l0, if_neg (by omega)]
      ·intro i i0 i1 ⟨K, g⟩
       try dsimp only at g
       have step : ∀ k, K ≤ k → a0f.j3 (k + 1) old a true (a5w j t old (onF a) missed).1 (kept j old (onF a) missed) i false = some true := fun k hk => by
        rw [a0f.j3, if_neg (by decide), w64 (by omega) (by omega)]
        exact g k hk
       refine ⟨K + 2, fun k hk => ?_⟩
       obtain ⟨k, rfl⟩ : ∃ z, k = z + 2 := ⟨k - 2, by omega⟩
       try dsimp only
       rw [a0f.l0, if_pos i1, if_pos i0, if_pos (by omega)]
       by_cases c5 : (a0b (kept j old (onF a) missed) i).f2 > 0
       ·have e1 := same i i0 (by omega) c5
        have e2 : a0b (kept j old (onF a) missed) i = a0b old i := by
         rcases a8t j old (onF a) missed j.length (Nat.le_refl _) i i0 with ⟨_, _, e⟩ | ⟨_, e⟩
         ·exact e
         ·exfalso
          have : a0b (kept j old (onF a) missed) i = z42 := e
          rw [this] at c5
          exact absurd c5 (by decide)
        rw [if_pos c5, if_pos (by omega), e1, e2, if_neg (by simp), if_neg (by rw [← e2]; omega)]
        exact step k (by omega)
       ·have c6 : (a0b (kept j old (onF a) missed) i).f2 = 0 := by
         have : 0 ≤ (a0b (kept j old (onF a) missed) i).f2 := (b3s ok (onF a) missed (Nat.le_refl _)).2 i i0
         omega
        have e3 := late i i0 (by omega) c5
        rw [if_neg c5, if_pos c6, on_f, Option.bind_some, decide_eq_false (by omega)]
        exact step k (by omega)
     dsimp only at g5 g6 g7
     refine ⟨K3 + K5 + K6 + K7 + 2, fun k hk => ?_⟩
     obtain ⟨k, rfl⟩ : ∃ z, k = z + 2 := ⟨k - 2, by omega⟩
     try dsimp only
     rw [a0f.j0, if_neg (by decide), on_f, Option.bind_some, g3 _ (by omega), Option.bind_some, if_pos c4, g5 _ (by omega), Option.bind_some, if_pos rfl, a0f.j1, rl, if_neg (by simp), on_f, Option.bind_some, g6 _ (by omega), Option.bind_some, g7 _ (by omega)]
    ·have e := c0v c4
     refine evUp K3 fun k hk => ?_
     try dsimp only
     rw [a0f.j0, if_neg (by decide), on_f, Option.bind_some, g3 _ (by omega), Option.bind_some, if_neg c4, if_pos rfl, e]
     rfl
   dsimp only at g4
   refine ⟨K0 + K1 + K2 + K4, fun k hk => ?_⟩
   try dsimp only
   unfold a0f.f
   rw [g0 _ (by omega), Option.bind_some, g1 _ (by omega), Option.bind_some, if_pos c0, if_neg c1, if_neg c2, g2 _ (by omega), Option.bind_some, c3]
   exact g4 _ (by omega)
  ·refine ⟨K0 + K1 + K2 + 1, fun k hk => ?_⟩
   obtain ⟨k, rfl⟩ : ∃ z, k = z + 1 := ⟨k - 1, by omega⟩
   try dsimp only
   unfold a0f.f
   rw [g0 _ (by omega), Option.bind_some, g1 _ (by omega), Option.bind_some, if_pos c0, if_neg c1, if_neg c2, g2 _ (by omega), Option.bind_some, show (q != 0) = true by simpa using c3, no]
 ·refine ⟨K0 + K1 + 1, fun k hk => ?_⟩
  obtain ⟨k, rfl⟩ : ∃ z, k = z + 1 := ⟨k - 1, by omega⟩
  try dsimp only
  unfold a0f.f
  rw [g0 _ (by omega), Option.bind_some, g1 _ (by omega), Option.bind_some, if_neg c0, no]
end Go.Proofs.Ytheibjkjmkanoaa.Pure
