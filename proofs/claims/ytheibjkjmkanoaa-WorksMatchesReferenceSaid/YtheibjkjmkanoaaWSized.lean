/- Words that the kit's print.sh printed, in a copy without what is not used. Conditions: as_ each theorem states. -/
import Derived.Test.YtheibjkjmkanoaaWkA
import Derived.Test.YtheibjkjmkanoaaPx20
import Derived.Test.YtheibjkjmkanoaaPx38
import Derived.Test.YtheibjkjmkanoaaWkG
import Derived.Test.YtheibjkjmkanoaaPx34
import Derived.SizedLaws
import Derived.ChangeSlices
namespace Go.Proofs.Ytheibjkjmkanoaa.Wk
open Go.RowKit Go.Proofs.YtheibjkjmkanoaaW.PrintWords Go.Proofs.Ytheibjkjmkanoaa.Given Go.Proofs.Ytheibjkjmkanoaa.Px
set_option linter.unusedVariables false
set_option linter.unusedSimpArgs false
set_option maxRecDepth 100000 in
theorem c3i : Ev (fun k => a0i.f k) true := Ev.of (fun k => a0i.mono k) (k := 100) (by decide +kernel)
end Go.Proofs.Ytheibjkjmkanoaa.Wk
/- For all jobs, trades, slots, days and rooms, valid or not, all functions return what the reference implementation returns (up to 12 jobs and 25 trades). Conditions: none. -/
namespace Go.Proofs.Ytheibjkjmkanoaa.Pure
open Go.RowKit Go.Proofs.YtheibjkjmkanoaaW.PrintWords Go.Proofs.YtheibjkjmkanoaaW.PrintMore Go.Proofs.Ytheibjkjmkanoaa.Given Go.Proofs.Ytheibjkjmkanoaa.Px Go.Proofs.Ytheibjkjmkanoaa.Wk
set_option linter.unusedVariables false
set_option linter.unusedSimpArgs false
theorem b1s (j : List S51) (t : List S58) (day : Int) : ∀ (n : Nat) (i : Int) (f r : List S42), a6s j t day n i f = some r → r.length = f.length
 | 0, i, f, r, h => by rw [a6s] at h; rw [Option.some.inj h]
 | n + 1, i, f, r, h => by
  rw [a6s] at h
  split at h
  ·exact b1s j t day n _ _ r h
  ·split at h
   ·have := b1s j t day n _ _ r h
    rwa [List.length_set] at this
   ·simp at h
theorem b6m (j : List S51) (t : List S58) (day : Int) (f : List S42) : (encF (a7j j t day f)).1.length ≤ f.length := by
 unfold a7j
 cases e : a6s j t day j.length 0 f with
 | none => exact Nat.zero_le _
 | some r => exact Nat.le_of_eq (b1s j t day _ _ _ r e)
theorem c0k (j : List S51) (t : List S58) (day : Int) : (a9w j t day).1.length ≤ j.length := by
 unfold a9w
 split
 ·have := b6m j t day (List.replicate j.length z42)
  rwa [List.length_replicate] at this
 ·exact Nat.zero_le _
theorem b8u (j : List S51) (t : List S58) (old : List S42) (day : Int) (missed : List Int) : (a8s j t old day missed).1.length ≤ j.length := by
 unfold a8s
 split
 ·have := b6m j t day (kept j old day missed)
  unfold kept at this
  rwa [a7u] at this
 ·exact Nat.zero_le _
theorem WorksMatchesReference (j : List S51) (t : List S58) (l : List S42) (day : Int) (missed : List Int) (room : Int) : Ev (fun k => a0d.f k j t l day missed room) true := by
 obtain ⟨K0, h0⟩ := c3i
 obtain ⟨b, ⟨K1, h1⟩, eb⟩ := c4a j t
 dsimp only at h0 h1
 have no : ∀ k, a0d.j0 (k + 1) j t l day missed room true true = some true := fun k => by rw [a0d.j0, if_pos rfl]
 by_cases c0 : b = true
 ·by_cases c1 : (l.length : Int) > 20
  ·refine ⟨K0 + K1 + 1, fun k hk => ?_⟩
   obtain ⟨k, rfl⟩ : ∃ z, k = z + 1 := ⟨k - 1, by omega⟩
   dsimp only
   unfold a0d.f
   rw [h0 _ (by omega), Option.bind_some, h1 _ (by omega), Option.bind_some, if_pos c0, if_pos c1, no]
  by_cases c2 : (missed.length : Int) > 20
  ·refine ⟨K0 + K1 + 1, fun k hk => ?_⟩
   obtain ⟨k, rfl⟩ : ∃ z, k = z + 1 := ⟨k - 1, by omega⟩
   dsimp only
   unfold a0d.f
   rw [h0 _ (by omega), Option.bind_some, h1 _ (by omega), Option.bind_some, if_pos c0, if_neg c1, decide_eq_true c2, no]
  have hf := eb.1 c0
  have hb := c4b hf
  have hj : j.length ≤ 60 := by have := hf.1; omega
  have hr : ∀ i : Int, 0 ≤ i → i < j.length → ((a0a j i).f4.length : Int) ≤ 1000000 := fun i i0 i1 => (hb.2.2.1 i i0 i1).2
  obtain ⟨K2, h2⟩ := c3d j t hb day
  obtain ⟨K3, h3⟩ := b6r j t hb day
  obtain ⟨v, ⟨K4, h4⟩, ev⟩ := c1d j t hb
  obtain ⟨v2, ⟨K5, h5⟩, ev2⟩ := a9y j t hb
  obtain rfl : v = v2 := b8n ev ev2
  obtain ⟨s, ⟨K6, h6⟩, es⟩ := b4s (a9w j t day).1 (a9w j t day).1 (by have := c0k j t day; omega)
  obtain rfl : s = true := es.2 rfl
  obtain ⟨c, ⟨K7, h7⟩, ec⟩ := b6g j t hb l
  obtain ⟨c', ⟨K8, h8⟩, ec'⟩ := b2j j t hb l
  obtain rfl : c = c' := b4e ec ec'
  obtain ⟨K9, h9⟩ := c1f j t hb l day missed (by omega)
  obtain ⟨K10, h10⟩ := b6s j t hb l day missed (by omega)
  obtain ⟨s, ⟨K11, h11⟩, es⟩ := b4s (a8s j t l day missed).1 (a8s j t l day missed).1 (by have := b8u j t l day missed; omega)
  obtain rfl : s = true := es.2 rfl
  obtain ⟨x, ⟨K12, h12⟩, ex⟩ := c1h j l room hj hr
  obtain ⟨y, ⟨K13, h13⟩, ey⟩ := b6t j l room hj hr
  obtain rfl : x = y := c3h ex ey
  have hx : x.1.length ≤ j.length := by
   rcases ex with ⟨_, _, _, _, h⟩ | ⟨_, h⟩
   ·exact h
   ·rw [h]; exact Nat.zero_le _
  obtain ⟨s, ⟨K14, h14⟩, es⟩ := c0c x.1 x.1 (by omega)
  obtain rfl : s = true := es.2 rfl
  dsimp only at h2 h3 h4 h5 h6 h7 h8 h9 h10 h11 h12 h13 h14
  refine ⟨K0 + K1 + K2 + K3 + K4 + K5 + K6 + K7 + K8 + K9 + K10 + K11 + K12 + K13 + K14 + 3, fun k hk => ?_⟩
  obtain ⟨k, rfl⟩ : ∃ z, k = z + 3 := ⟨k - 3, by omega⟩
  dsimp only
  unfold a0d.f
  rw [h0 _ (by omega), Option.bind_some, h1 _ (by omega), Option.bind_some, if_pos c0, if_neg c1, decide_eq_false c2]
  rw [a0d.j0, if_neg (by decide), h2 _ (by omega), Option.bind_some, h3 _ (by omega), Option.bind_some, if_pos rfl, h4 _ (by omega), Option.bind_some, h5 _ (by omega), Option.bind_some, if_pos (by simp), h6 _ (by omega), Option.bind_some, if_pos rfl, if_pos rfl, h7 _ (by omega), Option.bind_some, h8 _ (by omega), Option.bind_some, beq_self_eq_true]
  rw [a0d.j1, h9 _ (by omega), Option.bind_some, h10 _ (by omega), Option.bind_some, if_pos rfl, h11 _ (by omega), Option.bind_some, if_pos rfl, beq_self_eq_true]
  rw [a0d.j2, h12 _ (by omega), Option.bind_some, h13 _ (by omega), Option.bind_some, if_pos rfl, h14 _ (by omega), Option.bind_some, if_pos rfl, beq_self_eq_true]
 ·refine ⟨K0 + K1 + 1, fun k hk => ?_⟩
  obtain ⟨k, rfl⟩ : ∃ z, k = z + 1 := ⟨k - 1, by omega⟩
  dsimp only
  unfold a0d.f
  rw [h0 _ (by omega), Option.bind_some, h1 _ (by omega), Option.bind_some, if_neg c0, no]
end Go.Proofs.Ytheibjkjmkanoaa.Pure
namespace Go.Proofs.YtheibjkjmkanoaaW.PrintWords
open Go.ChangeShapes Go.WideShapes
end Go.Proofs.YtheibjkjmkanoaaW.PrintWords
