/- What the package-level table of the months' lengths holds, and that calendar.length reads it: a contract of that function. Conditions: the table's cells hold its twelve numbers. -/
import Derived.Test.YtfhmbfadbfnnaaaDoorProg
import Derived.Below
import Derived.Tactics
import Derived.WalkKit
import Derived.KernelRfl
import Derived.RowKit3
import Derived.Deep.QuietTactic
import Derived.BigQuiet
import Derived.WideLaws
import Derived.RowKit
import Derived.Test.YtfhmbfadbfnnaaaDoorWWords
import Derived.Test.YtfhmbfadbfnnaaaDoorGLib
namespace Go.Proofs.YtfhmbfadbfnnaaaDoor.Given
open Go.RowKit Go.Proofs.YtfhmbfadbfnnaaaDoorW.PrintWords
set_option linter.unusedVariables false
set_option linter.unusedSimpArgs false

def tabL : List Int := [31, 28, 31, 30, 31, 30, 31, 31, 30, 31, 30, 31]
/-- The table's cells hold its numbers. -/
structure TabOK (w : World) : Prop where
  cell : ∀ j, j < 12 → w.cell? ⟨0, j, none⟩ = some (.int .i64 (tabL.getD j 0))
theorem TabOK.below {w w1 : World} (h : TabOK w) (hb : Below w.heap.size w w1) : TabOK w1 := ⟨fun j hj => pw_cell_below hb (h.cell j hj)⟩
theorem TabOK.drawn {w w1 : World} (h : TabOK w) (hb : Drawn0 w w1) : TabOK w1 := h.below hb.below

def calendar_length.f (a0 a1 : Int) : Option Int :=
  if a1 = 1 then (if a0.tmod 4 = 0 then some 29 else some 28)
  else if 0 ≤ a1 ∧ a1 < 12 then some (tabL.getD a1.toNat 0) else none

set_option maxHeartbeats 8000000 in
set_option maxRecDepth 100000 in
theorem calendar_length.calls (a0 a1 : Int) (r : Int) (w : World) (HT : TabOK w) (h : calendar_length.f a0 a1 = some r) :
    Calls Tryd.prog 36 #[.int .i64 a0, .int .i64 a1] w fun e w' => e = .returned (.int .i64 r) ∧ Drawn0 w w' := by
  unfold calendar_length.f at h
  by_cases h1 : a1 = 1
  · subst h1
    rw [if_pos rfl] at h
    have hc := HT.cell 1 (by decide)
    simp only [tabL, List.getD_cons_succ, List.getD_cons_zero] at hc
    clear HT
    by_cases h4 : a0.tmod 4 = 0
    · rw [if_pos h4] at h
      obtain rfl := Option.some.inj h
      have hb : (a0.tmod 4 == 0) = true := beq_iff_eq.mpr h4
      clear h h4
      go_enter Tryd.func36, Tryd.ntmps36
      go_wp2
      go_ret
      exact ⟨rfl, Drawn0.refl _⟩
    · rw [if_neg h4] at h
      obtain rfl := Option.some.inj h
      have hb : (a0.tmod 4 == 0) = false := beq_eq_false_iff_ne.mpr h4
      clear h h4
      go_enter Tryd.func36, Tryd.ntmps36
      go_wp2
      go_ret
      exact ⟨rfl, Drawn0.refl _⟩
  · rw [if_neg h1] at h
    by_cases h2 : 0 ≤ a1 ∧ a1 < 12
    · rw [if_pos h2] at h
      obtain rfl := Option.some.inj h
      have hb1 : (a1 == 1) = false := beq_eq_false_iff_ne.mpr h1
      have h3 : a1 = 0 ∨ a1 = 2 ∨ a1 = 3 ∨ a1 = 4 ∨ a1 = 5 ∨ a1 = 6 ∨ a1 = 7 ∨ a1 = 8 ∨ a1 = 9 ∨ a1 = 10 ∨ a1 = 11 := by omega
      clear h h1 h2
      rcases h3 with rfl | rfl | rfl | rfl | rfl | rfl | rfl | rfl | rfl | rfl | rfl
      all_goals
        first
          | have hc := HT.cell 0 (by decide)
          | skip
        have hc0 := HT.cell 0 (by decide)
        have hc2 := HT.cell 2 (by decide)
        have hc3 := HT.cell 3 (by decide)
        have hc4 := HT.cell 4 (by decide)
        have hc5 := HT.cell 5 (by decide)
        have hc6 := HT.cell 6 (by decide)
        have hc7 := HT.cell 7 (by decide)
        have hc8 := HT.cell 8 (by decide)
        have hc9 := HT.cell 9 (by decide)
        have hc10 := HT.cell 10 (by decide)
        have hc11 := HT.cell 11 (by decide)
        simp only [tabL, List.getD_cons_succ, List.getD_cons_zero] at hc0 hc2 hc3 hc4 hc5 hc6 hc7 hc8 hc9 hc10 hc11
        clear HT hb1 hc
        go_enter Tryd.func36, Tryd.ntmps36
        go_wp2
        go_ret
        exact ⟨rfl, Drawn0.refl _⟩
    · rw [if_neg h2] at h
      exact absurd h (by simp)
end Go.Proofs.YtfhmbfadbfnnaaaDoor.Given
