/- The law's examples hold: the head of the calendar's laws answers true. Conditions: none. -/
import Derived.Test.YtjkpojedegmciaaDoorCalH
import Derived.Test.YtjkpojedegmciaaDoorPx7
namespace Go.Proofs.YtjkpojedegmciaaDoor.Cal
open Go.RowKit Go.Proofs.YtjkpojedegmciaaDoorW.PrintWords Go.Proofs.YtjkpojedegmciaaDoor.Given Go.Proofs.YtjkpojedegmciaaDoor.Px
set_option linter.unusedVariables false
set_option linter.unusedSimpArgs false
set_option maxRecDepth 100000 in
theorem head_ev : Ev (fun k => cohousinglaw03_head.f k) true := Ev.of (fun k => cohousinglaw03_head.mono k) (k := 60) (by decide +kernel)
theorem few_eq (l : List Int) : cohousinglaw03_few.f l = some (decide ((l.length : Int) ≤ 150)) := rfl
/-- The first day of a month (counted from January 2000). -/
def mstart (M : Int) : Int := ystart (2000 + M / 12) + cum (2000 + M / 12) (M % 12)
theorem mend {M : Int} (h : 0 ≤ M) : ystart (2000 + M / 12) + cum (2000 + M / 12) (M % 12 + 1) = mstart (M + 1) := by
  unfold mstart
  by_cases c : M % 12 = 11
  · have e1 : (M + 1) / 12 = M / 12 + 1 := by omega
    have e2 : (M + 1) % 12 = 0 := by omega
    rw [c, e1, e2, cum0, show (11 : Int) + 1 = 12 by rfl, cum12, show 2000 + (M / 12 + 1) = 2000 + M / 12 + 1 by omega, ystart_succ]
    omega
  · have e1 : (M + 1) / 12 = M / 12 := by omega
    have e2 : (M + 1) % 12 = M % 12 + 1 := by omega
    rw [e1, e2]
theorem daysOf_in {M : Int} (h : 0 ≤ M) (h1 : M ≤ 1199) : daysOf M = (mstart M, mstart (M + 1), 0) := by
  unfold daysOf
  rw [if_pos ⟨h, h1⟩, mend h]
  rfl
theorem mstep {M : Int} (h : 0 ≤ M) : mstart (M + 1) - mstart M = mlen (2000 + M / 12) (M % 12) := by
  rw [← mend h]
  unfold mstart mlen
  omega
theorem year_of_months {M : Int} (h : 11 ≤ M) : mstart (M + 1) - mstart (M - 11) = 365 ∨ mstart (M + 1) - mstart (M - 11) = 366 := by
  have e1 : (M - 11) / 12 = (M + 1) / 12 - 1 := by omega
  have e2 : (M - 11) % 12 = (M + 1) % 12 := by omega
  unfold mstart
  rw [e1, e2]
  have hs := ystart_succ (2000 + ((M + 1) / 12 - 1))
  rw [show 2000 + ((M + 1) / 12 - 1) + 1 = 2000 + (M + 1) / 12 by omega] at hs
  have l1 := leapI_01 (2000 + ((M + 1) / 12 - 1))
  have l2 := leapI_01 (2000 + (M + 1) / 12)
  generalize 2000 + ((M + 1) / 12 - 1) = y1 at *
  generalize 2000 + (M + 1) / 12 = y2 at *
  have hm : 0 ≤ (M + 1) % 12 ∧ (M + 1) % 12 ≤ 11 := by omega
  generalize (M + 1) % 12 = r at *
  rcases months hm.1 hm.2 with rfl | rfl | rfl | rfl | rfl | rfl | rfl | rfl | rfl | rfl | rfl | rfl <;> simp [cum] <;> omega
end Go.Proofs.YtjkpojedegmciaaDoor.Cal
