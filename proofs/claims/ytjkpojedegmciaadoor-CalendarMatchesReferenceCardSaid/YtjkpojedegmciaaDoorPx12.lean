/- Contracts of Go functions, written by a program of this session's own (wip/tools/myprint.py) out of the translation: each Go function does what the Lean function of its name says. Conditions: as each theorem states. -/
import Derived.Test.YtjkpojedegmciaaDoorPx0
import Derived.Test.YtjkpojedegmciaaDoorPx1
import Derived.Test.YtjkpojedegmciaaDoorPx3
import Derived.Test.YtjkpojedegmciaaDoorPx4
import Derived.Test.YtjkpojedegmciaaDoorPx5
import Derived.Test.YtjkpojedegmciaaDoorPx6
import Derived.Test.YtjkpojedegmciaaDoorPx7
import Derived.Test.YtjkpojedegmciaaDoorPx8
import Derived.Test.YtjkpojedegmciaaDoorPx9
import Derived.Test.YtjkpojedegmciaaDoorPx10
import Derived.Test.YtjkpojedegmciaaDoorPx11
namespace Go.Proofs.YtjkpojedegmciaaDoor.Px
open Go.Proofs.YtjkpojedegmciaaDoor.Given
open Go.RowKit Go.Proofs.YtjkpojedegmciaaDoorW.PrintWords Go.Proofs.YtjkpojedegmciaaDoorW.PrintLast Go.Proofs.YtjkpojedegmciaaDoorW.PrintMore
attribute [local go_sem] max2_int min2_int max_two min_two max_three min_three max_four min_four   -- for this text's walks alone
set_option linter.unusedVariables false
set_option linter.unusedSimpArgs false

attribute [local go_sem high] eqA32
/-! ### cohousinglaw03_CalendarMatchesReference: function 3 -/
mutual
def cohousinglaw03_CalendarMatchesReference.j0 : Nat → Int → Int → Int → Int → Int → Int → List Int → Bool → Option (Bool)
  | 0, _, _, _, _, _, _, _, _ => none
  | k + 1, x0, x1, x2, x3, x4, x5, x6, x15 => (calendar_Day.f k x1 x2 x3).bind fun bt206 => ((cohousingref03_Day.f k x1 x2 x3).bind fun bt208 => (if x15 = true then (if bt206.1 = bt208.1 then (cohousinglaw03_CalendarMatchesReference.j1 k x0 x2 x4 x5 x6 (bt206.2 == bt208.2)) else (cohousinglaw03_CalendarMatchesReference.j1 k x0 x2 x4 x5 x6 false)) else (cohousinglaw03_CalendarMatchesReference.j1 k x0 x2 x4 x5 x6 false)))
def cohousinglaw03_CalendarMatchesReference.j1 : Nat → Int → Int → Int → Int → List Int → Bool → Option (Bool)
  | 0, _, _, _, _, _, _ => none
  | k + 1, x0, x2, x4, x5, x6, x15 => (calendar_Weekday.f x0).bind fun bt210 => ((cohousingref03_Weekday.f x0).bind fun bt212 => (if x15 = true then (if bt210.1 = bt212.1 then (cohousinglaw03_CalendarMatchesReference.j2 k x0 x2 x4 x5 x6 (bt210.2 == bt212.2)) else (cohousinglaw03_CalendarMatchesReference.j2 k x0 x2 x4 x5 x6 false)) else (cohousinglaw03_CalendarMatchesReference.j2 k x0 x2 x4 x5 x6 false)))
def cohousinglaw03_CalendarMatchesReference.j2 : Nat → Int → Int → Int → Int → List Int → Bool → Option (Bool)
  | 0, _, _, _, _, _, _ => none
  | k + 1, x0, x2, x4, x5, x6, x15 => (calendar_Month.f k x0).bind fun bt214 => ((cohousingref03_Month.f k x0).bind fun bt216 => (if x15 = true then (if bt214.1 = bt216.1 then (cohousinglaw03_CalendarMatchesReference.j3 k x0 x2 x4 x5 x6 (bt214.2 == bt216.2)) else (cohousinglaw03_CalendarMatchesReference.j3 k x0 x2 x4 x5 x6 false)) else (cohousinglaw03_CalendarMatchesReference.j3 k x0 x2 x4 x5 x6 false)))
def cohousinglaw03_CalendarMatchesReference.j3 : Nat → Int → Int → Int → Int → List Int → Bool → Option (Bool)
  | 0, _, _, _, _, _, _ => none
  | k + 1, x0, x2, x4, x5, x6, x15 => (calendar_Days.f k x2).bind fun bt218 => ((cohousingref03_Days.f k x2).bind fun bt222 => (if x15 = true then (if (bt218.1 == bt222.1 && (bt218.2.1 == bt222.2.1)) = true then (cohousinglaw03_CalendarMatchesReference.j4 k x0 x4 x5 x6 (bt218.2.2 == bt222.2.2)) else (cohousinglaw03_CalendarMatchesReference.j4 k x0 x4 x5 x6 false)) else (cohousinglaw03_CalendarMatchesReference.j4 k x0 x4 x5 x6 false)))
def cohousinglaw03_CalendarMatchesReference.j4 : Nat → Int → Int → Int → List Int → Bool → Option (Bool)
  | 0, _, _, _, _, _ => none
  | k + 1, x0, x4, x5, x6, x15 => (calendar_Working.f k x0 x6).bind fun bt226 => ((cohousingref03_Working.f k x0 x6).bind fun bt228 => (if x15 = true then (if (bt226.1 == bt228.1) = true then (cohousinglaw03_CalendarMatchesReference.j5 k x0 x4 x5 x6 (bt226.2 == bt228.2)) else (cohousinglaw03_CalendarMatchesReference.j5 k x0 x4 x5 x6 false)) else (cohousinglaw03_CalendarMatchesReference.j5 k x0 x4 x5 x6 false)))
def cohousinglaw03_CalendarMatchesReference.j5 : Nat → Int → Int → Int → List Int → Bool → Option (Bool)
  | 0, _, _, _, _, _ => none
  | k + 1, x0, x4, x5, x6, x15 => (calendar_Deadline.f k x0 x4 x5 x6).bind fun bt230 => ((cohousingref03_Deadline.f k x0 x4 x5 x6).bind fun bt232 => (if x15 = true then (if bt230.1 = bt232.1 then (some (bt230.2 == bt232.2)) else (some false)) else (some false)))
end
def cohousinglaw03_CalendarMatchesReference.f (k : Nat) (a0 : Int) (a1 : Int) (a2 : Int) (a3 : Int) (a4 : Int) (a5 : Int) (l6 : List Int) : Option (Bool) := (cohousinglaw03_head.f k).bind fun t196 => ((cohousinglaw03_few.f l6).bind fun t197 => (if t197 = true then ((calendar_Date.f k a0).bind fun bt198 => ((cohousingref03_Date.f k a0).bind fun bt202 => (if t196 = true then (if bt198.1 = bt202.1 then (if bt198.2.1 = bt202.2.1 then (if bt198.2.2.1 = bt202.2.2.1 then (cohousinglaw03_CalendarMatchesReference.j0 k a0 a1 a2 a3 a4 a5 l6 (bt198.2.2.2 == bt202.2.2.2)) else (cohousinglaw03_CalendarMatchesReference.j0 k a0 a1 a2 a3 a4 a5 l6 false)) else (cohousinglaw03_CalendarMatchesReference.j0 k a0 a1 a2 a3 a4 a5 l6 false)) else (cohousinglaw03_CalendarMatchesReference.j0 k a0 a1 a2 a3 a4 a5 l6 false)) else (cohousinglaw03_CalendarMatchesReference.j0 k a0 a1 a2 a3 a4 a5 l6 false)))) else (some t196)))
theorem cohousinglaw03_CalendarMatchesReference.mono_l : ∀ k, (∀ y0 y1 y2 y3 y4 y5 y6 y7, LeO (cohousinglaw03_CalendarMatchesReference.j0 k y0 y1 y2 y3 y4 y5 y6 y7) (cohousinglaw03_CalendarMatchesReference.j0 (k + 1) y0 y1 y2 y3 y4 y5 y6 y7)) ∧ (∀ y0 y1 y2 y3 y4 y5, LeO (cohousinglaw03_CalendarMatchesReference.j1 k y0 y1 y2 y3 y4 y5) (cohousinglaw03_CalendarMatchesReference.j1 (k + 1) y0 y1 y2 y3 y4 y5)) ∧ (∀ y0 y1 y2 y3 y4 y5, LeO (cohousinglaw03_CalendarMatchesReference.j2 k y0 y1 y2 y3 y4 y5) (cohousinglaw03_CalendarMatchesReference.j2 (k + 1) y0 y1 y2 y3 y4 y5)) ∧ (∀ y0 y1 y2 y3 y4 y5, LeO (cohousinglaw03_CalendarMatchesReference.j3 k y0 y1 y2 y3 y4 y5) (cohousinglaw03_CalendarMatchesReference.j3 (k + 1) y0 y1 y2 y3 y4 y5)) ∧ (∀ y0 y1 y2 y3 y4, LeO (cohousinglaw03_CalendarMatchesReference.j4 k y0 y1 y2 y3 y4) (cohousinglaw03_CalendarMatchesReference.j4 (k + 1) y0 y1 y2 y3 y4)) ∧ (∀ y0 y1 y2 y3 y4, LeO (cohousinglaw03_CalendarMatchesReference.j5 k y0 y1 y2 y3 y4) (cohousinglaw03_CalendarMatchesReference.j5 (k + 1) y0 y1 y2 y3 y4))
  | 0 => ⟨fun _ _ _ _ _ _ _ _ r h => by simp [cohousinglaw03_CalendarMatchesReference.j0] at h, fun _ _ _ _ _ _ r h => by simp [cohousinglaw03_CalendarMatchesReference.j1] at h, fun _ _ _ _ _ _ r h => by simp [cohousinglaw03_CalendarMatchesReference.j2] at h, fun _ _ _ _ _ _ r h => by simp [cohousinglaw03_CalendarMatchesReference.j3] at h, fun _ _ _ _ _ r h => by simp [cohousinglaw03_CalendarMatchesReference.j4] at h, fun _ _ _ _ _ r h => by simp [cohousinglaw03_CalendarMatchesReference.j5] at h⟩
  | k + 1 => by
    obtain ⟨ih0, ih1, ih2, ih3, ih4, ih5⟩ := cohousinglaw03_CalendarMatchesReference.mono_l k
    refine ⟨?_, ?_, ?_, ?_, ?_, ?_⟩
    · intro y0 y1 y2 y3 y4 y5 y6 y7
      unfold cohousinglaw03_CalendarMatchesReference.j0
      repeat' first
      | (with_reducible exact ih0 _ _ _ _ _ _ _ _)
      | (with_reducible exact ih1 _ _ _ _ _ _)
      | (with_reducible exact ih2 _ _ _ _ _ _)
      | (with_reducible exact ih3 _ _ _ _ _ _)
      | (with_reducible exact ih4 _ _ _ _ _)
      | (with_reducible exact ih5 _ _ _ _ _)
      | (with_reducible exact calendar_Date.mono _ _)
      | (with_reducible exact calendar_Day.mono _ _ _ _)
      | (with_reducible exact calendar_Days.mono _ _)
      | (with_reducible exact calendar_Deadline.mono _ _ _ _ _)
      | (with_reducible exact calendar_Month.mono _ _)
      | (with_reducible exact calendar_Working.mono _ _ _)
      | (with_reducible exact cohousinglaw03_head.mono _)
      | (with_reducible exact cohousingref03_Date.mono _ _)
      | (with_reducible exact cohousingref03_Day.mono _ _ _ _)
      | (with_reducible exact cohousingref03_Days.mono _ _)
      | (with_reducible exact cohousingref03_Deadline.mono _ _ _ _ _)
      | (with_reducible exact cohousingref03_Month.mono _ _)
      | (with_reducible exact cohousingref03_Working.mono _ _ _)
      | (with_reducible exact LeO.refl _)
      | (with_reducible exact LeO.none _)
      | (with_reducible refine LeO.ite ?_ ?_)
      | (with_reducible refine LeO.bind ?_ (fun _ => ?_))
      | exact ih0 _ _ _ _ _ _ _ _
      | exact ih1 _ _ _ _ _ _
      | exact ih2 _ _ _ _ _ _
      | exact ih3 _ _ _ _ _ _
      | exact ih4 _ _ _ _ _
      | exact ih5 _ _ _ _ _
      | exact calendar_Date.mono _ _
      | exact calendar_Day.mono _ _ _ _
      | exact calendar_Days.mono _ _
      | exact calendar_Deadline.mono _ _ _ _ _
      | exact calendar_Month.mono _ _
      | exact calendar_Working.mono _ _ _
      | exact cohousinglaw03_head.mono _
      | exact cohousingref03_Date.mono _ _
      | exact cohousingref03_Day.mono _ _ _ _
      | exact cohousingref03_Days.mono _ _
      | exact cohousingref03_Deadline.mono _ _ _ _ _
      | exact cohousingref03_Month.mono _ _
      | exact cohousingref03_Working.mono _ _ _
      | exact LeO.none _
      | refine LeO.ite ?_ ?_
      | refine LeO.bind ?_ (fun _ => ?_)
    · intro y0 y1 y2 y3 y4 y5
      unfold cohousinglaw03_CalendarMatchesReference.j1
      repeat' first
      | (with_reducible exact ih0 _ _ _ _ _ _ _ _)
      | (with_reducible exact ih1 _ _ _ _ _ _)
      | (with_reducible exact ih2 _ _ _ _ _ _)
      | (with_reducible exact ih3 _ _ _ _ _ _)
      | (with_reducible exact ih4 _ _ _ _ _)
      | (with_reducible exact ih5 _ _ _ _ _)
      | (with_reducible exact calendar_Date.mono _ _)
      | (with_reducible exact calendar_Day.mono _ _ _ _)
      | (with_reducible exact calendar_Days.mono _ _)
      | (with_reducible exact calendar_Deadline.mono _ _ _ _ _)
      | (with_reducible exact calendar_Month.mono _ _)
      | (with_reducible exact calendar_Working.mono _ _ _)
      | (with_reducible exact cohousinglaw03_head.mono _)
      | (with_reducible exact cohousingref03_Date.mono _ _)
      | (with_reducible exact cohousingref03_Day.mono _ _ _ _)
      | (with_reducible exact cohousingref03_Days.mono _ _)
      | (with_reducible exact cohousingref03_Deadline.mono _ _ _ _ _)
      | (with_reducible exact cohousingref03_Month.mono _ _)
      | (with_reducible exact cohousingref03_Working.mono _ _ _)
      | (with_reducible exact LeO.refl _)
      | (with_reducible exact LeO.none _)
      | (with_reducible refine LeO.ite ?_ ?_)
      | (with_reducible refine LeO.bind ?_ (fun _ => ?_))
      | exact ih0 _ _ _ _ _ _ _ _
      | exact ih1 _ _ _ _ _ _
      | exact ih2 _ _ _ _ _ _
      | exact ih3 _ _ _ _ _ _
      | exact ih4 _ _ _ _ _
      | exact ih5 _ _ _ _ _
      | exact calendar_Date.mono _ _
      | exact calendar_Day.mono _ _ _ _
      | exact calendar_Days.mono _ _
      | exact calendar_Deadline.mono _ _ _ _ _
      | exact calendar_Month.mono _ _
      | exact calendar_Working.mono _ _ _
      | exact cohousinglaw03_head.mono _
      | exact cohousingref03_Date.mono _ _
      | exact cohousingref03_Day.mono _ _ _ _
      | exact cohousingref03_Days.mono _ _
      | exact cohousingref03_Deadline.mono _ _ _ _ _
      | exact cohousingref03_Month.mono _ _
      | exact cohousingref03_Working.mono _ _ _
      | exact LeO.none _
      | refine LeO.ite ?_ ?_
      | refine LeO.bind ?_ (fun _ => ?_)
    · intro y0 y1 y2 y3 y4 y5
      unfold cohousinglaw03_CalendarMatchesReference.j2
      repeat' first
      | (with_reducible exact ih0 _ _ _ _ _ _ _ _)
      | (with_reducible exact ih1 _ _ _ _ _ _)
      | (with_reducible exact ih2 _ _ _ _ _ _)
      | (with_reducible exact ih3 _ _ _ _ _ _)
      | (with_reducible exact ih4 _ _ _ _ _)
      | (with_reducible exact ih5 _ _ _ _ _)
      | (with_reducible exact calendar_Date.mono _ _)
      | (with_reducible exact calendar_Day.mono _ _ _ _)
      | (with_reducible exact calendar_Days.mono _ _)
      | (with_reducible exact calendar_Deadline.mono _ _ _ _ _)
      | (with_reducible exact calendar_Month.mono _ _)
      | (with_reducible exact calendar_Working.mono _ _ _)
      | (with_reducible exact cohousinglaw03_head.mono _)
      | (with_reducible exact cohousingref03_Date.mono _ _)
      | (with_reducible exact cohousingref03_Day.mono _ _ _ _)
      | (with_reducible exact cohousingref03_Days.mono _ _)
      | (with_reducible exact cohousingref03_Deadline.mono _ _ _ _ _)
      | (with_reducible exact cohousingref03_Month.mono _ _)
      | (with_reducible exact cohousingref03_Working.mono _ _ _)
      | (with_reducible exact LeO.refl _)
      | (with_reducible exact LeO.none _)
      | (with_reducible refine LeO.ite ?_ ?_)
      | (with_reducible refine LeO.bind ?_ (fun _ => ?_))
      | exact ih0 _ _ _ _ _ _ _ _
      | exact ih1 _ _ _ _ _ _
      | exact ih2 _ _ _ _ _ _
      | exact ih3 _ _ _ _ _ _
      | exact ih4 _ _ _ _ _
      | exact ih5 _ _ _ _ _
      | exact calendar_Date.mono _ _
      | exact calendar_Day.mono _ _ _ _
      | exact calendar_Days.mono _ _
      | exact calendar_Deadline.mono _ _ _ _ _
      | exact calendar_Month.mono _ _
      | exact calendar_Working.mono _ _ _
      | exact cohousinglaw03_head.mono _
      | exact cohousingref03_Date.mono _ _
      | exact cohousingref03_Day.mono _ _ _ _
      | exact cohousingref03_Days.mono _ _
      | exact cohousingref03_Deadline.mono _ _ _ _ _
      | exact cohousingref03_Month.mono _ _
      | exact cohousingref03_Working.mono _ _ _
      | exact LeO.none _
      | refine LeO.ite ?_ ?_
      | refine LeO.bind ?_ (fun _ => ?_)
    · intro y0 y1 y2 y3 y4 y5
      unfold cohousinglaw03_CalendarMatchesReference.j3
      repeat' first
      | (with_reducible exact ih0 _ _ _ _ _ _ _ _)
      | (with_reducible exact ih1 _ _ _ _ _ _)
      | (with_reducible exact ih2 _ _ _ _ _ _)
      | (with_reducible exact ih3 _ _ _ _ _ _)
      | (with_reducible exact ih4 _ _ _ _ _)
      | (with_reducible exact ih5 _ _ _ _ _)
      | (with_reducible exact calendar_Date.mono _ _)
      | (with_reducible exact calendar_Day.mono _ _ _ _)
      | (with_reducible exact calendar_Days.mono _ _)
      | (with_reducible exact calendar_Deadline.mono _ _ _ _ _)
      | (with_reducible exact calendar_Month.mono _ _)
      | (with_reducible exact calendar_Working.mono _ _ _)
      | (with_reducible exact cohousinglaw03_head.mono _)
      | (with_reducible exact cohousingref03_Date.mono _ _)
      | (with_reducible exact cohousingref03_Day.mono _ _ _ _)
      | (with_reducible exact cohousingref03_Days.mono _ _)
      | (with_reducible exact cohousingref03_Deadline.mono _ _ _ _ _)
      | (with_reducible exact cohousingref03_Month.mono _ _)
      | (with_reducible exact cohousingref03_Working.mono _ _ _)
      | (with_reducible exact LeO.refl _)
      | (with_reducible exact LeO.none _)
      | (with_reducible refine LeO.ite ?_ ?_)
      | (with_reducible refine LeO.bind ?_ (fun _ => ?_))
      | exact ih0 _ _ _ _ _ _ _ _
      | exact ih1 _ _ _ _ _ _
      | exact ih2 _ _ _ _ _ _
      | exact ih3 _ _ _ _ _ _
      | exact ih4 _ _ _ _ _
      | exact ih5 _ _ _ _ _
      | exact calendar_Date.mono _ _
      | exact calendar_Day.mono _ _ _ _
      | exact calendar_Days.mono _ _
      | exact calendar_Deadline.mono _ _ _ _ _
      | exact calendar_Month.mono _ _
      | exact calendar_Working.mono _ _ _
      | exact cohousinglaw03_head.mono _
      | exact cohousingref03_Date.mono _ _
      | exact cohousingref03_Day.mono _ _ _ _
      | exact cohousingref03_Days.mono _ _
      | exact cohousingref03_Deadline.mono _ _ _ _ _
      | exact cohousingref03_Month.mono _ _
      | exact cohousingref03_Working.mono _ _ _
      | exact LeO.none _
      | refine LeO.ite ?_ ?_
      | refine LeO.bind ?_ (fun _ => ?_)
    · intro y0 y1 y2 y3 y4
      unfold cohousinglaw03_CalendarMatchesReference.j4
      repeat' first
      | (with_reducible exact ih0 _ _ _ _ _ _ _ _)
      | (with_reducible exact ih1 _ _ _ _ _ _)
      | (with_reducible exact ih2 _ _ _ _ _ _)
      | (with_reducible exact ih3 _ _ _ _ _ _)
      | (with_reducible exact ih4 _ _ _ _ _)
      | (with_reducible exact ih5 _ _ _ _ _)
      | (with_reducible exact calendar_Date.mono _ _)
      | (with_reducible exact calendar_Day.mono _ _ _ _)
      | (with_reducible exact calendar_Days.mono _ _)
      | (with_reducible exact calendar_Deadline.mono _ _ _ _ _)
      | (with_reducible exact calendar_Month.mono _ _)
      | (with_reducible exact calendar_Working.mono _ _ _)
      | (with_reducible exact cohousinglaw03_head.mono _)
      | (with_reducible exact cohousingref03_Date.mono _ _)
      | (with_reducible exact cohousingref03_Day.mono _ _ _ _)
      | (with_reducible exact cohousingref03_Days.mono _ _)
      | (with_reducible exact cohousingref03_Deadline.mono _ _ _ _ _)
      | (with_reducible exact cohousingref03_Month.mono _ _)
      | (with_reducible exact cohousingref03_Working.mono _ _ _)
      | (with_reducible exact LeO.refl _)
      | (with_reducible exact LeO.none _)
      | (with_reducible refine LeO.ite ?_ ?_)
      | (with_reducible refine LeO.bind ?_ (fun _ => ?_))
      | exact ih0 _ _ _ _ _ _ _ _
      | exact ih1 _ _ _ _ _ _
      | exact ih2 _ _ _ _ _ _
      | exact ih3 _ _ _ _ _ _
      | exact ih4 _ _ _ _ _
      | exact ih5 _ _ _ _ _
      | exact calendar_Date.mono _ _
      | exact calendar_Day.mono _ _ _ _
      | exact calendar_Days.mono _ _
      | exact calendar_Deadline.mono _ _ _ _ _
      | exact calendar_Month.mono _ _
      | exact calendar_Working.mono _ _ _
      | exact cohousinglaw03_head.mono _
      | exact cohousingref03_Date.mono _ _
      | exact cohousingref03_Day.mono _ _ _ _
      | exact cohousingref03_Days.mono _ _
      | exact cohousingref03_Deadline.mono _ _ _ _ _
      | exact cohousingref03_Month.mono _ _
      | exact cohousingref03_Working.mono _ _ _
      | exact LeO.none _
      | refine LeO.ite ?_ ?_
      | refine LeO.bind ?_ (fun _ => ?_)
    · intro y0 y1 y2 y3 y4
      unfold cohousinglaw03_CalendarMatchesReference.j5
      repeat' first
      | (with_reducible exact ih0 _ _ _ _ _ _ _ _)
      | (with_reducible exact ih1 _ _ _ _ _ _)
      | (with_reducible exact ih2 _ _ _ _ _ _)
      | (with_reducible exact ih3 _ _ _ _ _ _)
      | (with_reducible exact ih4 _ _ _ _ _)
      | (with_reducible exact ih5 _ _ _ _ _)
      | (with_reducible exact calendar_Date.mono _ _)
      | (with_reducible exact calendar_Day.mono _ _ _ _)
      | (with_reducible exact calendar_Days.mono _ _)
      | (with_reducible exact calendar_Deadline.mono _ _ _ _ _)
      | (with_reducible exact calendar_Month.mono _ _)
      | (with_reducible exact calendar_Working.mono _ _ _)
      | (with_reducible exact cohousinglaw03_head.mono _)
      | (with_reducible exact cohousingref03_Date.mono _ _)
      | (with_reducible exact cohousingref03_Day.mono _ _ _ _)
      | (with_reducible exact cohousingref03_Days.mono _ _)
      | (with_reducible exact cohousingref03_Deadline.mono _ _ _ _ _)
      | (with_reducible exact cohousingref03_Month.mono _ _)
      | (with_reducible exact cohousingref03_Working.mono _ _ _)
      | (with_reducible exact LeO.refl _)
      | (with_reducible exact LeO.none _)
      | (with_reducible refine LeO.ite ?_ ?_)
      | (with_reducible refine LeO.bind ?_ (fun _ => ?_))
      | exact ih0 _ _ _ _ _ _ _ _
      | exact ih1 _ _ _ _ _ _
      | exact ih2 _ _ _ _ _ _
      | exact ih3 _ _ _ _ _ _
      | exact ih4 _ _ _ _ _
      | exact ih5 _ _ _ _ _
      | exact calendar_Date.mono _ _
      | exact calendar_Day.mono _ _ _ _
      | exact calendar_Days.mono _ _
      | exact calendar_Deadline.mono _ _ _ _ _
      | exact calendar_Month.mono _ _
      | exact calendar_Working.mono _ _ _
      | exact cohousinglaw03_head.mono _
      | exact cohousingref03_Date.mono _ _
      | exact cohousingref03_Day.mono _ _ _ _
      | exact cohousingref03_Days.mono _ _
      | exact cohousingref03_Deadline.mono _ _ _ _ _
      | exact cohousingref03_Month.mono _ _
      | exact cohousingref03_Working.mono _ _ _
      | exact LeO.none _
      | refine LeO.ite ?_ ?_
      | refine LeO.bind ?_ (fun _ => ?_)
theorem cohousinglaw03_CalendarMatchesReference.mono : ∀ a0 a1 a2 a3 a4 a5 a6 k, LeO (cohousinglaw03_CalendarMatchesReference.f k a0 a1 a2 a3 a4 a5 a6) (cohousinglaw03_CalendarMatchesReference.f (k + 1) a0 a1 a2 a3 a4 a5 a6) := by
  intro a0 a1 a2 a3 a4 a5 a6 k
  obtain ⟨ih0, ih1, ih2, ih3, ih4, ih5⟩ := cohousinglaw03_CalendarMatchesReference.mono_l k
  unfold cohousinglaw03_CalendarMatchesReference.f
  repeat' first
      | (with_reducible exact ih0 _ _ _ _ _ _ _ _)
      | (with_reducible exact ih1 _ _ _ _ _ _)
      | (with_reducible exact ih2 _ _ _ _ _ _)
      | (with_reducible exact ih3 _ _ _ _ _ _)
      | (with_reducible exact ih4 _ _ _ _ _)
      | (with_reducible exact ih5 _ _ _ _ _)
      | (with_reducible exact calendar_Date.mono _ _)
      | (with_reducible exact calendar_Day.mono _ _ _ _)
      | (with_reducible exact calendar_Days.mono _ _)
      | (with_reducible exact calendar_Deadline.mono _ _ _ _ _)
      | (with_reducible exact calendar_Month.mono _ _)
      | (with_reducible exact calendar_Working.mono _ _ _)
      | (with_reducible exact cohousinglaw03_head.mono _)
      | (with_reducible exact cohousingref03_Date.mono _ _)
      | (with_reducible exact cohousingref03_Day.mono _ _ _ _)
      | (with_reducible exact cohousingref03_Days.mono _ _)
      | (with_reducible exact cohousingref03_Deadline.mono _ _ _ _ _)
      | (with_reducible exact cohousingref03_Month.mono _ _)
      | (with_reducible exact cohousingref03_Working.mono _ _ _)
      | (with_reducible exact LeO.refl _)
      | (with_reducible exact LeO.none _)
      | (with_reducible refine LeO.ite ?_ ?_)
      | (with_reducible refine LeO.bind ?_ (fun _ => ?_))
      | exact ih0 _ _ _ _ _ _ _ _
      | exact ih1 _ _ _ _ _ _
      | exact ih2 _ _ _ _ _ _
      | exact ih3 _ _ _ _ _ _
      | exact ih4 _ _ _ _ _
      | exact ih5 _ _ _ _ _
      | exact calendar_Date.mono _ _
      | exact calendar_Day.mono _ _ _ _
      | exact calendar_Days.mono _ _
      | exact calendar_Deadline.mono _ _ _ _ _
      | exact calendar_Month.mono _ _
      | exact calendar_Working.mono _ _ _
      | exact cohousinglaw03_head.mono _
      | exact cohousingref03_Date.mono _ _
      | exact cohousingref03_Day.mono _ _ _ _
      | exact cohousingref03_Days.mono _ _
      | exact cohousingref03_Deadline.mono _ _ _ _ _
      | exact cohousingref03_Month.mono _ _
      | exact cohousingref03_Working.mono _ _ _
      | exact LeO.none _
      | refine LeO.ite ?_ ?_
      | refine LeO.bind ?_ (fun _ => ?_)
set_option maxHeartbeats 8000000 in
set_option maxRecDepth 100000 in
theorem cohousinglaw03_CalendarMatchesReference.calls (k : Nat) (a0 : Int) (a1 : Int) (a2 : Int) (a3 : Int) (a4 : Int) (a5 : Int) (A6 : Option Addr) (c6 : Nat) (l6 : List Int) (r : Bool) (w : World) (hr6 : Kd.C (Kd.int .i64) w A6 l6.length l6) (hc6 : l6.length ≤ c6) (HT : TabOK w) (h : cohousinglaw03_CalendarMatchesReference.f k a0 a1 a2 a3 a4 a5 l6 = some r) :
    Calls Tryd.prog 3 #[.int .i64 a0, .int .i64 a1, .int .i64 a2, .int .i64 a3, .int .i64 a4, .int .i64 a5, .slice A6 l6.length c6] w fun e w' => e = .returned (.bool r) ∧ Below w.heap.size w w' := by
  have hu32 := Tryd.underlying32
  have HTA := Aside0.mk HT
  clear HT
  have HR6 := Aside0.mk hr6
  have HC6 := Aside0.mk hc6
  clear hr6 hc6
  have HB := Aside0.mk (Below.refl w.heap.size w)
  have H : ((cohousinglaw03_head.f k).bind fun t196 => ((cohousinglaw03_few.f l6).bind fun t197 => (if t197 = true then ((calendar_Date.f k a0).bind fun bt198 => ((cohousingref03_Date.f k a0).bind fun bt202 => (if t196 = true then (if bt198.1 = bt202.1 then (if bt198.2.1 = bt202.2.1 then (if bt198.2.2.1 = bt202.2.2.1 then (cohousinglaw03_CalendarMatchesReference.j0 k a0 a1 a2 a3 a4 a5 l6 (bt198.2.2.2 == bt202.2.2.2)) else (cohousinglaw03_CalendarMatchesReference.j0 k a0 a1 a2 a3 a4 a5 l6 false)) else (cohousinglaw03_CalendarMatchesReference.j0 k a0 a1 a2 a3 a4 a5 l6 false)) else (cohousinglaw03_CalendarMatchesReference.j0 k a0 a1 a2 a3 a4 a5 l6 false)) else (cohousinglaw03_CalendarMatchesReference.j0 k a0 a1 a2 a3 a4 a5 l6 false)))) else (some t196)))) = some r := h
  clear h
  replace H := Option.bind_eq_some_iff.mp H
  obtain ⟨t196, A80, H⟩ := H
  replace H : ((cohousinglaw03_few.f l6).bind fun t197 => (if t197 = true then ((calendar_Date.f k a0).bind fun bt198 => ((cohousingref03_Date.f k a0).bind fun bt202 => (if t196 = true then (if bt198.1 = bt202.1 then (if bt198.2.1 = bt202.2.1 then (if bt198.2.2.1 = bt202.2.2.1 then (cohousinglaw03_CalendarMatchesReference.j0 k a0 a1 a2 a3 a4 a5 l6 (bt198.2.2.2 == bt202.2.2.2)) else (cohousinglaw03_CalendarMatchesReference.j0 k a0 a1 a2 a3 a4 a5 l6 false)) else (cohousinglaw03_CalendarMatchesReference.j0 k a0 a1 a2 a3 a4 a5 l6 false)) else (cohousinglaw03_CalendarMatchesReference.j0 k a0 a1 a2 a3 a4 a5 l6 false)) else (cohousinglaw03_CalendarMatchesReference.j0 k a0 a1 a2 a3 a4 a5 l6 false)))) else (some t196))) = some r := H
  have A8 := Aside0.mk A80
  clear A80
  replace H := Option.bind_eq_some_iff.mp H
  obtain ⟨t197, A90, H⟩ := H
  replace H : (if t197 = true then ((calendar_Date.f k a0).bind fun bt198 => ((cohousingref03_Date.f k a0).bind fun bt202 => (if t196 = true then (if bt198.1 = bt202.1 then (if bt198.2.1 = bt202.2.1 then (if bt198.2.2.1 = bt202.2.2.1 then (cohousinglaw03_CalendarMatchesReference.j0 k a0 a1 a2 a3 a4 a5 l6 (bt198.2.2.2 == bt202.2.2.2)) else (cohousinglaw03_CalendarMatchesReference.j0 k a0 a1 a2 a3 a4 a5 l6 false)) else (cohousinglaw03_CalendarMatchesReference.j0 k a0 a1 a2 a3 a4 a5 l6 false)) else (cohousinglaw03_CalendarMatchesReference.j0 k a0 a1 a2 a3 a4 a5 l6 false)) else (cohousinglaw03_CalendarMatchesReference.j0 k a0 a1 a2 a3 a4 a5 l6 false)))) else (some t196)) = some r := H
  have A9 := Aside0.mk A90
  clear A90
  by_cases c10 : t197 = true
  · subst c10
    have H1 : ((calendar_Date.f k a0).bind fun bt198 => ((cohousingref03_Date.f k a0).bind fun bt202 => (if t196 = true then (if bt198.1 = bt202.1 then (if bt198.2.1 = bt202.2.1 then (if bt198.2.2.1 = bt202.2.2.1 then (cohousinglaw03_CalendarMatchesReference.j0 k a0 a1 a2 a3 a4 a5 l6 (bt198.2.2.2 == bt202.2.2.2)) else (cohousinglaw03_CalendarMatchesReference.j0 k a0 a1 a2 a3 a4 a5 l6 false)) else (cohousinglaw03_CalendarMatchesReference.j0 k a0 a1 a2 a3 a4 a5 l6 false)) else (cohousinglaw03_CalendarMatchesReference.j0 k a0 a1 a2 a3 a4 a5 l6 false)) else (cohousinglaw03_CalendarMatchesReference.j0 k a0 a1 a2 a3 a4 a5 l6 false)))) = some r := by rw [if_pos rfl] at H; exact H
    clear H
    have H := H1
    clear H1
    replace H := Option.bind_eq_some_iff.mp H
    obtain ⟨⟨t198, t199, t200, t201⟩, A110, H⟩ := H
    replace H : ((cohousingref03_Date.f k a0).bind fun bt202 => (if t196 = true then (if t198 = bt202.1 then (if t199 = bt202.2.1 then (if t200 = bt202.2.2.1 then (cohousinglaw03_CalendarMatchesReference.j0 k a0 a1 a2 a3 a4 a5 l6 (t201 == bt202.2.2.2)) else (cohousinglaw03_CalendarMatchesReference.j0 k a0 a1 a2 a3 a4 a5 l6 false)) else (cohousinglaw03_CalendarMatchesReference.j0 k a0 a1 a2 a3 a4 a5 l6 false)) else (cohousinglaw03_CalendarMatchesReference.j0 k a0 a1 a2 a3 a4 a5 l6 false)) else (cohousinglaw03_CalendarMatchesReference.j0 k a0 a1 a2 a3 a4 a5 l6 false))) = some r := H
    have A11 := Aside0.mk A110
    clear A110
    replace H := Option.bind_eq_some_iff.mp H
    obtain ⟨⟨t202, t203, t204, t205⟩, A120, H⟩ := H
    replace H : (if t196 = true then (if t198 = t202 then (if t199 = t203 then (if t200 = t204 then (cohousinglaw03_CalendarMatchesReference.j0 k a0 a1 a2 a3 a4 a5 l6 (t201 == t205)) else (cohousinglaw03_CalendarMatchesReference.j0 k a0 a1 a2 a3 a4 a5 l6 false)) else (cohousinglaw03_CalendarMatchesReference.j0 k a0 a1 a2 a3 a4 a5 l6 false)) else (cohousinglaw03_CalendarMatchesReference.j0 k a0 a1 a2 a3 a4 a5 l6 false)) else (cohousinglaw03_CalendarMatchesReference.j0 k a0 a1 a2 a3 a4 a5 l6 false)) = some r := H
    have A12 := Aside0.mk A120
    clear A120
    have HC13 := Aside0.mk H
    clear H
    go_enter Tryd.func3, Tryd.ntmps3
    go_upto_region 6 with (first | ((with_reducible refine gate_callee (f := 11) rfl ?_); refine goesL_ (some 30) rfl rfl Tryd.func11 (by kernel_rfl) rfl #[] rfl (by (try simp only [List.map_toArray, List.map_cons, List.map_nil]); first | done | rfl | (simp only [List.length_drop, List.length_take]; rfl)) ?_; (with_reducible refine (cohousinglaw03_head.calls k  t196 _ ?side1 A8.out).mono ?_); (case side1 => exact TabOK.below HTA.out (by repeat (first | (with_reducible first | exact HB.out | apply below_alloc | apply pw_below_drewN | apply below_drew1) | exact HB.out))); rintro e w14 ⟨rfl, hb⟩; refine ⟨_, rfl, ?_⟩; have n0_ := Aside0.mk (below_step (by repeat (first | (with_reducible first | exact HB.out | apply below_alloc | apply pw_below_drewN | apply below_drew1) | exact HB.out)) hb); clear HB; have HB := n0_; clear n0_; (try clear hb); (try clear hb2); (try clear hk); (try clear hi)) | ((with_reducible refine gate_callee (f := 12) rfl ?_); refine goesL_ (some 32) rfl rfl Tryd.func12 (by kernel_rfl) rfl #[.slice A6 l6.length c6] rfl (by (try simp only [List.map_toArray, List.map_cons, List.map_nil]); first | done | rfl | (simp only [List.length_drop, List.length_take]; rfl)) ?_; (with_reducible refine (cohousinglaw03_few.calls _ _ l6 true _ ?side1 ?side2 A9.out).mono ?_); (case side1 => repeat (first | exact (Kd.C_below HR6.out HB.out) | (with_reducible refine Kd.C_alloc ?_ _) | (with_reducible refine Kd.C_drewN ?_ _) | (with_reducible refine Kd.C_drew ?_))); (case side2 => exact HC6.out); rintro e w' ⟨rfl, ⟨nd, rfl⟩⟩; refine ⟨_, rfl, ?_⟩) | ((with_reducible refine gate_callee (f := 13) rfl ?_); refine goesL_ (some 37) rfl rfl Tryd.func13 (by kernel_rfl) rfl #[.int .i64 a0] rfl (by (try simp only [List.map_toArray, List.map_cons, List.map_nil]); first | done | rfl | (simp only [List.length_drop, List.length_take]; rfl)) ?_; (with_reducible refine (calendar_Date.calls k a0 t198 t199 t200 t201 _ ?side1 A11.out).mono ?_); (case side1 => exact TabOK.below HTA.out (by repeat (first | (with_reducible first | exact HB.out | apply below_alloc | apply pw_below_drewN | apply below_drew1) | exact HB.out))); rintro e w' ⟨rfl, ⟨nd, rfl⟩⟩; refine ⟨_, rfl, ?_⟩) | ((with_reducible refine gate_callee (f := 14) rfl ?_); refine goesL_ (some 44) rfl rfl Tryd.func14 (by kernel_rfl) rfl #[.int .i64 a0] rfl (by (try simp only [List.map_toArray, List.map_cons, List.map_nil]); first | done | rfl | (simp only [List.length_drop, List.length_take]; rfl)) ?_; (with_reducible refine (cohousingref03_Date.calls k a0 t202 t203 t204 t205 _ A12.out).mono ?_); rintro e w' ⟨rfl, ⟨nd, rfl⟩⟩; refine ⟨_, rfl, ?_⟩))
    (try simp only [Act.put, List.setIfInBounds_toArray, List.set_cons_zero, List.set_cons_succ])
    go_cut [15] (fun v15 wc => ∃ (kq : Nat) (x15_12 : Bool), v15 = .bool x15_12 ∧ Aside0 (cohousinglaw03_CalendarMatchesReference.j0 kq a0 a1 a2 a3 a4 a5 l6 x15_12 = some r) ∧ Aside0 (kq ≤ k) ∧ Aside0 (Below w.heap.size w wc))
    case first => as_aux_lemma =>
      have H := HC13.out
      clear HC13
      by_cases c15 : t196 = true
      · subst c15
        have H1 : (if t198 = t202 then (if t199 = t203 then (if t200 = t204 then (cohousinglaw03_CalendarMatchesReference.j0 k a0 a1 a2 a3 a4 a5 l6 (t201 == t205)) else (cohousinglaw03_CalendarMatchesReference.j0 k a0 a1 a2 a3 a4 a5 l6 false)) else (cohousinglaw03_CalendarMatchesReference.j0 k a0 a1 a2 a3 a4 a5 l6 false)) else (cohousinglaw03_CalendarMatchesReference.j0 k a0 a1 a2 a3 a4 a5 l6 false)) = some r := by rw [if_pos rfl] at H; exact H
        clear H
        have H := H1
        clear H1
        by_cases c16 : t198 = t202
        · rw [if_pos c16] at H
          have c16b0 : (t198 == t202) = true := beq_iff_eq.mpr c16
          have c16b1 : (t198 != t202) = false := bne_eq_false_iff_eq.mpr c16
          clear c16
          (first | rw [c16b0] | (simp only [i64_w, i32_w]; rw [c16b0]) | skip)
          by_cases c17 : t199 = t203
          · rw [if_pos c17] at H
            have c17b0 : (t199 == t203) = true := beq_iff_eq.mpr c17
            have c17b1 : (t199 != t203) = false := bne_eq_false_iff_eq.mpr c17
            clear c17
            by_cases c18 : t200 = t204
            · rw [if_pos c18] at H
              have c18b0 : (t200 == t204) = true := beq_iff_eq.mpr c18
              have c18b1 : (t200 != t204) = false := bne_eq_false_iff_eq.mpr c18
              clear c18
              have H' := Aside0.mk H
              clear H
              go_wp2
              go_meet
              case rel => exact ⟨_, ((t201 == t205)), (by first | rfl | (simp; done) | (simp [*]; done)), H', ⟨by first | omega | exact Nat.le_refl _⟩, ⟨by repeat (first | (with_reducible first | exact HB.out | apply below_alloc | apply pw_below_drewN | apply below_drew1) | exact HB.out)⟩⟩
            · rw [if_neg c18] at H
              have c18b0 : (t200 == t204) = false := beq_eq_false_iff_ne.mpr c18
              have c18b1 : (t200 != t204) = true := bne_iff_ne.mpr c18
              have H' := Aside0.mk H
              clear H
              go_wp2
              go_meet
              case rel => exact ⟨_, (false), (by first | rfl | (simp; done) | (simp [*]; done)), H', ⟨by first | omega | exact Nat.le_refl _⟩, ⟨by repeat (first | (with_reducible first | exact HB.out | apply below_alloc | apply pw_below_drewN | apply below_drew1) | exact HB.out)⟩⟩
          · rw [if_neg c17] at H
            have c17b0 : (t199 == t203) = false := beq_eq_false_iff_ne.mpr c17
            have c17b1 : (t199 != t203) = true := bne_iff_ne.mpr c17
            have H' := Aside0.mk H
            clear H
            go_wp2
            go_meet
            case rel => exact ⟨_, (false), (by first | rfl | (simp; done) | (simp [*]; done)), H', ⟨by first | omega | exact Nat.le_refl _⟩, ⟨by repeat (first | (with_reducible first | exact HB.out | apply below_alloc | apply pw_below_drewN | apply below_drew1) | exact HB.out)⟩⟩
        · rw [if_neg c16] at H
          have c16b0 : (t198 == t202) = false := beq_eq_false_iff_ne.mpr c16
          have c16b1 : (t198 != t202) = true := bne_iff_ne.mpr c16
          (first | rw [c16b0] | (simp only [i64_w, i32_w]; rw [c16b0]) | skip)
          have H' := Aside0.mk H
          clear H
          go_wp2
          go_meet
          case rel => exact ⟨_, (false), (by first | rfl | (simp; done) | (simp [*]; done)), H', ⟨by first | omega | exact Nat.le_refl _⟩, ⟨by repeat (first | (with_reducible first | exact HB.out | apply below_alloc | apply pw_below_drewN | apply below_drew1) | exact HB.out)⟩⟩
      · replace c15 := Bool.eq_false_iff.mpr c15
        subst c15
        have H1 : (cohousinglaw03_CalendarMatchesReference.j0 k a0 a1 a2 a3 a4 a5 l6 false) = some r := by rw [if_neg (show ¬ (false = true) by decide)] at H; exact H
        clear H
        have H := H1
        clear H1
        have H' := Aside0.mk H
        clear H
        go_wp2
        go_meet
        case rel => exact ⟨_, (false), (by first | rfl | (simp; done) | (simp [*]; done)), H', ⟨by first | omega | exact Nat.le_refl _⟩, ⟨by repeat (first | (with_reducible first | exact HB.out | apply below_alloc | apply pw_below_drewN | apply below_drew1) | exact HB.out)⟩⟩
    case rest => as_aux_lemma =>
      clear HC13
      try clear c1
      try clear p2
      try clear c3
      try clear c6
      try clear c10
      try clear c11
      try clear c12
      try clear c13
      try clear c14
      try clear c15
      try clear c16
      try clear c16b0
      try clear c16b1
      try clear c17
      try clear c17b0
      try clear c17b1
      try clear c18
      try clear c18b0
      try clear c18b1
      obtain ⟨kq, x15_12, rfl, HA, HJ12, HB⟩ := hcut
      cases kq with
      | zero => exact absurd HA.out (by simp [cohousinglaw03_CalendarMatchesReference.j0])
      | succ kj12 =>
        have H := HA.out
        clear HA
        simp only [cohousinglaw03_CalendarMatchesReference.j0] at H
        replace H := Option.bind_eq_some_iff.mp H
        obtain ⟨⟨t206, t207⟩, A190, H⟩ := H
        replace H : ((cohousingref03_Day.f kj12 a1 a2 a3).bind fun bt208 => (if x15_12 = true then (if t206 = bt208.1 then (cohousinglaw03_CalendarMatchesReference.j1 kj12 a0 a2 a4 a5 l6 (t207 == bt208.2)) else (cohousinglaw03_CalendarMatchesReference.j1 kj12 a0 a2 a4 a5 l6 false)) else (cohousinglaw03_CalendarMatchesReference.j1 kj12 a0 a2 a4 a5 l6 false))) = some r := H
        have A19 := Aside0.mk A190
        clear A190
        replace H := Option.bind_eq_some_iff.mp H
        obtain ⟨⟨t208, t209⟩, A200, H⟩ := H
        replace H : (if x15_12 = true then (if t206 = t208 then (cohousinglaw03_CalendarMatchesReference.j1 kj12 a0 a2 a4 a5 l6 (t207 == t209)) else (cohousinglaw03_CalendarMatchesReference.j1 kj12 a0 a2 a4 a5 l6 false)) else (cohousinglaw03_CalendarMatchesReference.j1 kj12 a0 a2 a4 a5 l6 false)) = some r := H
        have A20 := Aside0.mk A200
        clear A200
        have HC21 := Aside0.mk H
        clear H
        go_upto_region 9 with (first | ((with_reducible refine gate_callee (f := 15) rfl ?_); refine goesL_ (some 74) rfl rfl Tryd.func15 (by kernel_rfl) rfl #[.int .i64 a1, .int .i64 a2, .int .i64 a3] rfl (by (try simp only [List.map_toArray, List.map_cons, List.map_nil]); first | done | rfl | (simp only [List.length_drop, List.length_take]; rfl)) ?_; (with_reducible refine (calendar_Day.calls kj12 a1 a2 a3 t206 t207 _ ?side1 A19.out).mono ?_); (case side1 => exact TabOK.below HTA.out (by repeat (first | (with_reducible first | exact HB.out | apply below_alloc | apply pw_below_drewN | apply below_drew1) | exact HB.out))); rintro e w' ⟨rfl, ⟨nd, rfl⟩⟩; refine ⟨_, rfl, ?_⟩) | ((with_reducible refine gate_callee (f := 16) rfl ?_); refine goesL_ (some 81) rfl rfl Tryd.func16 (by kernel_rfl) rfl #[.int .i64 a1, .int .i64 a2, .int .i64 a3] rfl (by (try simp only [List.map_toArray, List.map_cons, List.map_nil]); first | done | rfl | (simp only [List.length_drop, List.length_take]; rfl)) ?_; (with_reducible refine (cohousingref03_Day.calls kj12 a1 a2 a3 t208 t209 _ A20.out).mono ?_); rintro e w' ⟨rfl, ⟨nd, rfl⟩⟩; refine ⟨_, rfl, ?_⟩))
        (try simp only [Act.put, List.setIfInBounds_toArray, List.set_cons_zero, List.set_cons_succ])
        go_cut [15] (fun v15 wc => ∃ (kq : Nat) (x15_20 : Bool), v15 = .bool x15_20 ∧ Aside0 (cohousinglaw03_CalendarMatchesReference.j1 kq a0 a2 a4 a5 l6 x15_20 = some r) ∧ Aside0 (kq ≤ kj12) ∧ Aside0 (Below w.heap.size w wc))
        case first => as_aux_lemma =>
          have H := HC21.out
          clear HC21
          by_cases c22 : x15_12 = true
          · subst c22
            have H1 : (if t206 = t208 then (cohousinglaw03_CalendarMatchesReference.j1 kj12 a0 a2 a4 a5 l6 (t207 == t209)) else (cohousinglaw03_CalendarMatchesReference.j1 kj12 a0 a2 a4 a5 l6 false)) = some r := by rw [if_pos rfl] at H; exact H
            clear H
            have H := H1
            clear H1
            by_cases c23 : t206 = t208
            · rw [if_pos c23] at H
              have c23b0 : (t206 == t208) = true := beq_iff_eq.mpr c23
              have c23b1 : (t206 != t208) = false := bne_eq_false_iff_eq.mpr c23
              clear c23
              (first | rw [c23b0] | (simp only [i64_w, i32_w]; rw [c23b0]) | skip)
              have H' := Aside0.mk H
              clear H
              go_wp2
              go_meet
              case rel => exact ⟨_, ((t207 == t209)), (by first | rfl | (simp; done) | (simp [*]; done)), H', ⟨by have := HJ12.out; first | omega | exact Nat.le_refl _⟩, ⟨by repeat (first | (with_reducible first | exact HB.out | apply below_alloc | apply pw_below_drewN | apply below_drew1) | exact HB.out)⟩⟩
            · rw [if_neg c23] at H
              have c23b0 : (t206 == t208) = false := beq_eq_false_iff_ne.mpr c23
              have c23b1 : (t206 != t208) = true := bne_iff_ne.mpr c23
              (first | rw [c23b0] | (simp only [i64_w, i32_w]; rw [c23b0]) | skip)
              have H' := Aside0.mk H
              clear H
              go_wp2
              go_meet
              case rel => exact ⟨_, (false), (by first | rfl | (simp; done) | (simp [*]; done)), H', ⟨by have := HJ12.out; first | omega | exact Nat.le_refl _⟩, ⟨by repeat (first | (with_reducible first | exact HB.out | apply below_alloc | apply pw_below_drewN | apply below_drew1) | exact HB.out)⟩⟩
          · replace c22 := Bool.eq_false_iff.mpr c22
            subst c22
            have H1 : (cohousinglaw03_CalendarMatchesReference.j1 kj12 a0 a2 a4 a5 l6 false) = some r := by rw [if_neg (show ¬ (false = true) by decide)] at H; exact H
            clear H
            have H := H1
            clear H1
            have H' := Aside0.mk H
            clear H
            go_wp2
            go_meet
            case rel => exact ⟨_, (false), (by first | rfl | (simp; done) | (simp [*]; done)), H', ⟨by have := HJ12.out; first | omega | exact Nat.le_refl _⟩, ⟨by repeat (first | (with_reducible first | exact HB.out | apply below_alloc | apply pw_below_drewN | apply below_drew1) | exact HB.out)⟩⟩
        case rest => as_aux_lemma =>
          clear HC21
          try clear c1
          try clear c2
          try clear p2
          try clear c3
          try clear c6
          try clear c10
          try clear c11
          try clear c12
          try clear c13
          try clear c14
          try clear c15
          try clear c16
          try clear c16b0
          try clear c16b1
          try clear c17
          try clear c17b0
          try clear c17b1
          try clear c18
          try clear c18b0
          try clear c18b1
          try clear c22
          try clear c23
          try clear c23b0
          try clear c23b1
          try clear p2
          obtain ⟨kq, x15_20, rfl, HA, HJ20, HB⟩ := hcut
          cases kq with
          | zero => exact absurd HA.out (by simp [cohousinglaw03_CalendarMatchesReference.j1])
          | succ kj20 =>
            have H := HA.out
            clear HA
            simp only [cohousinglaw03_CalendarMatchesReference.j1] at H
            replace H := Option.bind_eq_some_iff.mp H
            obtain ⟨⟨t210, t211⟩, A240, H⟩ := H
            replace H : ((cohousingref03_Weekday.f a0).bind fun bt212 => (if x15_20 = true then (if t210 = bt212.1 then (cohousinglaw03_CalendarMatchesReference.j2 kj20 a0 a2 a4 a5 l6 (t211 == bt212.2)) else (cohousinglaw03_CalendarMatchesReference.j2 kj20 a0 a2 a4 a5 l6 false)) else (cohousinglaw03_CalendarMatchesReference.j2 kj20 a0 a2 a4 a5 l6 false))) = some r := H
            have A24 := Aside0.mk A240
            clear A240
            replace H := Option.bind_eq_some_iff.mp H
            obtain ⟨⟨t212, t213⟩, A250, H⟩ := H
            replace H : (if x15_20 = true then (if t210 = t212 then (cohousinglaw03_CalendarMatchesReference.j2 kj20 a0 a2 a4 a5 l6 (t211 == t213)) else (cohousinglaw03_CalendarMatchesReference.j2 kj20 a0 a2 a4 a5 l6 false)) else (cohousinglaw03_CalendarMatchesReference.j2 kj20 a0 a2 a4 a5 l6 false)) = some r := H
            have A25 := Aside0.mk A250
            clear A250
            have HC26 := Aside0.mk H
            clear H
            go_upto_region 12 with (first | ((with_reducible refine gate_callee (f := 17) rfl ?_); refine goesL_ (some 97) rfl rfl Tryd.func17 (by kernel_rfl) rfl #[.int .i64 a0] rfl (by (try simp only [List.map_toArray, List.map_cons, List.map_nil]); first | done | rfl | (simp only [List.length_drop, List.length_take]; rfl)) ?_; (with_reducible refine (calendar_Weekday.calls a0 t210 t211 _ A24.out).mono ?_); rintro e w' ⟨rfl, ⟨nd, rfl⟩⟩; refine ⟨_, rfl, ?_⟩) | ((with_reducible refine gate_callee (f := 18) rfl ?_); refine goesL_ (some 102) rfl rfl Tryd.func18 (by kernel_rfl) rfl #[.int .i64 a0] rfl (by (try simp only [List.map_toArray, List.map_cons, List.map_nil]); first | done | rfl | (simp only [List.length_drop, List.length_take]; rfl)) ?_; (with_reducible refine (cohousingref03_Weekday.calls a0 t212 t213 _ A25.out).mono ?_); rintro e w' ⟨rfl, ⟨nd, rfl⟩⟩; refine ⟨_, rfl, ?_⟩))
            (try simp only [Act.put, List.setIfInBounds_toArray, List.set_cons_zero, List.set_cons_succ])
            go_cut [15] (fun v15 wc => ∃ (kq : Nat) (x15_25 : Bool), v15 = .bool x15_25 ∧ Aside0 (cohousinglaw03_CalendarMatchesReference.j2 kq a0 a2 a4 a5 l6 x15_25 = some r) ∧ Aside0 (kq ≤ kj20) ∧ Aside0 (Below w.heap.size w wc))
            case first => as_aux_lemma =>
              have H := HC26.out
              clear HC26
              by_cases c27 : x15_20 = true
              · subst c27
                have H1 : (if t210 = t212 then (cohousinglaw03_CalendarMatchesReference.j2 kj20 a0 a2 a4 a5 l6 (t211 == t213)) else (cohousinglaw03_CalendarMatchesReference.j2 kj20 a0 a2 a4 a5 l6 false)) = some r := by rw [if_pos rfl] at H; exact H
                clear H
                have H := H1
                clear H1
                by_cases c28 : t210 = t212
                · rw [if_pos c28] at H
                  have c28b0 : (t210 == t212) = true := beq_iff_eq.mpr c28
                  have c28b1 : (t210 != t212) = false := bne_eq_false_iff_eq.mpr c28
                  clear c28
                  (first | rw [c28b0] | (simp only [i64_w, i32_w]; rw [c28b0]) | skip)
                  have H' := Aside0.mk H
                  clear H
                  go_wp2
                  go_meet
                  case rel => exact ⟨_, ((t211 == t213)), (by first | rfl | (simp; done) | (simp [*]; done)), H', ⟨by have := HJ12.out; have := HJ20.out; first | omega | exact Nat.le_refl _⟩, ⟨by repeat (first | (with_reducible first | exact HB.out | apply below_alloc | apply pw_below_drewN | apply below_drew1) | exact HB.out)⟩⟩
                · rw [if_neg c28] at H
                  have c28b0 : (t210 == t212) = false := beq_eq_false_iff_ne.mpr c28
                  have c28b1 : (t210 != t212) = true := bne_iff_ne.mpr c28
                  (first | rw [c28b0] | (simp only [i64_w, i32_w]; rw [c28b0]) | skip)
                  have H' := Aside0.mk H
                  clear H
                  go_wp2
                  go_meet
                  case rel => exact ⟨_, (false), (by first | rfl | (simp; done) | (simp [*]; done)), H', ⟨by have := HJ12.out; have := HJ20.out; first | omega | exact Nat.le_refl _⟩, ⟨by repeat (first | (with_reducible first | exact HB.out | apply below_alloc | apply pw_below_drewN | apply below_drew1) | exact HB.out)⟩⟩
              · replace c27 := Bool.eq_false_iff.mpr c27
                subst c27
                have H1 : (cohousinglaw03_CalendarMatchesReference.j2 kj20 a0 a2 a4 a5 l6 false) = some r := by rw [if_neg (show ¬ (false = true) by decide)] at H; exact H
                clear H
                have H := H1
                clear H1
                have H' := Aside0.mk H
                clear H
                go_wp2
                go_meet
                case rel => exact ⟨_, (false), (by first | rfl | (simp; done) | (simp [*]; done)), H', ⟨by have := HJ12.out; have := HJ20.out; first | omega | exact Nat.le_refl _⟩, ⟨by repeat (first | (with_reducible first | exact HB.out | apply below_alloc | apply pw_below_drewN | apply below_drew1) | exact HB.out)⟩⟩
            case rest => as_aux_lemma =>
              clear HC26
              try clear c1
              try clear c2
              try clear p2
              try clear c3
              try clear c6
              try clear c10
              try clear c11
              try clear c12
              try clear c13
              try clear c14
              try clear c15
              try clear c16
              try clear c16b0
              try clear c16b1
              try clear c17
              try clear c17b0
              try clear c17b1
              try clear c18
              try clear c18b0
              try clear c18b1
              try clear c22
              try clear c23
              try clear c23b0
              try clear c23b1
              try clear c27
              try clear c28
              try clear c28b0
              try clear c28b1
              try clear p2
              obtain ⟨kq, x15_25, rfl, HA, HJ25, HB⟩ := hcut
              cases kq with
              | zero => exact absurd HA.out (by simp [cohousinglaw03_CalendarMatchesReference.j2])
              | succ kj25 =>
                have H := HA.out
                clear HA
                simp only [cohousinglaw03_CalendarMatchesReference.j2] at H
                replace H := Option.bind_eq_some_iff.mp H
                obtain ⟨⟨t214, t215⟩, A290, H⟩ := H
                replace H : ((cohousingref03_Month.f kj25 a0).bind fun bt216 => (if x15_25 = true then (if t214 = bt216.1 then (cohousinglaw03_CalendarMatchesReference.j3 kj25 a0 a2 a4 a5 l6 (t215 == bt216.2)) else (cohousinglaw03_CalendarMatchesReference.j3 kj25 a0 a2 a4 a5 l6 false)) else (cohousinglaw03_CalendarMatchesReference.j3 kj25 a0 a2 a4 a5 l6 false))) = some r := H
                have A29 := Aside0.mk A290
                clear A290
                replace H := Option.bind_eq_some_iff.mp H
                obtain ⟨⟨t216, t217⟩, A300, H⟩ := H
                replace H : (if x15_25 = true then (if t214 = t216 then (cohousinglaw03_CalendarMatchesReference.j3 kj25 a0 a2 a4 a5 l6 (t215 == t217)) else (cohousinglaw03_CalendarMatchesReference.j3 kj25 a0 a2 a4 a5 l6 false)) else (cohousinglaw03_CalendarMatchesReference.j3 kj25 a0 a2 a4 a5 l6 false)) = some r := H
                have A30 := Aside0.mk A300
                clear A300
                have HC31 := Aside0.mk H
                clear H
                go_upto_region 15 with (first | ((with_reducible refine gate_callee (f := 19) rfl ?_); refine goesL_ (some 118) rfl rfl Tryd.func19 (by kernel_rfl) rfl #[.int .i64 a0] rfl (by (try simp only [List.map_toArray, List.map_cons, List.map_nil]); first | done | rfl | (simp only [List.length_drop, List.length_take]; rfl)) ?_; (with_reducible refine (calendar_Month.calls kj25 a0 t214 t215 _ ?side1 A29.out).mono ?_); (case side1 => exact TabOK.below HTA.out (by repeat (first | (with_reducible first | exact HB.out | apply below_alloc | apply pw_below_drewN | apply below_drew1) | exact HB.out))); rintro e w' ⟨rfl, ⟨nd, rfl⟩⟩; refine ⟨_, rfl, ?_⟩) | ((with_reducible refine gate_callee (f := 20) rfl ?_); refine goesL_ (some 123) rfl rfl Tryd.func20 (by kernel_rfl) rfl #[.int .i64 a0] rfl (by (try simp only [List.map_toArray, List.map_cons, List.map_nil]); first | done | rfl | (simp only [List.length_drop, List.length_take]; rfl)) ?_; (with_reducible refine (cohousingref03_Month.calls kj25 a0 t216 t217 _ A30.out).mono ?_); rintro e w' ⟨rfl, ⟨nd, rfl⟩⟩; refine ⟨_, rfl, ?_⟩))
                (try simp only [Act.put, List.setIfInBounds_toArray, List.set_cons_zero, List.set_cons_succ])
                go_cut [15] (fun v15 wc => ∃ (kq : Nat) (x15_30 : Bool), v15 = .bool x15_30 ∧ Aside0 (cohousinglaw03_CalendarMatchesReference.j3 kq a0 a2 a4 a5 l6 x15_30 = some r) ∧ Aside0 (kq ≤ kj25) ∧ Aside0 (Below w.heap.size w wc))
                case first => as_aux_lemma =>
                  have H := HC31.out
                  clear HC31
                  by_cases c32 : x15_25 = true
                  · subst c32
                    have H1 : (if t214 = t216 then (cohousinglaw03_CalendarMatchesReference.j3 kj25 a0 a2 a4 a5 l6 (t215 == t217)) else (cohousinglaw03_CalendarMatchesReference.j3 kj25 a0 a2 a4 a5 l6 false)) = some r := by rw [if_pos rfl] at H; exact H
                    clear H
                    have H := H1
                    clear H1
                    by_cases c33 : t214 = t216
                    · rw [if_pos c33] at H
                      have c33b0 : (t214 == t216) = true := beq_iff_eq.mpr c33
                      have c33b1 : (t214 != t216) = false := bne_eq_false_iff_eq.mpr c33
                      clear c33
                      (first | rw [c33b0] | (simp only [i64_w, i32_w]; rw [c33b0]) | skip)
                      have H' := Aside0.mk H
                      clear H
                      go_wp2
                      go_meet
                      case rel => exact ⟨_, ((t215 == t217)), (by first | rfl | (simp; done) | (simp [*]; done)), H', ⟨by have := HJ12.out; have := HJ20.out; have := HJ25.out; first | omega | exact Nat.le_refl _⟩, ⟨by repeat (first | (with_reducible first | exact HB.out | apply below_alloc | apply pw_below_drewN | apply below_drew1) | exact HB.out)⟩⟩
                    · rw [if_neg c33] at H
                      have c33b0 : (t214 == t216) = false := beq_eq_false_iff_ne.mpr c33
                      have c33b1 : (t214 != t216) = true := bne_iff_ne.mpr c33
                      (first | rw [c33b0] | (simp only [i64_w, i32_w]; rw [c33b0]) | skip)
                      have H' := Aside0.mk H
                      clear H
                      go_wp2
                      go_meet
                      case rel => exact ⟨_, (false), (by first | rfl | (simp; done) | (simp [*]; done)), H', ⟨by have := HJ12.out; have := HJ20.out; have := HJ25.out; first | omega | exact Nat.le_refl _⟩, ⟨by repeat (first | (with_reducible first | exact HB.out | apply below_alloc | apply pw_below_drewN | apply below_drew1) | exact HB.out)⟩⟩
                  · replace c32 := Bool.eq_false_iff.mpr c32
                    subst c32
                    have H1 : (cohousinglaw03_CalendarMatchesReference.j3 kj25 a0 a2 a4 a5 l6 false) = some r := by rw [if_neg (show ¬ (false = true) by decide)] at H; exact H
                    clear H
                    have H := H1
                    clear H1
                    have H' := Aside0.mk H
                    clear H
                    go_wp2
                    go_meet
                    case rel => exact ⟨_, (false), (by first | rfl | (simp; done) | (simp [*]; done)), H', ⟨by have := HJ12.out; have := HJ20.out; have := HJ25.out; first | omega | exact Nat.le_refl _⟩, ⟨by repeat (first | (with_reducible first | exact HB.out | apply below_alloc | apply pw_below_drewN | apply below_drew1) | exact HB.out)⟩⟩
                case rest => as_aux_lemma =>
                  clear HC31
                  try clear c1
                  try clear c2
                  try clear p2
                  try clear c3
                  try clear c6
                  try clear c10
                  try clear c11
                  try clear c12
                  try clear c13
                  try clear c14
                  try clear c15
                  try clear c16
                  try clear c16b0
                  try clear c16b1
                  try clear c17
                  try clear c17b0
                  try clear c17b1
                  try clear c18
                  try clear c18b0
                  try clear c18b1
                  try clear c19
                  try clear c20
                  try clear c22
                  try clear c23
                  try clear c23b0
                  try clear c23b1
                  try clear c27
                  try clear c28
                  try clear c28b0
                  try clear c28b1
                  try clear c32
                  try clear c33
                  try clear c33b0
                  try clear c33b1
                  try clear p2
                  obtain ⟨kq, x15_30, rfl, HA, HJ30, HB⟩ := hcut
                  cases kq with
                  | zero => exact absurd HA.out (by simp [cohousinglaw03_CalendarMatchesReference.j3])
                  | succ kj30 =>
                    have H := HA.out
                    clear HA
                    simp only [cohousinglaw03_CalendarMatchesReference.j3] at H
                    replace H := Option.bind_eq_some_iff.mp H
                    obtain ⟨⟨t218, t219, t220⟩, A340, H⟩ := H
                    replace H : ((cohousingref03_Days.f kj30 a2).bind fun bt222 => (if x15_30 = true then (if (t218 == bt222.1 && (t219 == bt222.2.1)) = true then (cohousinglaw03_CalendarMatchesReference.j4 kj30 a0 a4 a5 l6 (t220 == bt222.2.2)) else (cohousinglaw03_CalendarMatchesReference.j4 kj30 a0 a4 a5 l6 false)) else (cohousinglaw03_CalendarMatchesReference.j4 kj30 a0 a4 a5 l6 false))) = some r := H
                    have A34 := Aside0.mk A340
                    clear A340
                    replace H := Option.bind_eq_some_iff.mp H
                    obtain ⟨⟨t222, t223, t224⟩, A350, H⟩ := H
                    replace H : (if x15_30 = true then (if (t218 == t222 && (t219 == t223)) = true then (cohousinglaw03_CalendarMatchesReference.j4 kj30 a0 a4 a5 l6 (t220 == t224)) else (cohousinglaw03_CalendarMatchesReference.j4 kj30 a0 a4 a5 l6 false)) else (cohousinglaw03_CalendarMatchesReference.j4 kj30 a0 a4 a5 l6 false)) = some r := H
                    have A35 := Aside0.mk A350
                    clear A350
                    have HC36 := Aside0.mk H
                    clear H
                    go_upto_region 18 with (first | ((with_reducible refine gate_callee (f := 21) rfl ?_); refine goesL_ (some 139) rfl rfl Tryd.func21 (by kernel_rfl) rfl #[.int .i64 a2] rfl (by (try simp only [List.map_toArray, List.map_cons, List.map_nil]); first | done | rfl | (simp only [List.length_drop, List.length_take]; rfl)) ?_; (with_reducible refine (calendar_Days.calls kj30 a2 t218 t219 t220 _ ?side1 A34.out).mono ?_); (case side1 => exact TabOK.below HTA.out (by repeat (first | (with_reducible first | exact HB.out | apply below_alloc | apply pw_below_drewN | apply below_drew1) | exact HB.out))); rintro e w37 ⟨rfl, hb⟩; refine ⟨_, rfl, ?_⟩; have n0_ := Aside0.mk (below_step (by repeat (first | (with_reducible first | exact HB.out | apply below_alloc | apply pw_below_drewN | apply below_drew1) | exact HB.out)) hb); clear HB; have HB := n0_; clear n0_; (try clear hb); (try clear hb2); (try clear hk); (try clear hi)) | ((with_reducible refine gate_dst (N := 26) rfl ?_); refine box_event ?hg (N := 26) ?hd (cs := #[.int .i64 0, .int .i64 0]) (t := 32) ?hr ?_; (case hd => rfl); (case hg => rfl); (case hr => first | (go_simp; done) | (go_simp; rfl)); intro gb221 hg w38 hbox hb; have n0_ := Aside0.mk (below_step (by repeat (first | (with_reducible first | exact HB.out | apply below_alloc | apply pw_below_drewN | apply below_drew1) | exact HB.out)) hb); have n1_ := Aside0.mk (hbox); have n2_ := Aside0.mk ((by rw [hg]; exact (below_size (by repeat (first | (with_reducible first | exact HB.out | apply below_alloc | apply pw_below_drewN | apply below_drew1) | exact HB.out))) : w.heap.size ≤ gb221)); have n3_ := Aside0.mk ((by rw [hg]; exact (below_size (by repeat (first | (with_reducible first | exact HB.out | apply below_alloc | apply pw_below_drewN | apply below_drew1) | exact HB.out))) : w.heap.size ≤ gb221)); clear HB; have HB := n0_; have BK221 := n1_; have GW221 := n2_; have GE221 := n3_; clear n0_ n1_ n2_ n3_; clear hb hbox hg; have hcz39_0 : w38.cell? ⟨gb221, 0, none⟩ = some (.int .i64 0) := (blk_cell BK221.out 0).trans rfl; have hcz39_1 : w38.cell? ⟨gb221, 1, none⟩ = some (.int .i64 0) := (blk_cell BK221.out 1).trans rfl; have hfz39_0 := blk_frozen BK221.out 0; have hfz39_1 := blk_frozen BK221.out 1) | ((with_reducible refine gate_callee (f := 22) rfl ?_); refine goesL_ (some 144) rfl rfl Tryd.func22 (by kernel_rfl) rfl #[.int .i64 a2] rfl (by (try simp only [List.map_toArray, List.map_cons, List.map_nil]); first | done | rfl | (simp only [List.length_drop, List.length_take]; rfl)) ?_; (with_reducible refine (cohousingref03_Days.calls kj30 a2 t222 t223 t224 _ A35.out).mono ?_); rintro e w40 ⟨rfl, hb⟩; refine ⟨_, rfl, ?_⟩; have n0_ := Aside0.mk (blk_below (g := gb221) (o := .cells #[.int .i64 t218, .int .i64 t219] 32 (0, 0)) (by (with_reducible repeat (first | refine blk_drewN ?_ _ | refine blk_drew ?_ | refine blk_alloc ?_ _)); refine blk_put (cs := #[.int .i64 t218, .int .i64 0]) ?_ 1 _ rfl; (with_reducible repeat (first | refine blk_drewN ?_ _ | refine blk_drew ?_ | refine blk_alloc ?_ _)); refine blk_put (cs := #[.int .i64 0, .int .i64 0]) ?_ 0 _ rfl; (with_reducible repeat (first | refine blk_drewN ?_ _ | refine blk_drew ?_ | refine blk_alloc ?_ _)); exact BK221.out) hb); have n1_ := Aside0.mk (below_step (by repeat (first | (with_reducible first | exact HB.out | apply below_alloc | apply pw_below_drewN | apply below_drew1 | refine below_set ?_ GE221.out) | exact HB.out)) hb); clear BK221; clear HB; have BK221 := n0_; have HB := n1_; clear n0_ n1_; (try clear hb); (try clear hb2); (try clear hk); (try clear hi)) | ((with_reducible refine gate_dst (N := 27) rfl ?_); refine box_event ?hg (N := 27) ?hd (cs := #[.int .i64 0, .int .i64 0]) (t := 32) ?hr ?_; (case hd => rfl); (case hg => rfl); (case hr => first | (go_simp; done) | (go_simp; rfl)); intro gb225 hg w41 hbox hb; have n0_ := Aside0.mk (blk_below (g := gb221) (o := .cells #[.int .i64 t218, .int .i64 t219] 32 (0, 0)) (by (with_reducible repeat (first | refine blk_drewN ?_ _ | refine blk_drew ?_ | refine blk_alloc ?_ _)); exact BK221.out) hb); have n1_ := Aside0.mk (below_step (by repeat (first | (with_reducible first | exact HB.out | apply below_alloc | apply pw_below_drewN | apply below_drew1 | refine below_set ?_ GE221.out) | exact HB.out)) hb); have n2_ := Aside0.mk (hbox); have n3_ := Aside0.mk ((by rw [hg]; exact (below_size (by repeat (first | (with_reducible first | exact HB.out | apply below_alloc | apply pw_below_drewN | apply below_drew1 | refine below_set ?_ GE221.out) | exact HB.out))) : w.heap.size ≤ gb225)); have n4_ := Aside0.mk ((by rw [hg]; exact (below_size (by repeat (first | (with_reducible first | exact HB.out | apply below_alloc | apply pw_below_drewN | apply below_drew1 | refine below_set ?_ GE221.out) | exact HB.out))) : w.heap.size ≤ gb225)); have n5_ := Aside0.mk ((by rw [hg]; exact Nat.ne_of_lt (blk_lt (g := gb221) (o := .cells #[.int .i64 t218, .int .i64 t219] 32 (0, 0)) (by (with_reducible repeat (first | refine blk_drewN ?_ _ | refine blk_drew ?_ | refine blk_alloc ?_ _)); exact BK221.out)) : gb221 ≠ gb225)); have n6_ := Aside0.mk ((by rw [hg]; exact Nat.ne_of_gt (blk_lt (g := gb221) (o := .cells #[.int .i64 t218, .int .i64 t219] 32 (0, 0)) (by (with_reducible repeat (first | refine blk_drewN ?_ _ | refine blk_drew ?_ | refine blk_alloc ?_ _)); exact BK221.out)) : gb225 ≠ gb221)); clear BK221; clear HB; have BK221 := n0_; have HB := n1_; have BK225 := n2_; have GW225 := n3_; have GE225 := n4_; have NB221_225 := n5_; have NB225_221 := n6_; clear n0_ n1_ n2_ n3_ n4_ n5_ n6_; clear hb hbox hg; have hnb42 := NB225_221.out; have hnc42 := NB221_225.out; have hcz43_0 : w41.cell? ⟨gb225, 0, none⟩ = some (.int .i64 0) := (blk_cell BK225.out 0).trans rfl; have hcz43_1 : w41.cell? ⟨gb225, 1, none⟩ = some (.int .i64 0) := (blk_cell BK225.out 1).trans rfl; have hfz43_0 := blk_frozen BK225.out 0; have hfz43_1 := blk_frozen BK225.out 1))
                    (try simp only [Act.put, List.setIfInBounds_toArray, List.set_cons_zero, List.set_cons_succ])
                    go_cut [15] (fun v15 wc => ∃ (kq : Nat) (x15_35 : Bool), v15 = .bool x15_35 ∧ Aside0 (cohousinglaw03_CalendarMatchesReference.j4 kq a0 a4 a5 l6 x15_35 = some r) ∧ Aside0 (kq ≤ kj30) ∧ Aside0 (wc.heap[gb221]? = some (.cells #[.int .i64 t218, .int .i64 t219] 32 (0, 0))) ∧ Aside0 (wc.heap[gb225]? = some (.cells #[.int .i64 t222, .int .i64 t223] 32 (0, 0))) ∧ Aside0 (Below w.heap.size w wc))
                    case first => as_aux_lemma =>
                      have H := HC36.out
                      clear HC36
                      by_cases c44 : x15_30 = true
                      · subst c44
                        have H1 : (if (t218 == t222 && (t219 == t223)) = true then (cohousinglaw03_CalendarMatchesReference.j4 kj30 a0 a4 a5 l6 (t220 == t224)) else (cohousinglaw03_CalendarMatchesReference.j4 kj30 a0 a4 a5 l6 false)) = some r := by rw [if_pos rfl] at H; exact H
                        clear H
                        have H := H1
                        clear H1
                        by_cases c45 : (t218 == t222 && (t219 == t223)) = true
                        · rw [if_pos c45] at H
                          have c45b0 : (t218 == t222 && (t219 == t223)) = true := c45
                          (try (have c45b1 : decide (t218 = t222 && (t219 == t223)) = true := by simpa using c45))
                          (try (have c45b2 : (t218 == t222 && (t219 == t223)) = true := by simpa using c45))
                          clear c45
                          (first | rw [c45b0] | (simp only [i64_w, i32_w]; rw [c45b0]) | skip)
                          have H' := Aside0.mk H
                          clear H
                          have hnb46 := NB221_225.out
                          have hnc46 := NB225_221.out
                          have hcz47_0 : w41.cell? ⟨gb221, 0, none⟩ = some (.int .i64 t218) := (blk_cell BK221.out 0).trans rfl
                          have hcz47_1 : w41.cell? ⟨gb221, 1, none⟩ = some (.int .i64 t219) := (blk_cell BK221.out 1).trans rfl
                          have hfz47_0 := blk_frozen BK221.out 0
                          have hfz47_1 := blk_frozen BK221.out 1
                          have hcz48_0 : w41.cell? ⟨gb225, 0, none⟩ = some (.int .i64 0) := (blk_cell BK225.out 0).trans rfl
                          have hcz48_1 : w41.cell? ⟨gb225, 1, none⟩ = some (.int .i64 0) := (blk_cell BK225.out 1).trans rfl
                          have hfz48_0 := blk_frozen BK225.out 0
                          have hfz48_1 := blk_frozen BK225.out 1
                          go_wp2
                          go_meet
                          case rel => exact ⟨_, ((t220 == t224)), (by first | rfl | (simp; done) | (simp [*]; done)), H', ⟨by have := HJ12.out; have := HJ20.out; have := HJ25.out; have := HJ30.out; first | omega | exact Nat.le_refl _⟩, ⟨by (with_reducible repeat (first | refine blk_drewN ?_ _ | refine blk_drew ?_ | refine blk_alloc ?_ _)); refine blk_far ?_ NB221_225.out _; (with_reducible repeat (first | refine blk_drewN ?_ _ | refine blk_drew ?_ | refine blk_alloc ?_ _)); refine blk_far ?_ NB221_225.out _; (with_reducible repeat (first | refine blk_drewN ?_ _ | refine blk_drew ?_ | refine blk_alloc ?_ _)); exact BK221.out⟩, ⟨by (with_reducible repeat (first | refine blk_drewN ?_ _ | refine blk_drew ?_ | refine blk_alloc ?_ _)); refine blk_put (cs := #[.int .i64 t222, .int .i64 0]) ?_ 1 _ rfl; (with_reducible repeat (first | refine blk_drewN ?_ _ | refine blk_drew ?_ | refine blk_alloc ?_ _)); refine blk_put (cs := #[.int .i64 0, .int .i64 0]) ?_ 0 _ rfl; (with_reducible repeat (first | refine blk_drewN ?_ _ | refine blk_drew ?_ | refine blk_alloc ?_ _)); exact BK225.out⟩, ⟨by repeat (first | (with_reducible first | exact HB.out | apply below_alloc | apply pw_below_drewN | apply below_drew1 | refine below_set ?_ GE221.out | refine below_set ?_ GE225.out) | exact HB.out)⟩⟩
                        · rw [if_neg c45] at H
                          have c45b0 : (t218 == t222 && (t219 == t223)) = false := by simpa using c45
                          (try (have c45b1 : decide (t218 = t222 && (t219 == t223)) = false := by simpa using c45))
                          (try (have c45b2 : (t218 == t222 && (t219 == t223)) = false := by simpa using c45))
                          (try (have c45b3 : ¬ (t218 = t222 && (t219 == t223)) := by simpa using c45))
                          clear c45
                          (first | rw [c45b0] | (simp only [i64_w, i32_w]; rw [c45b0]) | skip)
                          have H' := Aside0.mk H
                          clear H
                          have hnb49 := NB221_225.out
                          have hnc49 := NB225_221.out
                          have hcz50_0 : w41.cell? ⟨gb221, 0, none⟩ = some (.int .i64 t218) := (blk_cell BK221.out 0).trans rfl
                          have hcz50_1 : w41.cell? ⟨gb221, 1, none⟩ = some (.int .i64 t219) := (blk_cell BK221.out 1).trans rfl
                          have hfz50_0 := blk_frozen BK221.out 0
                          have hfz50_1 := blk_frozen BK221.out 1
                          have hcz51_0 : w41.cell? ⟨gb225, 0, none⟩ = some (.int .i64 0) := (blk_cell BK225.out 0).trans rfl
                          have hcz51_1 : w41.cell? ⟨gb225, 1, none⟩ = some (.int .i64 0) := (blk_cell BK225.out 1).trans rfl
                          have hfz51_0 := blk_frozen BK225.out 0
                          have hfz51_1 := blk_frozen BK225.out 1
                          go_wp2
                          go_meet
                          case rel => exact ⟨_, (false), (by first | rfl | (simp; done) | (simp [*]; done)), H', ⟨by have := HJ12.out; have := HJ20.out; have := HJ25.out; have := HJ30.out; first | omega | exact Nat.le_refl _⟩, ⟨by (with_reducible repeat (first | refine blk_drewN ?_ _ | refine blk_drew ?_ | refine blk_alloc ?_ _)); refine blk_far ?_ NB221_225.out _; (with_reducible repeat (first | refine blk_drewN ?_ _ | refine blk_drew ?_ | refine blk_alloc ?_ _)); refine blk_far ?_ NB221_225.out _; (with_reducible repeat (first | refine blk_drewN ?_ _ | refine blk_drew ?_ | refine blk_alloc ?_ _)); exact BK221.out⟩, ⟨by (with_reducible repeat (first | refine blk_drewN ?_ _ | refine blk_drew ?_ | refine blk_alloc ?_ _)); refine blk_put (cs := #[.int .i64 t222, .int .i64 0]) ?_ 1 _ rfl; (with_reducible repeat (first | refine blk_drewN ?_ _ | refine blk_drew ?_ | refine blk_alloc ?_ _)); refine blk_put (cs := #[.int .i64 0, .int .i64 0]) ?_ 0 _ rfl; (with_reducible repeat (first | refine blk_drewN ?_ _ | refine blk_drew ?_ | refine blk_alloc ?_ _)); exact BK225.out⟩, ⟨by repeat (first | (with_reducible first | exact HB.out | apply below_alloc | apply pw_below_drewN | apply below_drew1 | refine below_set ?_ GE221.out | refine below_set ?_ GE225.out) | exact HB.out)⟩⟩
                      · replace c44 := Bool.eq_false_iff.mpr c44
                        subst c44
                        have H1 : (cohousinglaw03_CalendarMatchesReference.j4 kj30 a0 a4 a5 l6 false) = some r := by rw [if_neg (show ¬ (false = true) by decide)] at H; exact H
                        clear H
                        have H := H1
                        clear H1
                        have H' := Aside0.mk H
                        clear H
                        go_wp2
                        go_meet
                        case rel => exact ⟨_, (false), (by first | rfl | (simp; done) | (simp [*]; done)), H', ⟨by have := HJ12.out; have := HJ20.out; have := HJ25.out; have := HJ30.out; first | omega | exact Nat.le_refl _⟩, ⟨by (with_reducible repeat (first | refine blk_drewN ?_ _ | refine blk_drew ?_ | refine blk_alloc ?_ _)); refine blk_far ?_ NB221_225.out _; (with_reducible repeat (first | refine blk_drewN ?_ _ | refine blk_drew ?_ | refine blk_alloc ?_ _)); refine blk_far ?_ NB221_225.out _; (with_reducible repeat (first | refine blk_drewN ?_ _ | refine blk_drew ?_ | refine blk_alloc ?_ _)); exact BK221.out⟩, ⟨by (with_reducible repeat (first | refine blk_drewN ?_ _ | refine blk_drew ?_ | refine blk_alloc ?_ _)); refine blk_put (cs := #[.int .i64 t222, .int .i64 0]) ?_ 1 _ rfl; (with_reducible repeat (first | refine blk_drewN ?_ _ | refine blk_drew ?_ | refine blk_alloc ?_ _)); refine blk_put (cs := #[.int .i64 0, .int .i64 0]) ?_ 0 _ rfl; (with_reducible repeat (first | refine blk_drewN ?_ _ | refine blk_drew ?_ | refine blk_alloc ?_ _)); exact BK225.out⟩, ⟨by repeat (first | (with_reducible first | exact HB.out | apply below_alloc | apply pw_below_drewN | apply below_drew1 | refine below_set ?_ GE221.out | refine below_set ?_ GE225.out) | exact HB.out)⟩⟩
                    case rest => as_aux_lemma =>
                      clear HC36
                      try clear c1
                      try clear c2
                      try clear p2
                      try clear c3
                      try clear c4
                      try clear c6
                      try clear c10
                      try clear c11
                      try clear c12
                      try clear c13
                      try clear c14
                      try clear c15
                      try clear c16
                      try clear c16b0
                      try clear c16b1
                      try clear c17
                      try clear c17b0
                      try clear c17b1
                      try clear c18
                      try clear c18b0
                      try clear c18b1
                      try clear c19
                      try clear c20
                      try clear c21
                      try clear c22
                      try clear c23
                      try clear c23b0
                      try clear c23b1
                      try clear c27
                      try clear c28
                      try clear c28b0
                      try clear c28b1
                      try clear c32
                      try clear c33
                      try clear c33b0
                      try clear c33b1
                      try clear c42
                      try clear c44
                      try clear c45
                      try clear c45b0
                      try clear c45b1
                      try clear c45b2
                      try clear c46
                      try clear c49
                      try clear hcz39_0
                      try clear hcz39_1
                      try clear hcz43_0
                      try clear hcz43_1
                      try clear hcz47_0
                      try clear hcz47_1
                      try clear hcz48_0
                      try clear hcz48_1
                      try clear hcz50_0
                      try clear hcz50_1
                      try clear hcz51_0
                      try clear hcz51_1
                      try clear hfz39_0
                      try clear hfz39_1
                      try clear hfz43_0
                      try clear hfz43_1
                      try clear hfz47_0
                      try clear hfz47_1
                      try clear hfz48_0
                      try clear hfz48_1
                      try clear hfz50_0
                      try clear hfz50_1
                      try clear hfz51_0
                      try clear hfz51_1
                      try clear p2
                      obtain ⟨kq, x15_35, rfl, HA, HJ35, BK221, BK225, HB⟩ := hcut
                      cases kq with
                      | zero => exact absurd HA.out (by simp [cohousinglaw03_CalendarMatchesReference.j4])
                      | succ kj35 =>
                        have H := HA.out
                        clear HA
                        simp only [cohousinglaw03_CalendarMatchesReference.j4] at H
                        replace H := Option.bind_eq_some_iff.mp H
                        obtain ⟨⟨t226, t227⟩, A520, H⟩ := H
                        replace H : ((cohousingref03_Working.f kj35 a0 l6).bind fun bt228 => (if x15_35 = true then (if (t226 == bt228.1) = true then (cohousinglaw03_CalendarMatchesReference.j5 kj35 a0 a4 a5 l6 (t227 == bt228.2)) else (cohousinglaw03_CalendarMatchesReference.j5 kj35 a0 a4 a5 l6 false)) else (cohousinglaw03_CalendarMatchesReference.j5 kj35 a0 a4 a5 l6 false))) = some r := H
                        have A52 := Aside0.mk A520
                        clear A520
                        replace H := Option.bind_eq_some_iff.mp H
                        obtain ⟨⟨t228, t229⟩, A530, H⟩ := H
                        replace H : (if x15_35 = true then (if (t226 == t228) = true then (cohousinglaw03_CalendarMatchesReference.j5 kj35 a0 a4 a5 l6 (t227 == t229)) else (cohousinglaw03_CalendarMatchesReference.j5 kj35 a0 a4 a5 l6 false)) else (cohousinglaw03_CalendarMatchesReference.j5 kj35 a0 a4 a5 l6 false)) = some r := H
                        have A53 := Aside0.mk A530
                        clear A530
                        have HC54 := Aside0.mk H
                        clear H
                        go_upto_region 21 with (first | ((with_reducible refine gate_callee (f := 23) rfl ?_); refine goesL_ (some 161) rfl rfl Tryd.func23 (by kernel_rfl) rfl #[.int .i64 a0, .slice A6 l6.length c6] rfl (by (try simp only [List.map_toArray, List.map_cons, List.map_nil]); first | done | rfl | (simp only [List.length_drop, List.length_take]; rfl)) ?_; (with_reducible refine (calendar_Working.calls kj35 a0 _ _ l6 t226 t227 _ ?side1 ?side2 A52.out).mono ?_); (case side1 => repeat (first | exact (Kd.C_below HR6.out HB.out) | (with_reducible refine Kd.C_alloc ?_ _) | (with_reducible refine Kd.C_drewN ?_ _) | (with_reducible refine Kd.C_drew ?_))); (case side2 => exact HC6.out); rintro e w' ⟨rfl, ⟨nd, rfl⟩⟩; refine ⟨_, rfl, ?_⟩) | ((with_reducible refine gate_callee (f := 24) rfl ?_); refine goesL_ (some 167) rfl rfl Tryd.func24 (by kernel_rfl) rfl #[.int .i64 a0, .slice A6 l6.length c6] rfl (by (try simp only [List.map_toArray, List.map_cons, List.map_nil]); first | done | rfl | (simp only [List.length_drop, List.length_take]; rfl)) ?_; (with_reducible refine (cohousingref03_Working.calls kj35 a0 _ _ l6 t228 t229 _ ?side1 ?side2 A53.out).mono ?_); (case side1 => repeat (first | exact (Kd.C_below HR6.out (by repeat (first | (with_reducible first | exact HB.out | apply below_alloc | apply pw_below_drewN | apply below_drew1 | refine below_set ?_ GE221.out | refine below_set ?_ GE225.out) | exact HB.out))) | (with_reducible refine Kd.C_alloc ?_ _) | (with_reducible refine Kd.C_drewN ?_ _) | (with_reducible refine Kd.C_drew ?_))); (case side2 => exact HC6.out); rintro e w' ⟨rfl, ⟨nd, rfl⟩⟩; refine ⟨_, rfl, ?_⟩))
                        (try simp only [Act.put, List.setIfInBounds_toArray, List.set_cons_zero, List.set_cons_succ])
                        go_cut [15] (fun v15 wc => ∃ (kq : Nat) (x15_53 : Bool), v15 = .bool x15_53 ∧ Aside0 (cohousinglaw03_CalendarMatchesReference.j5 kq a0 a4 a5 l6 x15_53 = some r) ∧ Aside0 (kq ≤ kj35) ∧ Aside0 (wc.heap[gb221]? = some (.cells #[.int .i64 t218, .int .i64 t219] 32 (0, 0))) ∧ Aside0 (wc.heap[gb225]? = some (.cells #[.int .i64 t222, .int .i64 t223] 32 (0, 0))) ∧ Aside0 (Below w.heap.size w wc))
                        case first => as_aux_lemma =>
                          have H := HC54.out
                          clear HC54
                          by_cases c55 : x15_35 = true
                          · subst c55
                            have H1 : (if (t226 == t228) = true then (cohousinglaw03_CalendarMatchesReference.j5 kj35 a0 a4 a5 l6 (t227 == t229)) else (cohousinglaw03_CalendarMatchesReference.j5 kj35 a0 a4 a5 l6 false)) = some r := by rw [if_pos rfl] at H; exact H
                            clear H
                            have H := H1
                            clear H1
                            by_cases c56 : (t226 == t228) = true
                            · rw [if_pos c56] at H
                              have c56b0 : (t226 == t228) = true := c56
                              (try (have c56b1 : decide (t226 = t228) = true := by simpa using c56))
                              (try (have c56b2 : (t226 == t228) = true := by simpa using c56))
                              clear c56
                              (first | rw [c56b0] | (simp only [i64_w, i32_w]; rw [c56b0]) | skip)
                              have H' := Aside0.mk H
                              clear H
                              go_wp2
                              go_meet
                              case rel => exact ⟨_, ((t227 == t229)), (by first | rfl | (simp; done) | (simp [*]; done)), H', ⟨by have := HJ12.out; have := HJ20.out; have := HJ25.out; have := HJ30.out; have := HJ35.out; first | omega | exact Nat.le_refl _⟩, ⟨by (with_reducible repeat (first | refine blk_drewN ?_ _ | refine blk_drew ?_ | refine blk_alloc ?_ _)); exact BK221.out⟩, ⟨by (with_reducible repeat (first | refine blk_drewN ?_ _ | refine blk_drew ?_ | refine blk_alloc ?_ _)); exact BK225.out⟩, ⟨by repeat (first | (with_reducible first | exact HB.out | apply below_alloc | apply pw_below_drewN | apply below_drew1 | refine below_set ?_ GE221.out | refine below_set ?_ GE225.out) | exact HB.out)⟩⟩
                            · rw [if_neg c56] at H
                              have c56b0 : (t226 == t228) = false := by simpa using c56
                              (try (have c56b1 : decide (t226 = t228) = false := by simpa using c56))
                              (try (have c56b2 : (t226 == t228) = false := by simpa using c56))
                              (try (have c56b3 : ¬ (t226 = t228) := by simpa using c56))
                              clear c56
                              (first | rw [c56b0] | (simp only [i64_w, i32_w]; rw [c56b0]) | skip)
                              have H' := Aside0.mk H
                              clear H
                              go_wp2
                              go_meet
                              case rel => exact ⟨_, (false), (by first | rfl | (simp; done) | (simp [*]; done)), H', ⟨by have := HJ12.out; have := HJ20.out; have := HJ25.out; have := HJ30.out; have := HJ35.out; first | omega | exact Nat.le_refl _⟩, ⟨by (with_reducible repeat (first | refine blk_drewN ?_ _ | refine blk_drew ?_ | refine blk_alloc ?_ _)); exact BK221.out⟩, ⟨by (with_reducible repeat (first | refine blk_drewN ?_ _ | refine blk_drew ?_ | refine blk_alloc ?_ _)); exact BK225.out⟩, ⟨by repeat (first | (with_reducible first | exact HB.out | apply below_alloc | apply pw_below_drewN | apply below_drew1 | refine below_set ?_ GE221.out | refine below_set ?_ GE225.out) | exact HB.out)⟩⟩
                          · replace c55 := Bool.eq_false_iff.mpr c55
                            subst c55
                            have H1 : (cohousinglaw03_CalendarMatchesReference.j5 kj35 a0 a4 a5 l6 false) = some r := by rw [if_neg (show ¬ (false = true) by decide)] at H; exact H
                            clear H
                            have H := H1
                            clear H1
                            have H' := Aside0.mk H
                            clear H
                            go_wp2
                            go_meet
                            case rel => exact ⟨_, (false), (by first | rfl | (simp; done) | (simp [*]; done)), H', ⟨by have := HJ12.out; have := HJ20.out; have := HJ25.out; have := HJ30.out; have := HJ35.out; first | omega | exact Nat.le_refl _⟩, ⟨by (with_reducible repeat (first | refine blk_drewN ?_ _ | refine blk_drew ?_ | refine blk_alloc ?_ _)); exact BK221.out⟩, ⟨by (with_reducible repeat (first | refine blk_drewN ?_ _ | refine blk_drew ?_ | refine blk_alloc ?_ _)); exact BK225.out⟩, ⟨by repeat (first | (with_reducible first | exact HB.out | apply below_alloc | apply pw_below_drewN | apply below_drew1 | refine below_set ?_ GE221.out | refine below_set ?_ GE225.out) | exact HB.out)⟩⟩
                        case rest => as_aux_lemma =>
                          clear HC54
                          try clear c1
                          try clear c2
                          try clear p2
                          try clear c3
                          try clear c4
                          try clear c5
                          try clear c6
                          try clear c10
                          try clear c11
                          try clear c12
                          try clear c13
                          try clear c14
                          try clear c15
                          try clear c16
                          try clear c16b0
                          try clear c16b1
                          try clear c17
                          try clear c17b0
                          try clear c17b1
                          try clear c18
                          try clear c18b0
                          try clear c18b1
                          try clear c19
                          try clear c20
                          try clear c21
                          try clear c22
                          try clear c23
                          try clear c23b0
                          try clear c23b1
                          try clear c24
                          try clear c27
                          try clear c28
                          try clear c28b0
                          try clear c28b1
                          try clear c32
                          try clear c33
                          try clear c33b0
                          try clear c33b1
                          try clear c42
                          try clear c44
                          try clear c45
                          try clear c45b0
                          try clear c45b1
                          try clear c45b2
                          try clear c46
                          try clear c49
                          try clear c55
                          try clear c56
                          try clear c56b0
                          try clear c56b1
                          try clear c56b2
                          try clear hcz39_0
                          try clear hcz39_1
                          try clear hcz43_0
                          try clear hcz43_1
                          try clear hcz47_0
                          try clear hcz47_1
                          try clear hcz48_0
                          try clear hcz48_1
                          try clear hcz50_0
                          try clear hcz50_1
                          try clear hcz51_0
                          try clear hcz51_1
                          try clear hfz39_0
                          try clear hfz39_1
                          try clear hfz43_0
                          try clear hfz43_1
                          try clear hfz47_0
                          try clear hfz47_1
                          try clear hfz48_0
                          try clear hfz48_1
                          try clear hfz50_0
                          try clear hfz50_1
                          try clear hfz51_0
                          try clear hfz51_1
                          try clear p2
                          obtain ⟨kq, x15_53, rfl, HA, HJ53, BK221, BK225, HB⟩ := hcut
                          cases kq with
                          | zero => exact absurd HA.out (by simp [cohousinglaw03_CalendarMatchesReference.j5])
                          | succ kj53 =>
                            have H := HA.out
                            clear HA
                            simp only [cohousinglaw03_CalendarMatchesReference.j5] at H
                            replace H := Option.bind_eq_some_iff.mp H
                            obtain ⟨⟨t230, t231⟩, A570, H⟩ := H
                            replace H : ((cohousingref03_Deadline.f kj53 a0 a4 a5 l6).bind fun bt232 => (if x15_53 = true then (if t230 = bt232.1 then (some (t231 == bt232.2)) else (some false)) else (some false))) = some r := H
                            have A57 := Aside0.mk A570
                            clear A570
                            replace H := Option.bind_eq_some_iff.mp H
                            obtain ⟨⟨t232, t233⟩, A580, H⟩ := H
                            replace H : (if x15_53 = true then (if t230 = t232 then (some (t231 == t233)) else (some false)) else (some false)) = some r := H
                            have A58 := Aside0.mk A580
                            clear A580
                            by_cases c59 : x15_53 = true
                            · subst c59
                              have H1 : (if t230 = t232 then (some (t231 == t233)) else (some false)) = some r := by rw [if_pos rfl] at H; exact H
                              clear H
                              have H := H1
                              clear H1
                              by_cases c60 : t230 = t232
                              · rw [if_pos c60] at H
                                have c60b0 : (t230 == t232) = true := beq_iff_eq.mpr c60
                                have c60b1 : (t230 != t232) = false := bne_eq_false_iff_eq.mpr c60
                                clear c60
                                obtain rfl := Option.some.inj H
                                go_wp2_with (first | ((with_reducible refine gate_callee (f := 25) rfl ?_); refine goesL_ (some 186) rfl rfl Tryd.func25 (by kernel_rfl) rfl #[.int .i64 a0, .int .i64 a4, .int .i64 a5, .slice A6 l6.length c6] rfl (by (try simp only [List.map_toArray, List.map_cons, List.map_nil]); first | done | rfl | (simp only [List.length_drop, List.length_take]; rfl)) ?_; (with_reducible refine (calendar_Deadline.calls kj53 a0 a4 a5 _ _ l6 t230 t231 _ ?side1 ?side2 A57.out).mono ?_); (case side1 => repeat (first | exact (Kd.C_below HR6.out HB.out) | (with_reducible refine Kd.C_alloc ?_ _) | (with_reducible refine Kd.C_drewN ?_ _) | (with_reducible refine Kd.C_drew ?_))); (case side2 => exact HC6.out); rintro e w' ⟨rfl, ⟨nd, rfl⟩⟩; refine ⟨_, rfl, ?_⟩) | ((with_reducible refine gate_callee (f := 26) rfl ?_); refine goesL_ (some 194) rfl rfl Tryd.func26 (by kernel_rfl) rfl #[.int .i64 a0, .int .i64 a4, .int .i64 a5, .slice A6 l6.length c6] rfl (by (try simp only [List.map_toArray, List.map_cons, List.map_nil]); first | done | rfl | (simp only [List.length_drop, List.length_take]; rfl)) ?_; (with_reducible refine (cohousingref03_Deadline.calls kj53 a0 a4 a5 _ _ l6 t232 t233 _ ?side1 ?side2 A58.out).mono ?_); (case side1 => repeat (first | exact (Kd.C_below HR6.out (by repeat (first | (with_reducible first | exact HB.out | apply below_alloc | apply pw_below_drewN | apply below_drew1 | refine below_set ?_ GE221.out | refine below_set ?_ GE225.out) | exact HB.out))) | (with_reducible refine Kd.C_alloc ?_ _) | (with_reducible refine Kd.C_drewN ?_ _) | (with_reducible refine Kd.C_drew ?_))); (case side2 => exact HC6.out); rintro e w' ⟨rfl, ⟨nd, rfl⟩⟩; refine ⟨_, rfl, ?_⟩))
                                go_ret
                                exact ⟨by first | rfl | (simp [errW_none, errW_some] <;> rfl) | (simp [*, errW_none, errW_some] <;> rfl), by repeat (first | (with_reducible first | exact HB.out | apply below_alloc | apply pw_below_drewN | apply below_drew1 | refine below_set ?_ GE221.out | refine below_set ?_ GE225.out) | exact HB.out)⟩
                              · rw [if_neg c60] at H
                                have c60b0 : (t230 == t232) = false := beq_eq_false_iff_ne.mpr c60
                                have c60b1 : (t230 != t232) = true := bne_iff_ne.mpr c60
                                obtain rfl := Option.some.inj H
                                go_wp2_with (first | ((with_reducible refine gate_callee (f := 25) rfl ?_); refine goesL_ (some 186) rfl rfl Tryd.func25 (by kernel_rfl) rfl #[.int .i64 a0, .int .i64 a4, .int .i64 a5, .slice A6 l6.length c6] rfl (by (try simp only [List.map_toArray, List.map_cons, List.map_nil]); first | done | rfl | (simp only [List.length_drop, List.length_take]; rfl)) ?_; (with_reducible refine (calendar_Deadline.calls kj53 a0 a4 a5 _ _ l6 t230 t231 _ ?side1 ?side2 A57.out).mono ?_); (case side1 => repeat (first | exact (Kd.C_below HR6.out HB.out) | (with_reducible refine Kd.C_alloc ?_ _) | (with_reducible refine Kd.C_drewN ?_ _) | (with_reducible refine Kd.C_drew ?_))); (case side2 => exact HC6.out); rintro e w' ⟨rfl, ⟨nd, rfl⟩⟩; refine ⟨_, rfl, ?_⟩) | ((with_reducible refine gate_callee (f := 26) rfl ?_); refine goesL_ (some 194) rfl rfl Tryd.func26 (by kernel_rfl) rfl #[.int .i64 a0, .int .i64 a4, .int .i64 a5, .slice A6 l6.length c6] rfl (by (try simp only [List.map_toArray, List.map_cons, List.map_nil]); first | done | rfl | (simp only [List.length_drop, List.length_take]; rfl)) ?_; (with_reducible refine (cohousingref03_Deadline.calls kj53 a0 a4 a5 _ _ l6 t232 t233 _ ?side1 ?side2 A58.out).mono ?_); (case side1 => repeat (first | exact (Kd.C_below HR6.out (by repeat (first | (with_reducible first | exact HB.out | apply below_alloc | apply pw_below_drewN | apply below_drew1 | refine below_set ?_ GE221.out | refine below_set ?_ GE225.out) | exact HB.out))) | (with_reducible refine Kd.C_alloc ?_ _) | (with_reducible refine Kd.C_drewN ?_ _) | (with_reducible refine Kd.C_drew ?_))); (case side2 => exact HC6.out); rintro e w' ⟨rfl, ⟨nd, rfl⟩⟩; refine ⟨_, rfl, ?_⟩))
                                go_ret
                                exact ⟨by first | rfl | (simp [errW_none, errW_some] <;> rfl) | (simp [*, errW_none, errW_some] <;> rfl), by repeat (first | (with_reducible first | exact HB.out | apply below_alloc | apply pw_below_drewN | apply below_drew1 | refine below_set ?_ GE221.out | refine below_set ?_ GE225.out) | exact HB.out)⟩
                            · replace c59 := Bool.eq_false_iff.mpr c59
                              subst c59
                              have H1 : (some false) = some r := by rw [if_neg (show ¬ (false = true) by decide)] at H; exact H
                              clear H
                              have H := H1
                              clear H1
                              obtain rfl := Option.some.inj H
                              go_wp2_with (first | ((with_reducible refine gate_callee (f := 25) rfl ?_); refine goesL_ (some 186) rfl rfl Tryd.func25 (by kernel_rfl) rfl #[.int .i64 a0, .int .i64 a4, .int .i64 a5, .slice A6 l6.length c6] rfl (by (try simp only [List.map_toArray, List.map_cons, List.map_nil]); first | done | rfl | (simp only [List.length_drop, List.length_take]; rfl)) ?_; (with_reducible refine (calendar_Deadline.calls kj53 a0 a4 a5 _ _ l6 t230 t231 _ ?side1 ?side2 A57.out).mono ?_); (case side1 => repeat (first | exact (Kd.C_below HR6.out HB.out) | (with_reducible refine Kd.C_alloc ?_ _) | (with_reducible refine Kd.C_drewN ?_ _) | (with_reducible refine Kd.C_drew ?_))); (case side2 => exact HC6.out); rintro e w' ⟨rfl, ⟨nd, rfl⟩⟩; refine ⟨_, rfl, ?_⟩) | ((with_reducible refine gate_callee (f := 26) rfl ?_); refine goesL_ (some 194) rfl rfl Tryd.func26 (by kernel_rfl) rfl #[.int .i64 a0, .int .i64 a4, .int .i64 a5, .slice A6 l6.length c6] rfl (by (try simp only [List.map_toArray, List.map_cons, List.map_nil]); first | done | rfl | (simp only [List.length_drop, List.length_take]; rfl)) ?_; (with_reducible refine (cohousingref03_Deadline.calls kj53 a0 a4 a5 _ _ l6 t232 t233 _ ?side1 ?side2 A58.out).mono ?_); (case side1 => repeat (first | exact (Kd.C_below HR6.out (by repeat (first | (with_reducible first | exact HB.out | apply below_alloc | apply pw_below_drewN | apply below_drew1 | refine below_set ?_ GE221.out | refine below_set ?_ GE225.out) | exact HB.out))) | (with_reducible refine Kd.C_alloc ?_ _) | (with_reducible refine Kd.C_drewN ?_ _) | (with_reducible refine Kd.C_drew ?_))); (case side2 => exact HC6.out); rintro e w' ⟨rfl, ⟨nd, rfl⟩⟩; refine ⟨_, rfl, ?_⟩))
                              go_ret
                              exact ⟨by first | rfl | (simp [errW_none, errW_some] <;> rfl) | (simp [*, errW_none, errW_some] <;> rfl), by repeat (first | (with_reducible first | exact HB.out | apply below_alloc | apply pw_below_drewN | apply below_drew1 | refine below_set ?_ GE221.out | refine below_set ?_ GE225.out) | exact HB.out)⟩
  · replace c10 := Bool.eq_false_iff.mpr c10
    subst c10
    have H1 : (some t196) = some r := by rw [if_neg (show ¬ (false = true) by decide)] at H; exact H
    clear H
    have H := H1
    clear H1
    obtain rfl := Option.some.inj H
    go_enter Tryd.func3, Tryd.ntmps3
    go_wp2_with (first | ((with_reducible refine gate_callee (f := 11) rfl ?_); refine goesL_ (some 30) rfl rfl Tryd.func11 (by kernel_rfl) rfl #[] rfl (by (try simp only [List.map_toArray, List.map_cons, List.map_nil]); first | done | rfl | (simp only [List.length_drop, List.length_take]; rfl)) ?_; (with_reducible refine (cohousinglaw03_head.calls k  t196 _ ?side1 A8.out).mono ?_); (case side1 => exact TabOK.below HTA.out (by repeat (first | (with_reducible first | exact HB.out | apply below_alloc | apply pw_below_drewN | apply below_drew1) | exact HB.out))); rintro e w61 ⟨rfl, hb⟩; refine ⟨_, rfl, ?_⟩; have n0_ := Aside0.mk (below_step (by repeat (first | (with_reducible first | exact HB.out | apply below_alloc | apply pw_below_drewN | apply below_drew1) | exact HB.out)) hb); clear HB; have HB := n0_; clear n0_; (try clear hb); (try clear hb2); (try clear hk); (try clear hi)) | ((with_reducible refine gate_callee (f := 12) rfl ?_); refine goesL_ (some 32) rfl rfl Tryd.func12 (by kernel_rfl) rfl #[.slice A6 l6.length c6] rfl (by (try simp only [List.map_toArray, List.map_cons, List.map_nil]); first | done | rfl | (simp only [List.length_drop, List.length_take]; rfl)) ?_; (with_reducible refine (cohousinglaw03_few.calls _ _ l6 false _ ?side1 ?side2 A9.out).mono ?_); (case side1 => repeat (first | exact (Kd.C_below HR6.out HB.out) | (with_reducible refine Kd.C_alloc ?_ _) | (with_reducible refine Kd.C_drewN ?_ _) | (with_reducible refine Kd.C_drew ?_))); (case side2 => exact HC6.out); rintro e w' ⟨rfl, ⟨nd, rfl⟩⟩; refine ⟨_, rfl, ?_⟩))
    go_ret
    exact ⟨by first | rfl | (simp [errW_none, errW_some] <;> rfl) | (simp [*, errW_none, errW_some] <;> rfl), by repeat (first | (with_reducible first | exact HB.out | apply below_alloc | apply pw_below_drewN | apply below_drew1) | exact HB.out)⟩

/-- THE ONE PURE STATEMENT of cohousinglaw03_CalendarMatchesReference: yours. -/
def cohousinglaw03_CalendarMatchesReference.Pure : Prop := ∀ (a0 : Int) (a1 : Int) (a2 : Int) (a3 : Int) (a4 : Int) (a5 : Int) (l6 : List Int), (Lit.int .i64 a0).wf = true → (Lit.int .i64 a1).wf = true → (Lit.int .i64 a2).wf = true → (Lit.int .i64 a3).wf = true → (Lit.int .i64 a4).wf = true → (Lit.int .i64 a5).wf = true → l6.length ≤ maxLen → l6.length * 8 ≤ 140737488351232 → (∀ x ∈ l6, (Lit.int .i64 x).wf = true) → ∃ k, cohousinglaw03_CalendarMatchesReference.f k a0 a1 a2 a3 a4 a5 l6 = some true
theorem cohousinglaw03_CalendarMatchesReference.walk (P : cohousinglaw03_CalendarMatchesReference.Pure) (a0 : Int) (a1 : Int) (a2 : Int) (a3 : Int) (a4 : Int) (a5 : Int) (a6 : Option Addr) (len6 cap6 : Nat) (z6 : List Int) (w : World) (w0 : (Lit.int .i64 a0).wf = true) (w1 : (Lit.int .i64 a1).wf = true) (w2 : (Lit.int .i64 a2).wf = true) (w3 : (Lit.int .i64 a3).wf = true) (w4 : (Lit.int .i64 a4).wf = true) (w5 : (Lit.int .i64 a5).wf = true) (w6 : (a6 = none ∧ len6 = 0 ∧ cap6 = 0 ∧ z6 = []) ∨ ∃ x, a6 = some x ∧ len6 ≤ cap6 ∧ cap6 ≤ maxLen ∧ z6.length = cap6 ∧ (∀ i, i < z6.length → w.cell? (x.add i) = some (.int .i64 (z6.getD i 0))) ∧ ∀ n ∈ z6, (Lit.int .i64 n).wf = true) (y6 : len6 * 8 ≤ 140737488351232) (HT : TabOK w) :
    Calls Tryd.prog 3 #[.int .i64 a0, .int .i64 a1, .int .i64 a2, .int .i64 a3, .int .i64 a4, .int .i64 a5, .slice a6 len6 cap6] w fun e w' => e = .returned (.bool true) ∧ Below w.heap.size w w' := by
  obtain ⟨l6, rfl, hr6, hm6, hw6, hc6⟩ := ReadsInt.ofRowC w6
  obtain ⟨k, h⟩ := P a0 a1 a2 a3 a4 a5 l6 w0 w1 w2 w3 w4 w5 hm6 y6 hw6
  refine (cohousinglaw03_CalendarMatchesReference.calls k a0 a1 a2 a3 a4 a5 _ _ l6 true w (Kd.C_of_reads (d := (0 : Int)) (h1 := fun _ => rfl) hr6) hc6 HT h).mono ?_
  rintro e w' ⟨rfl, hd⟩
  exact ⟨rfl, hd⟩

end Go.Proofs.YtjkpojedegmciaaDoor.Px
