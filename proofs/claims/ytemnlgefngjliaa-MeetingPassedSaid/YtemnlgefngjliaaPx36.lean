/- Contracts of Go functions, written by a program of this session's own (wip/tools/myprint.py) out of the translation: each Go function does what the Lean function of its name says. Conditions: as each theorem states. -/
import Derived.Test.YtemnlgefngjliaaPx0
import Derived.Test.YtemnlgefngjliaaPx14
import Derived.Test.YtemnlgefngjliaaPx15
namespace Go.Proofs.Ytemnlgefngjliaa.Px
open Go.Proofs.Ytemnlgefngjliaa.Given
open Go.RowKit Go.Proofs.YtemnlgefngjliaaW.PrintWords Go.Proofs.YtemnlgefngjliaaW.PrintLast Go.Proofs.YtemnlgefngjliaaW.PrintMore
attribute [local go_sem] max2_int min2_int max_two min_two max_three min_three max_four min_four   -- for this text's walks alone
set_option linter.unusedVariables false
set_option linter.unusedSimpArgs false
/-! ### cohousinglaw39_MeetingPassed: function 9 -/
mutual
def cohousinglaw39_MeetingPassed.j0 : Nat → Int → Int → Int → Bool → Bool → Bool → Int → Int → Option (Bool)
 | 0, _, _, _, _, _, _, _, _ => none
 | k + 1, x0, x1, x4, x11, x12, x79, x613000, x613001 => if x79 = true then (some false) else ((meeting_Passed.f k 0 x1 x613000 x613001).bind fun bt620 => ((meeting_Passed.f k x0 0 x613000 x613001).bind fun bt622 => (if bt620.2 = 0 then (if bt620.1 = true then (cohousinglaw39_MeetingPassed.j1 k x0 x1 x4 x11 x12 true x613000 x613001) else (if bt622.2 = 0 then (if x0 > 0 then (cohousinglaw39_MeetingPassed.j1 k x0 x1 x4 x11 x12 (bt622.1 != (decide (x613000 < x613001))) x613000 x613001) else (cohousinglaw39_MeetingPassed.j1 k x0 x1 x4 x11 x12 (bt622.1 != false) x613000 x613001)) else (cohousinglaw39_MeetingPassed.j1 k x0 x1 x4 x11 x12 true x613000 x613001))) else (cohousinglaw39_MeetingPassed.j1 k x0 x1 x4 x11 x12 true x613000 x613001))))
def cohousinglaw39_MeetingPassed.j1 : Nat → Int → Int → Int → Bool → Bool → Bool → Int → Int → Option (Bool)
 | 0, _, _, _, _, _, _, _, _ => none
 | k + 1, x0, x1, x4, x11, x12, x113, x613000, x613001 => if x113 = true then (some false) else ((meeting_Passed.f k (wrap64 ((wrap64 (1 + (wrap64 (x4)))) * x0)) (wrap64 ((wrap64 (1 + (wrap64 (x4)))) * x1)) x613000 x613001).bind fun bt624 => (if x11 = true then (if bt624.2 = 0 then (some (bt624.1 == x12)) else (some true)) else (some false)))
end
def cohousinglaw39_MeetingPassed.f (k : Nat) (a0 : Int) (a1 : Int) (a2_0 : Int) (a2_1 : Int) (a3 : Int) (a4 : Int) : Option (Bool) := (cohousinglaw39_head.f k).bind fun t613 => ((meeting_Passed.f k a0 a1 a2_0 a2_1).bind fun bt614 => (if bt614.2 = 0 then ((meeting_Passed.f k (wrap64 (a0 + (wrap64 (a3)))) a1 a2_0 a2_1).bind fun bt616 => ((meeting_Passed.f k a0 (wrap64 (a1 + (wrap64 (a3)))) a2_0 a2_1).bind fun bt618 => (if bt616.2 = 0 then (if bt614.1 = true then (if bt616.1 = true then (if bt618.2 = 0 then (cohousinglaw39_MeetingPassed.j0 k a0 a1 a4 t613 bt614.1 false a2_0 a2_1) else (cohousinglaw39_MeetingPassed.j0 k a0 a1 a4 t613 bt614.1 false a2_0 a2_1)) else (cohousinglaw39_MeetingPassed.j0 k a0 a1 a4 t613 bt614.1 true a2_0 a2_1)) else (if bt618.2 = 0 then (cohousinglaw39_MeetingPassed.j0 k a0 a1 a4 t613 bt614.1 bt618.1 a2_0 a2_1) else (cohousinglaw39_MeetingPassed.j0 k a0 a1 a4 t613 bt614.1 false a2_0 a2_1))) else (if bt618.2 = 0 then (if bt614.1 = true then (cohousinglaw39_MeetingPassed.j0 k a0 a1 a4 t613 bt614.1 false a2_0 a2_1) else (cohousinglaw39_MeetingPassed.j0 k a0 a1 a4 t613 bt614.1 bt618.1 a2_0 a2_1)) else (cohousinglaw39_MeetingPassed.j0 k a0 a1 a4 t613 bt614.1 false a2_0 a2_1))))) else (if t613 = true then (some (!bt614.1)) else (some false))))
theorem cohousinglaw39_MeetingPassed.mono_l : ∀ k, (∀ y0 y1 y2 y3 y4 y5 y6 y7, LeO (cohousinglaw39_MeetingPassed.j0 k y0 y1 y2 y3 y4 y5 y6 y7) (cohousinglaw39_MeetingPassed.j0 (k + 1) y0 y1 y2 y3 y4 y5 y6 y7)) ∧ (∀ y0 y1 y2 y3 y4 y5 y6 y7, LeO (cohousinglaw39_MeetingPassed.j1 k y0 y1 y2 y3 y4 y5 y6 y7) (cohousinglaw39_MeetingPassed.j1 (k + 1) y0 y1 y2 y3 y4 y5 y6 y7))
 | 0 => ⟨fun _ _ _ _ _ _ _ _ r h => by simp [cohousinglaw39_MeetingPassed.j0] at h, fun _ _ _ _ _ _ _ _ r h => by simp [cohousinglaw39_MeetingPassed.j1] at h⟩
 | k + 1 => by
  obtain ⟨ih0, ih1⟩ := cohousinglaw39_MeetingPassed.mono_l k
  refine ⟨?_, ?_⟩
  ·intro y0 y1 y2 y3 y4 y5 y6 y7
   unfold cohousinglaw39_MeetingPassed.j0
   repeat' first
   | (with_reducible exact ih0 _ _ _ _ _ _ _ _)
   | (with_reducible exact ih1 _ _ _ _ _ _ _ _)
   | (with_reducible exact cohousinglaw39_head.mono _)
   | (with_reducible exact meeting_Passed.mono _ _ _ _ _)
   | (with_reducible exact LeO.refl _)
   | (with_reducible exact LeO.none _)
   | (with_reducible refine LeO.ite ?_ ?_)
   | (with_reducible refine LeO.bind ?_ (fun _ => ?_))
   | exact ih0 _ _ _ _ _ _ _ _
   | exact ih1 _ _ _ _ _ _ _ _
   | exact cohousinglaw39_head.mono _
   | exact meeting_Passed.mono _ _ _ _ _
   | exact LeO.none _
   | refine LeO.ite ?_ ?_
   | refine LeO.bind ?_ (fun _ => ?_)
  ·intro y0 y1 y2 y3 y4 y5 y6 y7
   unfold cohousinglaw39_MeetingPassed.j1
   repeat' first
   | (with_reducible exact ih0 _ _ _ _ _ _ _ _)
   | (with_reducible exact ih1 _ _ _ _ _ _ _ _)
   | (with_reducible exact cohousinglaw39_head.mono _)
   | (with_reducible exact meeting_Passed.mono _ _ _ _ _)
   | (with_reducible exact LeO.refl _)
   | (with_reducible exact LeO.none _)
   | (with_reducible refine LeO.ite ?_ ?_)
   | (with_reducible refine LeO.bind ?_ (fun _ => ?_))
   | exact ih0 _ _ _ _ _ _ _ _
   | exact ih1 _ _ _ _ _ _ _ _
   | exact cohousinglaw39_head.mono _
   | exact meeting_Passed.mono _ _ _ _ _
   | exact LeO.none _
   | refine LeO.ite ?_ ?_
   | refine LeO.bind ?_ (fun _ => ?_)
theorem cohousinglaw39_MeetingPassed.mono : ∀ a0 a1 a2 a3 a4 a5 k, LeO (cohousinglaw39_MeetingPassed.f k a0 a1 a2 a3 a4 a5) (cohousinglaw39_MeetingPassed.f (k + 1) a0 a1 a2 a3 a4 a5) := by
 intro a0 a1 a2 a3 a4 a5 k
 obtain ⟨ih0, ih1⟩ := cohousinglaw39_MeetingPassed.mono_l k
 unfold cohousinglaw39_MeetingPassed.f
 repeat' first
   | (with_reducible exact ih0 _ _ _ _ _ _ _ _)
   | (with_reducible exact ih1 _ _ _ _ _ _ _ _)
   | (with_reducible exact cohousinglaw39_head.mono _)
   | (with_reducible exact meeting_Passed.mono _ _ _ _ _)
   | (with_reducible exact LeO.refl _)
   | (with_reducible exact LeO.none _)
   | (with_reducible refine LeO.ite ?_ ?_)
   | (with_reducible refine LeO.bind ?_ (fun _ => ?_))
   | exact ih0 _ _ _ _ _ _ _ _
   | exact ih1 _ _ _ _ _ _ _ _
   | exact cohousinglaw39_head.mono _
   | exact meeting_Passed.mono _ _ _ _ _
   | exact LeO.none _
   | refine LeO.ite ?_ ?_
   | refine LeO.bind ?_ (fun _ => ?_)
set_option maxHeartbeats 8000000 in
set_option maxRecDepth 100000 in
theorem cohousinglaw39_MeetingPassed.calls (k : Nat) (a0 : Int) (a1 : Int) (a2_0 : Int) (a2_1 : Int) (a3 : Int) (a4 : Int) (r : Bool) (w : World) (h : cohousinglaw39_MeetingPassed.f k a0 a1 a2_0 a2_1 a3 a4 = some r) :
  Calls Try.prog 9 #[.int .i64 a0, .int .i64 a1, .agg #[.int .i64 a2_0, .int .i64 a2_1], .int .u16 a3, .int .u8 a4] w fun e w' => e = .returned (.bool r) ∧ Below w.heap.size w w' := by
 have hu23 := Try.underlying23
 have HB := Aside0.mk (Below.refl w.heap.size w)
 have H : ((cohousinglaw39_head.f k).bind fun t613 => ((meeting_Passed.f k a0 a1 a2_0 a2_1).bind fun bt614 => (if bt614.2 = 0 then ((meeting_Passed.f k (wrap64 (a0 + (wrap64 (a3)))) a1 a2_0 a2_1).bind fun bt616 => ((meeting_Passed.f k a0 (wrap64 (a1 + (wrap64 (a3)))) a2_0 a2_1).bind fun bt618 => (if bt616.2 = 0 then (if bt614.1 = true then (if bt616.1 = true then (if bt618.2 = 0 then (cohousinglaw39_MeetingPassed.j0 k a0 a1 a4 t613 bt614.1 false a2_0 a2_1) else (cohousinglaw39_MeetingPassed.j0 k a0 a1 a4 t613 bt614.1 false a2_0 a2_1)) else (cohousinglaw39_MeetingPassed.j0 k a0 a1 a4 t613 bt614.1 true a2_0 a2_1)) else (if bt618.2 = 0 then (cohousinglaw39_MeetingPassed.j0 k a0 a1 a4 t613 bt614.1 bt618.1 a2_0 a2_1) else (cohousinglaw39_MeetingPassed.j0 k a0 a1 a4 t613 bt614.1 false a2_0 a2_1))) else (if bt618.2 = 0 then (if bt614.1 = true then (cohousinglaw39_MeetingPassed.j0 k a0 a1 a4 t613 bt614.1 false a2_0 a2_1) else (cohousinglaw39_MeetingPassed.j0 k a0 a1 a4 t613 bt614.1 bt618.1 a2_0 a2_1)) else (cohousinglaw39_MeetingPassed.j0 k a0 a1 a4 t613 bt614.1 false a2_0 a2_1))))) else (if t613 = true then (some (!bt614.1)) else (some false))))) = some r := h
 clear h
 replace H := Option.bind_eq_some_iff.mp H
 obtain ⟨t613, A60, H⟩ := H
 replace H : ((meeting_Passed.f k a0 a1 a2_0 a2_1).bind fun bt614 => (if bt614.2 = 0 then ((meeting_Passed.f k (wrap64 (a0 + (wrap64 (a3)))) a1 a2_0 a2_1).bind fun bt616 => ((meeting_Passed.f k a0 (wrap64 (a1 + (wrap64 (a3)))) a2_0 a2_1).bind fun bt618 => (if bt616.2 = 0 then (if bt614.1 = true then (if bt616.1 = true then (if bt618.2 = 0 then (cohousinglaw39_MeetingPassed.j0 k a0 a1 a4 t613 bt614.1 false a2_0 a2_1) else (cohousinglaw39_MeetingPassed.j0 k a0 a1 a4 t613 bt614.1 false a2_0 a2_1)) else (cohousinglaw39_MeetingPassed.j0 k a0 a1 a4 t613 bt614.1 true a2_0 a2_1)) else (if bt618.2 = 0 then (cohousinglaw39_MeetingPassed.j0 k a0 a1 a4 t613 bt614.1 bt618.1 a2_0 a2_1) else (cohousinglaw39_MeetingPassed.j0 k a0 a1 a4 t613 bt614.1 false a2_0 a2_1))) else (if bt618.2 = 0 then (if bt614.1 = true then (cohousinglaw39_MeetingPassed.j0 k a0 a1 a4 t613 bt614.1 false a2_0 a2_1) else (cohousinglaw39_MeetingPassed.j0 k a0 a1 a4 t613 bt614.1 bt618.1 a2_0 a2_1)) else (cohousinglaw39_MeetingPassed.j0 k a0 a1 a4 t613 bt614.1 false a2_0 a2_1))))) else (if t613 = true then (some (!bt614.1)) else (some false)))) = some r := H
 have A6 := Aside0.mk A60
 clear A60
 replace H := Option.bind_eq_some_iff.mp H
 obtain ⟨⟨t614, t615⟩, A70, H⟩ := H
 replace H : (if t615 = 0 then ((meeting_Passed.f k (wrap64 (a0 + (wrap64 (a3)))) a1 a2_0 a2_1).bind fun bt616 => ((meeting_Passed.f k a0 (wrap64 (a1 + (wrap64 (a3)))) a2_0 a2_1).bind fun bt618 => (if bt616.2 = 0 then (if t614 = true then (if bt616.1 = true then (if bt618.2 = 0 then (cohousinglaw39_MeetingPassed.j0 k a0 a1 a4 t613 t614 false a2_0 a2_1) else (cohousinglaw39_MeetingPassed.j0 k a0 a1 a4 t613 t614 false a2_0 a2_1)) else (cohousinglaw39_MeetingPassed.j0 k a0 a1 a4 t613 t614 true a2_0 a2_1)) else (if bt618.2 = 0 then (cohousinglaw39_MeetingPassed.j0 k a0 a1 a4 t613 t614 bt618.1 a2_0 a2_1) else (cohousinglaw39_MeetingPassed.j0 k a0 a1 a4 t613 t614 false a2_0 a2_1))) else (if bt618.2 = 0 then (if t614 = true then (cohousinglaw39_MeetingPassed.j0 k a0 a1 a4 t613 t614 false a2_0 a2_1) else (cohousinglaw39_MeetingPassed.j0 k a0 a1 a4 t613 t614 bt618.1 a2_0 a2_1)) else (cohousinglaw39_MeetingPassed.j0 k a0 a1 a4 t613 t614 false a2_0 a2_1))))) else (if t613 = true then (some (!t614)) else (some false))) = some r := H
 have A7 := Aside0.mk A70
 clear A70
 by_cases c8 : t615 = 0
 ·rw [if_pos c8] at H
  have c8b0 : (t615 == 0) = true := beq_iff_eq.mpr c8
  have c8b1 : (t615 != 0) = false := bne_eq_false_iff_eq.mpr c8
  clear c8
  replace H := Option.bind_eq_some_iff.mp H
  obtain ⟨⟨t616, t617⟩, A90, H⟩ := H
  replace H : ((meeting_Passed.f k a0 (wrap64 (a1 + (wrap64 (a3)))) a2_0 a2_1).bind fun bt618 => (if t617 = 0 then (if t614 = true then (if t616 = true then (if bt618.2 = 0 then (cohousinglaw39_MeetingPassed.j0 k a0 a1 a4 t613 t614 false a2_0 a2_1) else (cohousinglaw39_MeetingPassed.j0 k a0 a1 a4 t613 t614 false a2_0 a2_1)) else (cohousinglaw39_MeetingPassed.j0 k a0 a1 a4 t613 t614 true a2_0 a2_1)) else (if bt618.2 = 0 then (cohousinglaw39_MeetingPassed.j0 k a0 a1 a4 t613 t614 bt618.1 a2_0 a2_1) else (cohousinglaw39_MeetingPassed.j0 k a0 a1 a4 t613 t614 false a2_0 a2_1))) else (if bt618.2 = 0 then (if t614 = true then (cohousinglaw39_MeetingPassed.j0 k a0 a1 a4 t613 t614 false a2_0 a2_1) else (cohousinglaw39_MeetingPassed.j0 k a0 a1 a4 t613 t614 bt618.1 a2_0 a2_1)) else (cohousinglaw39_MeetingPassed.j0 k a0 a1 a4 t613 t614 false a2_0 a2_1)))) = some r := H
  have A9 := Aside0.mk A90
  clear A90
  replace H := Option.bind_eq_some_iff.mp H
  obtain ⟨⟨t618, t619⟩, A100, H⟩ := H
  replace H : (if t617 = 0 then (if t614 = true then (if t616 = true then (if t619 = 0 then (cohousinglaw39_MeetingPassed.j0 k a0 a1 a4 t613 t614 false a2_0 a2_1) else (cohousinglaw39_MeetingPassed.j0 k a0 a1 a4 t613 t614 false a2_0 a2_1)) else (cohousinglaw39_MeetingPassed.j0 k a0 a1 a4 t613 t614 true a2_0 a2_1)) else (if t619 = 0 then (cohousinglaw39_MeetingPassed.j0 k a0 a1 a4 t613 t614 t618 a2_0 a2_1) else (cohousinglaw39_MeetingPassed.j0 k a0 a1 a4 t613 t614 false a2_0 a2_1))) else (if t619 = 0 then (if t614 = true then (cohousinglaw39_MeetingPassed.j0 k a0 a1 a4 t613 t614 false a2_0 a2_1) else (cohousinglaw39_MeetingPassed.j0 k a0 a1 a4 t613 t614 t618 a2_0 a2_1)) else (cohousinglaw39_MeetingPassed.j0 k a0 a1 a4 t613 t614 false a2_0 a2_1))) = some r := H
  have A10 := Aside0.mk A100
  clear A100
  have HC11 := Aside0.mk H
  clear H
  go_enter Try.func9, Try.ntmps9
  go_upto_region 7 with (first | ((with_reducible refine gate_dst (N := 7) rfl ?_); refine box_event ?hg (N := 7) ?hd (cs := #[.int .i64 a2_0, .int .i64 a2_1]) (t := 23) ?hr ?_; (case hd => rfl); (case hg => rfl); (case hr => first | (go_simp; done) | (go_simp; rfl)); intro gb612 hg w12 hbox hb; have n0_ := Aside0.mk (below_step (by repeat (first | (with_reducible first | exact HB.out | apply below_alloc | apply pw_below_drewN | apply below_drew1) | exact HB.out)) hb); have n1_ := Aside0.mk (hbox); have n2_ := Aside0.mk ((by rw [hg]; exact (below_size (by repeat (first | (with_reducible first | exact HB.out | apply below_alloc | apply pw_below_drewN | apply below_drew1) | exact HB.out))) : w.heap.size ≤ gb612)); have n3_ := Aside0.mk ((by rw [hg]; exact (below_size (by repeat (first | (with_reducible first | exact HB.out | apply below_alloc | apply pw_below_drewN | apply below_drew1) | exact HB.out))) : w.heap.size ≤ gb612)); clear HB; have HB := n0_; have BK612 := n1_; have GW612 := n2_; have GE612 := n3_; clear n0_ n1_ n2_ n3_; clear hb hbox hg) | ((with_reducible refine gate_callee (f := 11) rfl ?_); refine goesL_ (some 25) rfl rfl Try.func11 (by kernel_rfl) rfl #[] rfl (by (try simp only [List.map_toArray, List.map_cons, List.map_nil]); first | done | rfl | (simp only [List.length_drop, List.length_take]; rfl)) ?_; (with_reducible refine (cohousinglaw39_head.calls k  t613 _ A6.out).mono ?_); rintro e w13 ⟨rfl, hb⟩; refine ⟨_, rfl, ?_⟩; have n0_ := Aside0.mk (blk_below (g := gb612) (o := .cells #[.int .i64 a2_0, .int .i64 a2_1] 23 (0, 0)) (by (with_reducible repeat (first | refine blk_drewN ?_ _ | refine blk_drew ?_ | refine blk_alloc ?_ _)); exact BK612.out) hb); have n1_ := Aside0.mk (below_step (by repeat (first | (with_reducible first | exact HB.out | apply below_alloc | apply pw_below_drewN | apply below_drew1 | refine below_set ?_ GE612.out) | exact HB.out)) hb); clear BK612; clear HB; have BK612 := n0_; have HB := n1_; clear n0_ n1_; (try clear hb); (try clear hb2); (try clear hk); (try clear hi); have hcz14_0 : w13.cell? ⟨gb612, 0, none⟩ = some (.int .i64 a2_0) := (blk_cell BK612.out 0).trans rfl; have hcz14_1 : w13.cell? ⟨gb612, 1, none⟩ = some (.int .i64 a2_1) := (blk_cell BK612.out 1).trans rfl; have hfz14_0 := blk_frozen BK612.out 0; have hfz14_1 := blk_frozen BK612.out 1) | ((with_reducible refine gate_callee (f := 20) rfl ?_); refine goesL_ (some 30) rfl rfl Try.func20 (by kernel_rfl) rfl #[.int .i64 a0, .int .i64 a1, .agg #[.int .i64 a2_0, .int .i64 a2_1]] rfl (by (try simp only [List.map_toArray, List.map_cons, List.map_nil]); first | done | rfl | (simp only [List.length_drop, List.length_take]; rfl)) ?_; (with_reducible refine (meeting_Passed.calls k a0 a1 a2_0 a2_1 t614 t615 _ A7.out).mono ?_); rintro e w15 ⟨rfl, hb⟩; refine ⟨_, rfl, ?_⟩; have n0_ := Aside0.mk (blk_below (g := gb612) (o := .cells #[.int .i64 a2_0, .int .i64 a2_1] 23 (0, 0)) (by (with_reducible repeat (first | refine blk_drewN ?_ _ | refine blk_drew ?_ | refine blk_alloc ?_ _)); exact BK612.out) hb); have n1_ := Aside0.mk (below_step (by repeat (first | (with_reducible first | exact HB.out | apply below_alloc | apply pw_below_drewN | apply below_drew1 | refine below_set ?_ GE612.out) | exact HB.out)) hb); clear BK612; clear HB; have BK612 := n0_; have HB := n1_; clear n0_ n1_; (try clear hb); (try clear hb2); (try clear hk); (try clear hi); have hcz16_0 : w15.cell? ⟨gb612, 0, none⟩ = some (.int .i64 a2_0) := (blk_cell BK612.out 0).trans rfl; have hcz16_1 : w15.cell? ⟨gb612, 1, none⟩ = some (.int .i64 a2_1) := (blk_cell BK612.out 1).trans rfl; have hfz16_0 := blk_frozen BK612.out 0; have hfz16_1 := blk_frozen BK612.out 1) | ((with_reducible refine gate_callee (f := 20) rfl ?_); refine goesL_ (some 47) rfl rfl Try.func20 (by kernel_rfl) rfl #[.int .i64 (wrap64 (a0 + (wrap64 (a3)))), .int .i64 a1, .agg #[.int .i64 a2_0, .int .i64 a2_1]] rfl (by (try simp only [List.map_toArray, List.map_cons, List.map_nil]); first | done | rfl | (simp only [List.length_drop, List.length_take]; rfl)) ?_; (with_reducible refine (meeting_Passed.calls k (wrap64 (a0 + (wrap64 (a3)))) a1 a2_0 a2_1 t616 t617 _ A9.out).mono ?_); rintro e w17 ⟨rfl, hb⟩; refine ⟨_, rfl, ?_⟩; have n0_ := Aside0.mk (blk_below (g := gb612) (o := .cells #[.int .i64 a2_0, .int .i64 a2_1] 23 (0, 0)) (by (with_reducible repeat (first | refine blk_drewN ?_ _ | refine blk_drew ?_ | refine blk_alloc ?_ _)); exact BK612.out) hb); have n1_ := Aside0.mk (below_step (by repeat (first | (with_reducible first | exact HB.out | apply below_alloc | apply pw_below_drewN | apply below_drew1 | refine below_set ?_ GE612.out) | exact HB.out)) hb); clear BK612; clear HB; have BK612 := n0_; have HB := n1_; clear n0_ n1_; (try clear hb); (try clear hb2); (try clear hk); (try clear hi); have hcz18_0 : w17.cell? ⟨gb612, 0, none⟩ = some (.int .i64 a2_0) := (blk_cell BK612.out 0).trans rfl; have hcz18_1 : w17.cell? ⟨gb612, 1, none⟩ = some (.int .i64 a2_1) := (blk_cell BK612.out 1).trans rfl; have hfz18_0 := blk_frozen BK612.out 0; have hfz18_1 := blk_frozen BK612.out 1) | ((with_reducible refine gate_callee (f := 20) rfl ?_); refine goesL_ (some 57) rfl rfl Try.func20 (by kernel_rfl) rfl #[.int .i64 a0, .int .i64 (wrap64 (a1 + (wrap64 (a3)))), .agg #[.int .i64 a2_0, .int .i64 a2_1]] rfl (by (try simp only [List.map_toArray, List.map_cons, List.map_nil]); first | done | rfl | (simp only [List.length_drop, List.length_take]; rfl)) ?_; (with_reducible refine (meeting_Passed.calls k a0 (wrap64 (a1 + (wrap64 (a3)))) a2_0 a2_1 t618 t619 _ A10.out).mono ?_); rintro e w19 ⟨rfl, hb⟩; refine ⟨_, rfl, ?_⟩; have n0_ := Aside0.mk (blk_below (g := gb612) (o := .cells #[.int .i64 a2_0, .int .i64 a2_1] 23 (0, 0)) (by (with_reducible repeat (first | refine blk_drewN ?_ _ | refine blk_drew ?_ | refine blk_alloc ?_ _)); exact BK612.out) hb); have n1_ := Aside0.mk (below_step (by repeat (first | (with_reducible first | exact HB.out | apply below_alloc | apply pw_below_drewN | apply below_drew1 | refine below_set ?_ GE612.out) | exact HB.out)) hb); clear BK612; clear HB; have BK612 := n0_; have HB := n1_; clear n0_ n1_; (try clear hb); (try clear hb2); (try clear hk); (try clear hi)))
  (try simp only [Act.put, List.setIfInBounds_toArray, List.set_cons_zero, List.set_cons_succ])
  go_cut [79] (fun v79 wc => ∃ (kq : Nat) (x79_10 : Bool), v79 = .bool x79_10 ∧ Aside0 (cohousinglaw39_MeetingPassed.j0 kq a0 a1 a4 t613 t614 x79_10 a2_0 a2_1 = some r) ∧ Aside0 (kq ≤ k) ∧ Aside0 (wc.heap[gb612]? = some (.cells #[.int .i64 a2_0, .int .i64 a2_1] 23 (0, 0))) ∧ Aside0 (Below w.heap.size w wc))
  case first =>
   have H := HC11.out
   clear HC11
   by_cases c20 : t617 = 0
   ·rw [if_pos c20] at H
    have c20b0 : (t617 == 0) = true := beq_iff_eq.mpr c20
    have c20b1 : (t617 != 0) = false := bne_eq_false_iff_eq.mpr c20
    clear c20
    (first | rw [c20b0] | (simp only [i64_w, i32_w]; rw [c20b0]) | skip)
    by_cases c21 : t614 = true
    ·subst c21
     have H1 : (if t616 = true then (if t619 = 0 then (cohousinglaw39_MeetingPassed.j0 k a0 a1 a4 t613 true false a2_0 a2_1) else (cohousinglaw39_MeetingPassed.j0 k a0 a1 a4 t613 true false a2_0 a2_1)) else (cohousinglaw39_MeetingPassed.j0 k a0 a1 a4 t613 true true a2_0 a2_1)) = some r := by rw [if_pos rfl] at H; exact H
     clear H
     have H := H1
     clear H1
     by_cases c22 : t616 = true
     ·subst c22
      have H1 : (if t619 = 0 then (cohousinglaw39_MeetingPassed.j0 k a0 a1 a4 t613 true false a2_0 a2_1) else (cohousinglaw39_MeetingPassed.j0 k a0 a1 a4 t613 true false a2_0 a2_1)) = some r := by rw [if_pos rfl] at H; exact H
      clear H
      have H := H1
      clear H1
      by_cases c23 : t619 = 0
      ·rw [if_pos c23] at H
       have c23b0 : (t619 == 0) = true := beq_iff_eq.mpr c23
       have c23b1 : (t619 != 0) = false := bne_eq_false_iff_eq.mpr c23
       clear c23
       have H' := Aside0.mk H
       clear H
       go_wp2
       go_meet
       case rel => exact ⟨_, (false), (by first | rfl | (simp; done) | (simp [*]; done)), H', ⟨by first | omega | exact Nat.le_refl _⟩, ⟨by (with_reducible repeat (first | refine blk_drewN ?_ _ | refine blk_drew ?_ | refine blk_alloc ?_ _)); exact BK612.out⟩, ⟨by repeat (first | (with_reducible first | exact HB.out | apply below_alloc | apply pw_below_drewN | apply below_drew1 | refine below_set ?_ GE612.out) | exact HB.out)⟩⟩
      ·rw [if_neg c23] at H
       have c23b0 : (t619 == 0) = false := beq_eq_false_iff_ne.mpr c23
       have c23b1 : (t619 != 0) = true := bne_iff_ne.mpr c23
       have H' := Aside0.mk H
       clear H
       go_wp2
       go_meet
       case rel => exact ⟨_, (false), (by first | rfl | (simp; done) | (simp [*]; done)), H', ⟨by first | omega | exact Nat.le_refl _⟩, ⟨by (with_reducible repeat (first | refine blk_drewN ?_ _ | refine blk_drew ?_ | refine blk_alloc ?_ _)); exact BK612.out⟩, ⟨by repeat (first | (with_reducible first | exact HB.out | apply below_alloc | apply pw_below_drewN | apply below_drew1 | refine below_set ?_ GE612.out) | exact HB.out)⟩⟩
     ·replace c22 := Bool.eq_false_iff.mpr c22
      subst c22
      have H1 : (cohousinglaw39_MeetingPassed.j0 k a0 a1 a4 t613 true true a2_0 a2_1) = some r := by rw [if_neg (show ¬ (false = true) by decide)] at H; exact H
      clear H
      have H := H1
      clear H1
      have H' := Aside0.mk H
      clear H
      go_wp2
      go_meet
      case rel => exact ⟨_, (true), (by first | rfl | (simp; done) | (simp [*]; done)), H', ⟨by first | omega | exact Nat.le_refl _⟩, ⟨by (with_reducible repeat (first | refine blk_drewN ?_ _ | refine blk_drew ?_ | refine blk_alloc ?_ _)); exact BK612.out⟩, ⟨by repeat (first | (with_reducible first | exact HB.out | apply below_alloc | apply pw_below_drewN | apply below_drew1 | refine below_set ?_ GE612.out) | exact HB.out)⟩⟩
    ·replace c21 := Bool.eq_false_iff.mpr c21
     subst c21
     have H1 : (if t619 = 0 then (cohousinglaw39_MeetingPassed.j0 k a0 a1 a4 t613 false t618 a2_0 a2_1) else (cohousinglaw39_MeetingPassed.j0 k a0 a1 a4 t613 false false a2_0 a2_1)) = some r := by rw [if_neg (show ¬ (false = true) by decide)] at H; exact H
     clear H
     have H := H1
     clear H1
     by_cases c24 : t619 = 0
     ·rw [if_pos c24] at H
      have c24b0 : (t619 == 0) = true := beq_iff_eq.mpr c24
      have c24b1 : (t619 != 0) = false := bne_eq_false_iff_eq.mpr c24
      clear c24
      have H' := Aside0.mk H
      clear H
      go_wp2
      go_meet
      case rel => exact ⟨_, (t618), (by first | rfl | (simp; done) | (simp [*]; done)), H', ⟨by first | omega | exact Nat.le_refl _⟩, ⟨by (with_reducible repeat (first | refine blk_drewN ?_ _ | refine blk_drew ?_ | refine blk_alloc ?_ _)); exact BK612.out⟩, ⟨by repeat (first | (with_reducible first | exact HB.out | apply below_alloc | apply pw_below_drewN | apply below_drew1 | refine below_set ?_ GE612.out) | exact HB.out)⟩⟩
     ·rw [if_neg c24] at H
      have c24b0 : (t619 == 0) = false := beq_eq_false_iff_ne.mpr c24
      have c24b1 : (t619 != 0) = true := bne_iff_ne.mpr c24
      have H' := Aside0.mk H
      clear H
      go_wp2
      go_meet
      case rel => exact ⟨_, (false), (by first | rfl | (simp; done) | (simp [*]; done)), H', ⟨by first | omega | exact Nat.le_refl _⟩, ⟨by (with_reducible repeat (first | refine blk_drewN ?_ _ | refine blk_drew ?_ | refine blk_alloc ?_ _)); exact BK612.out⟩, ⟨by repeat (first | (with_reducible first | exact HB.out | apply below_alloc | apply pw_below_drewN | apply below_drew1 | refine below_set ?_ GE612.out) | exact HB.out)⟩⟩
   ·rw [if_neg c20] at H
    have c20b0 : (t617 == 0) = false := beq_eq_false_iff_ne.mpr c20
    have c20b1 : (t617 != 0) = true := bne_iff_ne.mpr c20
    (first | rw [c20b0] | (simp only [i64_w, i32_w]; rw [c20b0]) | skip)
    by_cases c25 : t619 = 0
    ·rw [if_pos c25] at H
     have c25b0 : (t619 == 0) = true := beq_iff_eq.mpr c25
     have c25b1 : (t619 != 0) = false := bne_eq_false_iff_eq.mpr c25
     clear c25
     by_cases c26 : t614 = true
     ·subst c26
      have H1 : (cohousinglaw39_MeetingPassed.j0 k a0 a1 a4 t613 true false a2_0 a2_1) = some r := by rw [if_pos rfl] at H; exact H
      clear H
      have H := H1
      clear H1
      have H' := Aside0.mk H
      clear H
      go_wp2
      go_meet
      case rel => exact ⟨_, (false), (by first | rfl | (simp; done) | (simp [*]; done)), H', ⟨by first | omega | exact Nat.le_refl _⟩, ⟨by (with_reducible repeat (first | refine blk_drewN ?_ _ | refine blk_drew ?_ | refine blk_alloc ?_ _)); exact BK612.out⟩, ⟨by repeat (first | (with_reducible first | exact HB.out | apply below_alloc | apply pw_below_drewN | apply below_drew1 | refine below_set ?_ GE612.out) | exact HB.out)⟩⟩
     ·replace c26 := Bool.eq_false_iff.mpr c26
      subst c26
      have H1 : (cohousinglaw39_MeetingPassed.j0 k a0 a1 a4 t613 false t618 a2_0 a2_1) = some r := by rw [if_neg (show ¬ (false = true) by decide)] at H; exact H
      clear H
      have H := H1
      clear H1
      have H' := Aside0.mk H
      clear H
      go_wp2
      go_meet
      case rel => exact ⟨_, (t618), (by first | rfl | (simp; done) | (simp [*]; done)), H', ⟨by first | omega | exact Nat.le_refl _⟩, ⟨by (with_reducible repeat (first | refine blk_drewN ?_ _ | refine blk_drew ?_ | refine blk_alloc ?_ _)); exact BK612.out⟩, ⟨by repeat (first | (with_reducible first | exact HB.out | apply below_alloc | apply pw_below_drewN | apply below_drew1 | refine below_set ?_ GE612.out) | exact HB.out)⟩⟩
    ·rw [if_neg c25] at H
     have c25b0 : (t619 == 0) = false := beq_eq_false_iff_ne.mpr c25
     have c25b1 : (t619 != 0) = true := bne_iff_ne.mpr c25
     have H' := Aside0.mk H
     clear H
     go_wp2
     go_meet
     case rel => exact ⟨_, (false), (by first | rfl | (simp; done) | (simp [*]; done)), H', ⟨by first | omega | exact Nat.le_refl _⟩, ⟨by (with_reducible repeat (first | refine blk_drewN ?_ _ | refine blk_drew ?_ | refine blk_alloc ?_ _)); exact BK612.out⟩, ⟨by repeat (first | (with_reducible first | exact HB.out | apply below_alloc | apply pw_below_drewN | apply below_drew1 | refine below_set ?_ GE612.out) | exact HB.out)⟩⟩
  case rest =>
   clear HC11
   try clear c1
   try clear c2
   try clear p2
   try clear p6
   try clear c8
   try clear c8b0
   try clear c8b1
   try clear c9
   try clear c11
   try clear c20
   try clear c20b0
   try clear c20b1
   try clear c21
   try clear c22
   try clear c23
   try clear c23b0
   try clear c23b1
   try clear c24
   try clear c24b0
   try clear c24b1
   try clear c25
   try clear c25b0
   try clear c25b1
   try clear c26
   try clear hcz14_0
   try clear hcz14_1
   try clear hcz16_0
   try clear hcz16_1
   try clear hcz18_0
   try clear hcz18_1
   try clear hfz14_0
   try clear hfz14_1
   try clear hfz16_0
   try clear hfz16_1
   try clear hfz18_0
   try clear hfz18_1
   obtain ⟨kq, x79_10, rfl, HA, HJ10, BK612, HB⟩ := hcut
   cases kq with
   | zero => exact absurd HA.out (by simp [cohousinglaw39_MeetingPassed.j0])
   | succ kj10 =>
    have H := HA.out
    clear HA
    simp only [cohousinglaw39_MeetingPassed.j0] at H
    by_cases c27 : x79_10 = true
    ·subst c27
     have H1 : (some false) = some r := by rw [if_pos rfl] at H; exact H
     clear H
     have H := H1
     clear H1
     obtain rfl := Option.some.inj H
     go_wp2
     go_ret
     exact ⟨by first | rfl | (simp [errW_none, errW_some] <;> rfl) | (simp [*, errW_none, errW_some] <;> rfl), by repeat (first | (with_reducible first | exact HB.out | apply below_alloc | apply pw_below_drewN | apply below_drew1 | refine below_set ?_ GE612.out) | exact HB.out)⟩
    ·replace c27 := Bool.eq_false_iff.mpr c27
     subst c27
     have H1 : ((meeting_Passed.f kj10 0 a1 a2_0 a2_1).bind fun bt620 => ((meeting_Passed.f kj10 a0 0 a2_0 a2_1).bind fun bt622 => (if bt620.2 = 0 then (if bt620.1 = true then (cohousinglaw39_MeetingPassed.j1 kj10 a0 a1 a4 t613 t614 true a2_0 a2_1) else (if bt622.2 = 0 then (if a0 > 0 then (cohousinglaw39_MeetingPassed.j1 kj10 a0 a1 a4 t613 t614 (bt622.1 != (decide (a2_0 < a2_1))) a2_0 a2_1) else (cohousinglaw39_MeetingPassed.j1 kj10 a0 a1 a4 t613 t614 (bt622.1 != false) a2_0 a2_1)) else (cohousinglaw39_MeetingPassed.j1 kj10 a0 a1 a4 t613 t614 true a2_0 a2_1))) else (cohousinglaw39_MeetingPassed.j1 kj10 a0 a1 a4 t613 t614 true a2_0 a2_1)))) = some r := by rw [if_neg (show ¬ (false = true) by decide)] at H; exact H
     clear H
     have H := H1
     clear H1
     replace H := Option.bind_eq_some_iff.mp H
     obtain ⟨⟨t620, t621⟩, A280, H⟩ := H
     replace H : ((meeting_Passed.f kj10 a0 0 a2_0 a2_1).bind fun bt622 => (if t621 = 0 then (if t620 = true then (cohousinglaw39_MeetingPassed.j1 kj10 a0 a1 a4 t613 t614 true a2_0 a2_1) else (if bt622.2 = 0 then (if a0 > 0 then (cohousinglaw39_MeetingPassed.j1 kj10 a0 a1 a4 t613 t614 (bt622.1 != (decide (a2_0 < a2_1))) a2_0 a2_1) else (cohousinglaw39_MeetingPassed.j1 kj10 a0 a1 a4 t613 t614 (bt622.1 != false) a2_0 a2_1)) else (cohousinglaw39_MeetingPassed.j1 kj10 a0 a1 a4 t613 t614 true a2_0 a2_1))) else (cohousinglaw39_MeetingPassed.j1 kj10 a0 a1 a4 t613 t614 true a2_0 a2_1))) = some r := H
     have A28 := Aside0.mk A280
     clear A280
     replace H := Option.bind_eq_some_iff.mp H
     obtain ⟨⟨t622, t623⟩, A290, H⟩ := H
     replace H : (if t621 = 0 then (if t620 = true then (cohousinglaw39_MeetingPassed.j1 kj10 a0 a1 a4 t613 t614 true a2_0 a2_1) else (if t623 = 0 then (if a0 > 0 then (cohousinglaw39_MeetingPassed.j1 kj10 a0 a1 a4 t613 t614 (t622 != (decide (a2_0 < a2_1))) a2_0 a2_1) else (cohousinglaw39_MeetingPassed.j1 kj10 a0 a1 a4 t613 t614 (t622 != false) a2_0 a2_1)) else (cohousinglaw39_MeetingPassed.j1 kj10 a0 a1 a4 t613 t614 true a2_0 a2_1))) else (cohousinglaw39_MeetingPassed.j1 kj10 a0 a1 a4 t613 t614 true a2_0 a2_1)) = some r := H
     have A29 := Aside0.mk A290
     clear A290
     have HC30 := Aside0.mk H
     clear H
     have hcz31_0 : wc.cell? ⟨gb612, 0, none⟩ = some (.int .i64 a2_0) := (blk_cell BK612.out 0).trans rfl
     have hcz31_1 : wc.cell? ⟨gb612, 1, none⟩ = some (.int .i64 a2_1) := (blk_cell BK612.out 1).trans rfl
     have hfz31_0 := blk_frozen BK612.out 0
     have hfz31_1 := blk_frozen BK612.out 1
     go_upto_region 11 with (first | ((with_reducible refine gate_callee (f := 20) rfl ?_); refine goesL_ (some 83) rfl rfl Try.func20 (by kernel_rfl) rfl #[.int .i64 0, .int .i64 a1, .agg #[.int .i64 a2_0, .int .i64 a2_1]] rfl (by (try simp only [List.map_toArray, List.map_cons, List.map_nil]); first | done | rfl | (simp only [List.length_drop, List.length_take]; rfl)) ?_; (with_reducible refine (meeting_Passed.calls kj10 0 a1 a2_0 a2_1 t620 t621 _ A28.out).mono ?_); rintro e w32 ⟨rfl, hb⟩; refine ⟨_, rfl, ?_⟩; have n0_ := Aside0.mk (blk_below (g := gb612) (o := .cells #[.int .i64 a2_0, .int .i64 a2_1] 23 (0, 0)) (by (with_reducible repeat (first | refine blk_drewN ?_ _ | refine blk_drew ?_ | refine blk_alloc ?_ _)); exact BK612.out) hb); have n1_ := Aside0.mk (below_step (by repeat (first | (with_reducible first | exact HB.out | apply below_alloc | apply pw_below_drewN | apply below_drew1 | refine below_set ?_ GE612.out) | exact HB.out)) hb); clear BK612; clear HB; have BK612 := n0_; have HB := n1_; clear n0_ n1_; (try clear hb); (try clear hb2); (try clear hk); (try clear hi); have hcz33_0 : w32.cell? ⟨gb612, 0, none⟩ = some (.int .i64 a2_0) := (blk_cell BK612.out 0).trans rfl; have hcz33_1 : w32.cell? ⟨gb612, 1, none⟩ = some (.int .i64 a2_1) := (blk_cell BK612.out 1).trans rfl; have hfz33_0 := blk_frozen BK612.out 0; have hfz33_1 := blk_frozen BK612.out 1) | ((with_reducible refine gate_callee (f := 20) rfl ?_); refine goesL_ (some 89) rfl rfl Try.func20 (by kernel_rfl) rfl #[.int .i64 a0, .int .i64 0, .agg #[.int .i64 a2_0, .int .i64 a2_1]] rfl (by (try simp only [List.map_toArray, List.map_cons, List.map_nil]); first | done | rfl | (simp only [List.length_drop, List.length_take]; rfl)) ?_; (with_reducible refine (meeting_Passed.calls kj10 a0 0 a2_0 a2_1 t622 t623 _ A29.out).mono ?_); rintro e w34 ⟨rfl, hb⟩; refine ⟨_, rfl, ?_⟩; have n0_ := Aside0.mk (blk_below (g := gb612) (o := .cells #[.int .i64 a2_0, .int .i64 a2_1] 23 (0, 0)) (by (with_reducible repeat (first | refine blk_drewN ?_ _ | refine blk_drew ?_ | refine blk_alloc ?_ _)); exact BK612.out) hb); have n1_ := Aside0.mk (below_step (by repeat (first | (with_reducible first | exact HB.out | apply below_alloc | apply pw_below_drewN | apply below_drew1 | refine below_set ?_ GE612.out) | exact HB.out)) hb); clear BK612; clear HB; have BK612 := n0_; have HB := n1_; clear n0_ n1_; (try clear hb); (try clear hb2); (try clear hk); (try clear hi)))
     (try simp only [Act.put, List.setIfInBounds_toArray, List.set_cons_zero, List.set_cons_succ])
     go_cut [113] (fun v113 wc => ∃ (kq : Nat) (x113_29 : Bool), v113 = .bool x113_29 ∧ Aside0 (cohousinglaw39_MeetingPassed.j1 kq a0 a1 a4 t613 t614 x113_29 a2_0 a2_1 = some r) ∧ Aside0 (kq ≤ kj10) ∧ Aside0 (wc.heap[gb612]? = some (.cells #[.int .i64 a2_0, .int .i64 a2_1] 23 (0, 0))) ∧ Aside0 (Below w.heap.size w wc))
     case first =>
      have H := HC30.out
      clear HC30
      by_cases c35 : t621 = 0
      ·rw [if_pos c35] at H
       have c35b0 : (t621 == 0) = true := beq_iff_eq.mpr c35
       have c35b1 : (t621 != 0) = false := bne_eq_false_iff_eq.mpr c35
       clear c35
       (first | rw [c35b0] | (simp only [i64_w, i32_w]; rw [c35b0]) | skip)
       by_cases c36 : t620 = true
       ·subst c36
        have H1 : (cohousinglaw39_MeetingPassed.j1 kj10 a0 a1 a4 t613 t614 true a2_0 a2_1) = some r := by rw [if_pos rfl] at H; exact H
        clear H
        have H := H1
        clear H1
        have H' := Aside0.mk H
        clear H
        go_wp2
        go_meet
        case rel => exact ⟨_, (true), (by first | rfl | (simp; done) | (simp [*]; done)), H', ⟨by have := HJ10.out; first | omega | exact Nat.le_refl _⟩, ⟨by (with_reducible repeat (first | refine blk_drewN ?_ _ | refine blk_drew ?_ | refine blk_alloc ?_ _)); exact BK612.out⟩, ⟨by repeat (first | (with_reducible first | exact HB.out | apply below_alloc | apply pw_below_drewN | apply below_drew1 | refine below_set ?_ GE612.out) | exact HB.out)⟩⟩
       ·replace c36 := Bool.eq_false_iff.mpr c36
        subst c36
        have H1 : (if t623 = 0 then (if a0 > 0 then (cohousinglaw39_MeetingPassed.j1 kj10 a0 a1 a4 t613 t614 (t622 != (decide (a2_0 < a2_1))) a2_0 a2_1) else (cohousinglaw39_MeetingPassed.j1 kj10 a0 a1 a4 t613 t614 (t622 != false) a2_0 a2_1)) else (cohousinglaw39_MeetingPassed.j1 kj10 a0 a1 a4 t613 t614 true a2_0 a2_1)) = some r := by rw [if_neg (show ¬ (false = true) by decide)] at H; exact H
        clear H
        have H := H1
        clear H1
        by_cases c37 : t623 = 0
        ·rw [if_pos c37] at H
         have c37b0 : (t623 == 0) = true := beq_iff_eq.mpr c37
         have c37b1 : (t623 != 0) = false := bne_eq_false_iff_eq.mpr c37
         clear c37
         by_cases c38 : a0 > 0
         ·rw [if_pos c38] at H
          have c38b0 : decide (0 < a0) = true := decide_eq_true c38
          clear c38
          have H' := Aside0.mk H
          clear H
          have hcz39_0 : w34.cell? ⟨gb612, 0, none⟩ = some (.int .i64 a2_0) := (blk_cell BK612.out 0).trans rfl
          have hcz39_1 : w34.cell? ⟨gb612, 1, none⟩ = some (.int .i64 a2_1) := (blk_cell BK612.out 1).trans rfl
          have hfz39_0 := blk_frozen BK612.out 0
          have hfz39_1 := blk_frozen BK612.out 1
          go_wp2
          go_meet
          case rel => exact ⟨_, ((t622 != (decide (a2_0 < a2_1)))), (by first | rfl | (simp; done) | (simp [*]; done)), H', ⟨by have := HJ10.out; first | omega | exact Nat.le_refl _⟩, ⟨by (with_reducible repeat (first | refine blk_drewN ?_ _ | refine blk_drew ?_ | refine blk_alloc ?_ _)); exact BK612.out⟩, ⟨by repeat (first | (with_reducible first | exact HB.out | apply below_alloc | apply pw_below_drewN | apply below_drew1 | refine below_set ?_ GE612.out) | exact HB.out)⟩⟩
         ·rw [if_neg c38] at H
          have c38b0 : decide (0 < a0) = false := decide_eq_false c38
          clear c38
          have H' := Aside0.mk H
          clear H
          go_wp2
          go_meet
          case rel => exact ⟨_, ((t622 != false)), (by first | rfl | (simp; done) | (simp [*]; done)), H', ⟨by have := HJ10.out; first | omega | exact Nat.le_refl _⟩, ⟨by (with_reducible repeat (first | refine blk_drewN ?_ _ | refine blk_drew ?_ | refine blk_alloc ?_ _)); exact BK612.out⟩, ⟨by repeat (first | (with_reducible first | exact HB.out | apply below_alloc | apply pw_below_drewN | apply below_drew1 | refine below_set ?_ GE612.out) | exact HB.out)⟩⟩
        ·rw [if_neg c37] at H
         have c37b0 : (t623 == 0) = false := beq_eq_false_iff_ne.mpr c37
         have c37b1 : (t623 != 0) = true := bne_iff_ne.mpr c37
         have H' := Aside0.mk H
         clear H
         go_wp2
         go_meet
         case rel => exact ⟨_, (true), (by first | rfl | (simp; done) | (simp [*]; done)), H', ⟨by have := HJ10.out; first | omega | exact Nat.le_refl _⟩, ⟨by (with_reducible repeat (first | refine blk_drewN ?_ _ | refine blk_drew ?_ | refine blk_alloc ?_ _)); exact BK612.out⟩, ⟨by repeat (first | (with_reducible first | exact HB.out | apply below_alloc | apply pw_below_drewN | apply below_drew1 | refine below_set ?_ GE612.out) | exact HB.out)⟩⟩
      ·rw [if_neg c35] at H
       have c35b0 : (t621 == 0) = false := beq_eq_false_iff_ne.mpr c35
       have c35b1 : (t621 != 0) = true := bne_iff_ne.mpr c35
       (first | rw [c35b0] | (simp only [i64_w, i32_w]; rw [c35b0]) | skip)
       have H' := Aside0.mk H
       clear H
       go_wp2
       go_meet
       case rel => exact ⟨_, (true), (by first | rfl | (simp; done) | (simp [*]; done)), H', ⟨by have := HJ10.out; first | omega | exact Nat.le_refl _⟩, ⟨by (with_reducible repeat (first | refine blk_drewN ?_ _ | refine blk_drew ?_ | refine blk_alloc ?_ _)); exact BK612.out⟩, ⟨by repeat (first | (with_reducible first | exact HB.out | apply below_alloc | apply pw_below_drewN | apply below_drew1 | refine below_set ?_ GE612.out) | exact HB.out)⟩⟩
     case rest =>
      clear HC30
      try clear c1
      try clear c2
      try clear p2
      try clear c3
      try clear p6
      try clear c8
      try clear c8b0
      try clear c8b1
      try clear c9
      try clear c11
      try clear c20
      try clear c20b0
      try clear c20b1
      try clear c21
      try clear c22
      try clear c23
      try clear c23b0
      try clear c23b1
      try clear c24
      try clear c24b0
      try clear c24b1
      try clear c25
      try clear c25b0
      try clear c25b1
      try clear c26
      try clear c27
      try clear c35
      try clear c35b0
      try clear c35b1
      try clear c36
      try clear c37
      try clear c37b0
      try clear c37b1
      try clear c38
      try clear c38b0
      try clear hcz14_0
      try clear hcz14_1
      try clear hcz16_0
      try clear hcz16_1
      try clear hcz18_0
      try clear hcz18_1
      try clear hcz31_0
      try clear hcz31_1
      try clear hcz33_0
      try clear hcz33_1
      try clear hcz39_0
      try clear hcz39_1
      try clear hfz14_0
      try clear hfz14_1
      try clear hfz16_0
      try clear hfz16_1
      try clear hfz18_0
      try clear hfz18_1
      try clear hfz31_0
      try clear hfz31_1
      try clear hfz33_0
      try clear hfz33_1
      try clear hfz39_0
      try clear hfz39_1
      try clear p2
      try clear p6
      obtain ⟨kq, x113_29, rfl, HA, HJ29, BK612, HB⟩ := hcut
      cases kq with
      | zero => exact absurd HA.out (by simp [cohousinglaw39_MeetingPassed.j1])
      | succ kj29 =>
       have H := HA.out
       clear HA
       simp only [cohousinglaw39_MeetingPassed.j1] at H
       by_cases c40 : x113_29 = true
       ·subst c40
        have H1 : (some false) = some r := by rw [if_pos rfl] at H; exact H
        clear H
        have H := H1
        clear H1
        obtain rfl := Option.some.inj H
        go_wp2
        go_ret
        exact ⟨by first | rfl | (simp [errW_none, errW_some] <;> rfl) | (simp [*, errW_none, errW_some] <;> rfl), by repeat (first | (with_reducible first | exact HB.out | apply below_alloc | apply pw_below_drewN | apply below_drew1 | refine below_set ?_ GE612.out) | exact HB.out)⟩
       ·replace c40 := Bool.eq_false_iff.mpr c40
        subst c40
        have H1 : ((meeting_Passed.f kj29 (wrap64 ((wrap64 (1 + (wrap64 (a4)))) * a0)) (wrap64 ((wrap64 (1 + (wrap64 (a4)))) * a1)) a2_0 a2_1).bind fun bt624 => (if t613 = true then (if bt624.2 = 0 then (some (bt624.1 == t614)) else (some true)) else (some false))) = some r := by rw [if_neg (show ¬ (false = true) by decide)] at H; exact H
        clear H
        have H := H1
        clear H1
        replace H := Option.bind_eq_some_iff.mp H
        obtain ⟨⟨t624, t625⟩, A410, H⟩ := H
        replace H : (if t613 = true then (if t625 = 0 then (some (t624 == t614)) else (some true)) else (some false)) = some r := H
        have A41 := Aside0.mk A410
        clear A410
        by_cases c42 : t613 = true
        ·subst c42
         have H1 : (if t625 = 0 then (some (t624 == t614)) else (some true)) = some r := by rw [if_pos rfl] at H; exact H
         clear H
         have H := H1
         clear H1
         by_cases c43 : t625 = 0
         ·rw [if_pos c43] at H
          have c43b0 : (t625 == 0) = true := beq_iff_eq.mpr c43
          have c43b1 : (t625 != 0) = false := bne_eq_false_iff_eq.mpr c43
          clear c43
          obtain rfl := Option.some.inj H
          have hcz44_0 : wc.cell? ⟨gb612, 0, none⟩ = some (.int .i64 a2_0) := (blk_cell BK612.out 0).trans rfl
          have hcz44_1 : wc.cell? ⟨gb612, 1, none⟩ = some (.int .i64 a2_1) := (blk_cell BK612.out 1).trans rfl
          have hfz44_0 := blk_frozen BK612.out 0
          have hfz44_1 := blk_frozen BK612.out 1
          go_wp2_with (first | ((with_reducible refine gate_callee (f := 20) rfl ?_); refine goesL_ (some 125) rfl rfl Try.func20 (by kernel_rfl) rfl #[.int .i64 (wrap64 ((wrap64 (1 + (wrap64 (a4)))) * a0)), .int .i64 (wrap64 ((wrap64 (1 + (wrap64 (a4)))) * a1)), .agg #[.int .i64 a2_0, .int .i64 a2_1]] rfl (by (try simp only [List.map_toArray, List.map_cons, List.map_nil]); first | done | rfl | (simp only [List.length_drop, List.length_take]; rfl)) ?_; (with_reducible refine (meeting_Passed.calls kj29 (wrap64 ((wrap64 (1 + (wrap64 (a4)))) * a0)) (wrap64 ((wrap64 (1 + (wrap64 (a4)))) * a1)) a2_0 a2_1 t624 t625 _ A41.out).mono ?_); rintro e w45 ⟨rfl, hb⟩; refine ⟨_, rfl, ?_⟩; have n0_ := Aside0.mk (blk_below (g := gb612) (o := .cells #[.int .i64 a2_0, .int .i64 a2_1] 23 (0, 0)) (by (with_reducible repeat (first | refine blk_drewN ?_ _ | refine blk_drew ?_ | refine blk_alloc ?_ _)); exact BK612.out) hb); have n1_ := Aside0.mk (below_step (by repeat (first | (with_reducible first | exact HB.out | apply below_alloc | apply pw_below_drewN | apply below_drew1 | refine below_set ?_ GE612.out) | exact HB.out)) hb); clear BK612; clear HB; have BK612 := n0_; have HB := n1_; clear n0_ n1_; (try clear hb); (try clear hb2); (try clear hk); (try clear hi)))
          go_ret
          exact ⟨by first | rfl | (simp [errW_none, errW_some] <;> rfl) | (simp [*, errW_none, errW_some] <;> rfl), by repeat (first | (with_reducible first | exact HB.out | apply below_alloc | apply pw_below_drewN | apply below_drew1 | refine below_set ?_ GE612.out) | exact HB.out)⟩
         ·rw [if_neg c43] at H
          have c43b0 : (t625 == 0) = false := beq_eq_false_iff_ne.mpr c43
          have c43b1 : (t625 != 0) = true := bne_iff_ne.mpr c43
          obtain rfl := Option.some.inj H
          have hcz46_0 : wc.cell? ⟨gb612, 0, none⟩ = some (.int .i64 a2_0) := (blk_cell BK612.out 0).trans rfl
          have hcz46_1 : wc.cell? ⟨gb612, 1, none⟩ = some (.int .i64 a2_1) := (blk_cell BK612.out 1).trans rfl
          have hfz46_0 := blk_frozen BK612.out 0
          have hfz46_1 := blk_frozen BK612.out 1
          go_wp2_with (first | ((with_reducible refine gate_callee (f := 20) rfl ?_); refine goesL_ (some 125) rfl rfl Try.func20 (by kernel_rfl) rfl #[.int .i64 (wrap64 ((wrap64 (1 + (wrap64 (a4)))) * a0)), .int .i64 (wrap64 ((wrap64 (1 + (wrap64 (a4)))) * a1)), .agg #[.int .i64 a2_0, .int .i64 a2_1]] rfl (by (try simp only [List.map_toArray, List.map_cons, List.map_nil]); first | done | rfl | (simp only [List.length_drop, List.length_take]; rfl)) ?_; (with_reducible refine (meeting_Passed.calls kj29 (wrap64 ((wrap64 (1 + (wrap64 (a4)))) * a0)) (wrap64 ((wrap64 (1 + (wrap64 (a4)))) * a1)) a2_0 a2_1 t624 t625 _ A41.out).mono ?_); rintro e w47 ⟨rfl, hb⟩; refine ⟨_, rfl, ?_⟩; have n0_ := Aside0.mk (blk_below (g := gb612) (o := .cells #[.int .i64 a2_0, .int .i64 a2_1] 23 (0, 0)) (by (with_reducible repeat (first | refine blk_drewN ?_ _ | refine blk_drew ?_ | refine blk_alloc ?_ _)); exact BK612.out) hb); have n1_ := Aside0.mk (below_step (by repeat (first | (with_reducible first | exact HB.out | apply below_alloc | apply pw_below_drewN | apply below_drew1 | refine below_set ?_ GE612.out) | exact HB.out)) hb); clear BK612; clear HB; have BK612 := n0_; have HB := n1_; clear n0_ n1_; (try clear hb); (try clear hb2); (try clear hk); (try clear hi)))
          go_ret
          exact ⟨by first | rfl | (simp [errW_none, errW_some] <;> rfl) | (simp [*, errW_none, errW_some] <;> rfl), by repeat (first | (with_reducible first | exact HB.out | apply below_alloc | apply pw_below_drewN | apply below_drew1 | refine below_set ?_ GE612.out) | exact HB.out)⟩
        ·replace c42 := Bool.eq_false_iff.mpr c42
         subst c42
         have H1 : (some false) = some r := by rw [if_neg (show ¬ (false = true) by decide)] at H; exact H
         clear H
         have H := H1
         clear H1
         obtain rfl := Option.some.inj H
         have hcz48_0 : wc.cell? ⟨gb612, 0, none⟩ = some (.int .i64 a2_0) := (blk_cell BK612.out 0).trans rfl
         have hcz48_1 : wc.cell? ⟨gb612, 1, none⟩ = some (.int .i64 a2_1) := (blk_cell BK612.out 1).trans rfl
         have hfz48_0 := blk_frozen BK612.out 0
         have hfz48_1 := blk_frozen BK612.out 1
         go_wp2_with (first | ((with_reducible refine gate_callee (f := 20) rfl ?_); refine goesL_ (some 125) rfl rfl Try.func20 (by kernel_rfl) rfl #[.int .i64 (wrap64 ((wrap64 (1 + (wrap64 (a4)))) * a0)), .int .i64 (wrap64 ((wrap64 (1 + (wrap64 (a4)))) * a1)), .agg #[.int .i64 a2_0, .int .i64 a2_1]] rfl (by (try simp only [List.map_toArray, List.map_cons, List.map_nil]); first | done | rfl | (simp only [List.length_drop, List.length_take]; rfl)) ?_; (with_reducible refine (meeting_Passed.calls kj29 (wrap64 ((wrap64 (1 + (wrap64 (a4)))) * a0)) (wrap64 ((wrap64 (1 + (wrap64 (a4)))) * a1)) a2_0 a2_1 t624 t625 _ A41.out).mono ?_); rintro e w49 ⟨rfl, hb⟩; refine ⟨_, rfl, ?_⟩; have n0_ := Aside0.mk (blk_below (g := gb612) (o := .cells #[.int .i64 a2_0, .int .i64 a2_1] 23 (0, 0)) (by (with_reducible repeat (first | refine blk_drewN ?_ _ | refine blk_drew ?_ | refine blk_alloc ?_ _)); exact BK612.out) hb); have n1_ := Aside0.mk (below_step (by repeat (first | (with_reducible first | exact HB.out | apply below_alloc | apply pw_below_drewN | apply below_drew1 | refine below_set ?_ GE612.out) | exact HB.out)) hb); clear BK612; clear HB; have BK612 := n0_; have HB := n1_; clear n0_ n1_; (try clear hb); (try clear hb2); (try clear hk); (try clear hi)))
         go_ret
         exact ⟨by first | rfl | (simp [errW_none, errW_some] <;> rfl) | (simp [*, errW_none, errW_some] <;> rfl), by repeat (first | (with_reducible first | exact HB.out | apply below_alloc | apply pw_below_drewN | apply below_drew1 | refine below_set ?_ GE612.out) | exact HB.out)⟩
 ·rw [if_neg c8] at H
  have c8b0 : (t615 == 0) = false := beq_eq_false_iff_ne.mpr c8
  have c8b1 : (t615 != 0) = true := bne_iff_ne.mpr c8
  by_cases c50 : t613 = true
  ·subst c50
   have H1 : (some (!t614)) = some r := by rw [if_pos rfl] at H; exact H
   clear H
   have H := H1
   clear H1
   obtain rfl := Option.some.inj H
   go_enter Try.func9, Try.ntmps9
   go_wp2_with (first | ((with_reducible refine gate_dst (N := 7) rfl ?_); refine box_event ?hg (N := 7) ?hd (cs := #[.int .i64 a2_0, .int .i64 a2_1]) (t := 23) ?hr ?_; (case hd => rfl); (case hg => rfl); (case hr => first | (go_simp; done) | (go_simp; rfl)); intro gb612 hg w51 hbox hb; have n0_ := Aside0.mk (below_step (by repeat (first | (with_reducible first | exact HB.out | apply below_alloc | apply pw_below_drewN | apply below_drew1) | exact HB.out)) hb); have n1_ := Aside0.mk (hbox); have n2_ := Aside0.mk ((by rw [hg]; exact (below_size (by repeat (first | (with_reducible first | exact HB.out | apply below_alloc | apply pw_below_drewN | apply below_drew1) | exact HB.out))) : w.heap.size ≤ gb612)); have n3_ := Aside0.mk ((by rw [hg]; exact (below_size (by repeat (first | (with_reducible first | exact HB.out | apply below_alloc | apply pw_below_drewN | apply below_drew1) | exact HB.out))) : w.heap.size ≤ gb612)); clear HB; have HB := n0_; have BK612 := n1_; have GW612 := n2_; have GE612 := n3_; clear n0_ n1_ n2_ n3_; clear hb hbox hg) | ((with_reducible refine gate_callee (f := 11) rfl ?_); refine goesL_ (some 25) rfl rfl Try.func11 (by kernel_rfl) rfl #[] rfl (by (try simp only [List.map_toArray, List.map_cons, List.map_nil]); first | done | rfl | (simp only [List.length_drop, List.length_take]; rfl)) ?_; (with_reducible refine (cohousinglaw39_head.calls k  true _ A6.out).mono ?_); rintro e w52 ⟨rfl, hb⟩; refine ⟨_, rfl, ?_⟩; have n0_ := Aside0.mk (blk_below (g := gb612) (o := .cells #[.int .i64 a2_0, .int .i64 a2_1] 23 (0, 0)) (by (with_reducible repeat (first | refine blk_drewN ?_ _ | refine blk_drew ?_ | refine blk_alloc ?_ _)); exact BK612.out) hb); have n1_ := Aside0.mk (below_step (by repeat (first | (with_reducible first | exact HB.out | apply below_alloc | apply pw_below_drewN | apply below_drew1 | refine below_set ?_ GE612.out) | exact HB.out)) hb); clear BK612; clear HB; have BK612 := n0_; have HB := n1_; clear n0_ n1_; (try clear hb); (try clear hb2); (try clear hk); (try clear hi); have hcz53_0 : w52.cell? ⟨gb612, 0, none⟩ = some (.int .i64 a2_0) := (blk_cell BK612.out 0).trans rfl; have hcz53_1 : w52.cell? ⟨gb612, 1, none⟩ = some (.int .i64 a2_1) := (blk_cell BK612.out 1).trans rfl; have hfz53_0 := blk_frozen BK612.out 0; have hfz53_1 := blk_frozen BK612.out 1) | ((with_reducible refine gate_callee (f := 20) rfl ?_); refine goesL_ (some 30) rfl rfl Try.func20 (by kernel_rfl) rfl #[.int .i64 a0, .int .i64 a1, .agg #[.int .i64 a2_0, .int .i64 a2_1]] rfl (by (try simp only [List.map_toArray, List.map_cons, List.map_nil]); first | done | rfl | (simp only [List.length_drop, List.length_take]; rfl)) ?_; (with_reducible refine (meeting_Passed.calls k a0 a1 a2_0 a2_1 t614 t615 _ A7.out).mono ?_); rintro e w54 ⟨rfl, hb⟩; refine ⟨_, rfl, ?_⟩; have n0_ := Aside0.mk (blk_below (g := gb612) (o := .cells #[.int .i64 a2_0, .int .i64 a2_1] 23 (0, 0)) (by (with_reducible repeat (first | refine blk_drewN ?_ _ | refine blk_drew ?_ | refine blk_alloc ?_ _)); exact BK612.out) hb); have n1_ := Aside0.mk (below_step (by repeat (first | (with_reducible first | exact HB.out | apply below_alloc | apply pw_below_drewN | apply below_drew1 | refine below_set ?_ GE612.out) | exact HB.out)) hb); clear BK612; clear HB; have BK612 := n0_; have HB := n1_; clear n0_ n1_; (try clear hb); (try clear hb2); (try clear hk); (try clear hi)))
   go_ret
   exact ⟨by first | rfl | (simp [errW_none, errW_some] <;> rfl) | (simp [*, errW_none, errW_some] <;> rfl), by repeat (first | (with_reducible first | exact HB.out | apply below_alloc | apply pw_below_drewN | apply below_drew1 | refine below_set ?_ GE612.out) | exact HB.out)⟩
  ·replace c50 := Bool.eq_false_iff.mpr c50
   subst c50
   have H1 : (some false) = some r := by rw [if_neg (show ¬ (false = true) by decide)] at H; exact H
   clear H
   have H := H1
   clear H1
   obtain rfl := Option.some.inj H
   go_enter Try.func9, Try.ntmps9
   go_wp2_with (first | ((with_reducible refine gate_dst (N := 7) rfl ?_); refine box_event ?hg (N := 7) ?hd (cs := #[.int .i64 a2_0, .int .i64 a2_1]) (t := 23) ?hr ?_; (case hd => rfl); (case hg => rfl); (case hr => first | (go_simp; done) | (go_simp; rfl)); intro gb612 hg w55 hbox hb; have n0_ := Aside0.mk (below_step (by repeat (first | (with_reducible first | exact HB.out | apply below_alloc | apply pw_below_drewN | apply below_drew1) | exact HB.out)) hb); have n1_ := Aside0.mk (hbox); have n2_ := Aside0.mk ((by rw [hg]; exact (below_size (by repeat (first | (with_reducible first | exact HB.out | apply below_alloc | apply pw_below_drewN | apply below_drew1) | exact HB.out))) : w.heap.size ≤ gb612)); have n3_ := Aside0.mk ((by rw [hg]; exact (below_size (by repeat (first | (with_reducible first | exact HB.out | apply below_alloc | apply pw_below_drewN | apply below_drew1) | exact HB.out))) : w.heap.size ≤ gb612)); clear HB; have HB := n0_; have BK612 := n1_; have GW612 := n2_; have GE612 := n3_; clear n0_ n1_ n2_ n3_; clear hb hbox hg) | ((with_reducible refine gate_callee (f := 11) rfl ?_); refine goesL_ (some 25) rfl rfl Try.func11 (by kernel_rfl) rfl #[] rfl (by (try simp only [List.map_toArray, List.map_cons, List.map_nil]); first | done | rfl | (simp only [List.length_drop, List.length_take]; rfl)) ?_; (with_reducible refine (cohousinglaw39_head.calls k  false _ A6.out).mono ?_); rintro e w56 ⟨rfl, hb⟩; refine ⟨_, rfl, ?_⟩; have n0_ := Aside0.mk (blk_below (g := gb612) (o := .cells #[.int .i64 a2_0, .int .i64 a2_1] 23 (0, 0)) (by (with_reducible repeat (first | refine blk_drewN ?_ _ | refine blk_drew ?_ | refine blk_alloc ?_ _)); exact BK612.out) hb); have n1_ := Aside0.mk (below_step (by repeat (first | (with_reducible first | exact HB.out | apply below_alloc | apply pw_below_drewN | apply below_drew1 | refine below_set ?_ GE612.out) | exact HB.out)) hb); clear BK612; clear HB; have BK612 := n0_; have HB := n1_; clear n0_ n1_; (try clear hb); (try clear hb2); (try clear hk); (try clear hi); have hcz57_0 : w56.cell? ⟨gb612, 0, none⟩ = some (.int .i64 a2_0) := (blk_cell BK612.out 0).trans rfl; have hcz57_1 : w56.cell? ⟨gb612, 1, none⟩ = some (.int .i64 a2_1) := (blk_cell BK612.out 1).trans rfl; have hfz57_0 := blk_frozen BK612.out 0; have hfz57_1 := blk_frozen BK612.out 1) | ((with_reducible refine gate_callee (f := 20) rfl ?_); refine goesL_ (some 30) rfl rfl Try.func20 (by kernel_rfl) rfl #[.int .i64 a0, .int .i64 a1, .agg #[.int .i64 a2_0, .int .i64 a2_1]] rfl (by (try simp only [List.map_toArray, List.map_cons, List.map_nil]); first | done | rfl | (simp only [List.length_drop, List.length_take]; rfl)) ?_; (with_reducible refine (meeting_Passed.calls k a0 a1 a2_0 a2_1 t614 t615 _ A7.out).mono ?_); rintro e w58 ⟨rfl, hb⟩; refine ⟨_, rfl, ?_⟩; have n0_ := Aside0.mk (blk_below (g := gb612) (o := .cells #[.int .i64 a2_0, .int .i64 a2_1] 23 (0, 0)) (by (with_reducible repeat (first | refine blk_drewN ?_ _ | refine blk_drew ?_ | refine blk_alloc ?_ _)); exact BK612.out) hb); have n1_ := Aside0.mk (below_step (by repeat (first | (with_reducible first | exact HB.out | apply below_alloc | apply pw_below_drewN | apply below_drew1 | refine below_set ?_ GE612.out) | exact HB.out)) hb); clear BK612; clear HB; have BK612 := n0_; have HB := n1_; clear n0_ n1_; (try clear hb); (try clear hb2); (try clear hk); (try clear hi)))
   go_ret
   exact ⟨by first | rfl | (simp [errW_none, errW_some] <;> rfl) | (simp [*, errW_none, errW_some] <;> rfl), by repeat (first | (with_reducible first | exact HB.out | apply below_alloc | apply pw_below_drewN | apply below_drew1 | refine below_set ?_ GE612.out) | exact HB.out)⟩
-- NOT PRINTED: function 10 (cohousinglaw39_MeetingProxies)
end Go.Proofs.Ytemnlgefngjliaa.Px
