/- Contracts of Go functions, written by a program of this session's own (wip/tools/myprint.py) out of the translation: each Go function does what the Lean function of its name says. Conditions: as each theorem states. -/
import Derived.Test.YtjkpojedegmciaaDoorPx0
import Derived.Test.YtjkpojedegmciaaDoorPx1
import Derived.Test.YtjkpojedegmciaaDoorPx3
import Derived.Test.YtjkpojedegmciaaDoorPx4
import Derived.Test.YtjkpojedegmciaaDoorPx5
import Derived.Test.YtjkpojedegmciaaDoorPx6
namespace Go.Proofs.YtjkpojedegmciaaDoor.Px
open Go.Proofs.YtjkpojedegmciaaDoor.Given
open Go.RowKit Go.Proofs.YtjkpojedegmciaaDoorW.PrintWords Go.Proofs.YtjkpojedegmciaaDoorW.PrintLast Go.Proofs.YtjkpojedegmciaaDoorW.PrintMore
attribute [local go_sem] max2_int min2_int max_two min_two max_three min_three max_four min_four   -- for this text's walks alone
set_option linter.unusedVariables false
set_option linter.unusedSimpArgs false

attribute [local go_sem high] eqA32
/-! ### cohousinglaw03_head: function 11 -/
def cohousinglaw03_head.j0 : Nat → Bool → Option (Bool)
  | 0, _ => none
  | k + 1, x15 => (calendar_Deadline.f k 2 5 1 ([] : List Int)).bind fun bt154 => ((calendar_Deadline.f k 2 5 1 (([9] : List Int))).bind fun bt159 => ((calendar_Deadline.f k 2 4 2 ([] : List Int)).bind fun bt161 => ((calendar_Day.f k 2001 2 29).bind fun bt163 => ((calendar_Working.f k 2 ([] : List Int)).bind fun bt165 => (if x15 = true then (if bt154.2 = 0 then (if bt154.1 = 9 then (if bt159.2 = 0 then (if bt159.1 = 10 then (if bt161.2 = 0 then (if bt161.1 = 9 then (if bt163.2 = 3 then (if bt165.2 = 0 then (some bt165.1) else (some false)) else (some false)) else (some false)) else (some false)) else (some false)) else (some false)) else (some false)) else (some false)) else (some false))))))
def cohousinglaw03_head.f (k : Nat)  : Option (Bool) := (calendar_Date.f k 0).bind fun bt138 => ((calendar_Weekday.f 0).bind fun bt142 => ((calendar_Day.f k 2000 2 29).bind fun bt144 => ((calendar_Day.f k 2099 12 31).bind fun bt146 => ((calendar_Month.f k 366).bind fun bt148 => ((calendar_Days.f k 1).bind fun bt150 => (if bt138.2.2.2 = 0 then (if bt138.1 = 2000 then (if bt138.2.1 = 1 then (if bt138.2.2.1 = 1 then (if bt142.2 = 0 then (if bt142.1 = 5 then (if bt144.2 = 0 then (if bt144.1 = 59 then (if bt146.2 = 0 then (if bt146.1 = 36524 then (if bt148.2 = 0 then (if bt148.1 = 12 then (if bt150.2.2 = 0 then (cohousinglaw03_head.j0 k (bt150.1 == 31 && (bt150.2.1 == 60))) else (cohousinglaw03_head.j0 k false)) else (cohousinglaw03_head.j0 k false)) else (cohousinglaw03_head.j0 k false)) else (cohousinglaw03_head.j0 k false)) else (cohousinglaw03_head.j0 k false)) else (cohousinglaw03_head.j0 k false)) else (cohousinglaw03_head.j0 k false)) else (cohousinglaw03_head.j0 k false)) else (cohousinglaw03_head.j0 k false)) else (cohousinglaw03_head.j0 k false)) else (cohousinglaw03_head.j0 k false)) else (cohousinglaw03_head.j0 k false)) else (cohousinglaw03_head.j0 k false)))))))
theorem cohousinglaw03_head.mono_l : ∀ k, (∀ y0, LeO (cohousinglaw03_head.j0 k y0) (cohousinglaw03_head.j0 (k + 1) y0))
  | 0 => fun _ r h => by simp [cohousinglaw03_head.j0] at h
  | k + 1 => by
    have ih0 := cohousinglaw03_head.mono_l k
    · intro y0
      unfold cohousinglaw03_head.j0
      repeat' first
      | (with_reducible exact ih0 _)
      | (with_reducible exact calendar_Date.mono _ _)
      | (with_reducible exact calendar_Day.mono _ _ _ _)
      | (with_reducible exact calendar_Days.mono _ _)
      | (with_reducible exact calendar_Deadline.mono _ _ _ _ _)
      | (with_reducible exact calendar_Month.mono _ _)
      | (with_reducible exact calendar_Working.mono _ _ _)
      | (with_reducible exact LeO.refl _)
      | (with_reducible exact LeO.none _)
      | (with_reducible refine LeO.ite ?_ ?_)
      | (with_reducible refine LeO.bind ?_ (fun _ => ?_))
      | exact ih0 _
      | exact calendar_Date.mono _ _
      | exact calendar_Day.mono _ _ _ _
      | exact calendar_Days.mono _ _
      | exact calendar_Deadline.mono _ _ _ _ _
      | exact calendar_Month.mono _ _
      | exact calendar_Working.mono _ _ _
      | exact LeO.none _
      | refine LeO.ite ?_ ?_
      | refine LeO.bind ?_ (fun _ => ?_)
theorem cohousinglaw03_head.mono : ∀ k, LeO (cohousinglaw03_head.f k ) (cohousinglaw03_head.f (k + 1) ) := by
  intro  k
  have ih0 := cohousinglaw03_head.mono_l k
  unfold cohousinglaw03_head.f
  repeat' first
      | (with_reducible exact ih0 _)
      | (with_reducible exact calendar_Date.mono _ _)
      | (with_reducible exact calendar_Day.mono _ _ _ _)
      | (with_reducible exact calendar_Days.mono _ _)
      | (with_reducible exact calendar_Deadline.mono _ _ _ _ _)
      | (with_reducible exact calendar_Month.mono _ _)
      | (with_reducible exact calendar_Working.mono _ _ _)
      | (with_reducible exact LeO.refl _)
      | (with_reducible exact LeO.none _)
      | (with_reducible refine LeO.ite ?_ ?_)
      | (with_reducible refine LeO.bind ?_ (fun _ => ?_))
      | exact ih0 _
      | exact calendar_Date.mono _ _
      | exact calendar_Day.mono _ _ _ _
      | exact calendar_Days.mono _ _
      | exact calendar_Deadline.mono _ _ _ _ _
      | exact calendar_Month.mono _ _
      | exact calendar_Working.mono _ _ _
      | exact LeO.none _
      | refine LeO.ite ?_ ?_
      | refine LeO.bind ?_ (fun _ => ?_)
set_option maxHeartbeats 8000000 in
set_option maxRecDepth 100000 in
theorem cohousinglaw03_head.calls (k : Nat)  (r : Bool) (w : World) (HT : TabOK w) (h : cohousinglaw03_head.f k  = some r) :
    Calls Tryd.prog 11 #[] w fun e w' => e = .returned (.bool r) ∧ Below w.heap.size w w' := by
  have hu32 := Tryd.underlying32
  have HTA := Aside0.mk HT
  clear HT
  have HB := Aside0.mk (Below.refl w.heap.size w)
  have H : ((calendar_Date.f k 0).bind fun bt138 => ((calendar_Weekday.f 0).bind fun bt142 => ((calendar_Day.f k 2000 2 29).bind fun bt144 => ((calendar_Day.f k 2099 12 31).bind fun bt146 => ((calendar_Month.f k 366).bind fun bt148 => ((calendar_Days.f k 1).bind fun bt150 => (if bt138.2.2.2 = 0 then (if bt138.1 = 2000 then (if bt138.2.1 = 1 then (if bt138.2.2.1 = 1 then (if bt142.2 = 0 then (if bt142.1 = 5 then (if bt144.2 = 0 then (if bt144.1 = 59 then (if bt146.2 = 0 then (if bt146.1 = 36524 then (if bt148.2 = 0 then (if bt148.1 = 12 then (if bt150.2.2 = 0 then (cohousinglaw03_head.j0 k (bt150.1 == 31 && (bt150.2.1 == 60))) else (cohousinglaw03_head.j0 k false)) else (cohousinglaw03_head.j0 k false)) else (cohousinglaw03_head.j0 k false)) else (cohousinglaw03_head.j0 k false)) else (cohousinglaw03_head.j0 k false)) else (cohousinglaw03_head.j0 k false)) else (cohousinglaw03_head.j0 k false)) else (cohousinglaw03_head.j0 k false)) else (cohousinglaw03_head.j0 k false)) else (cohousinglaw03_head.j0 k false)) else (cohousinglaw03_head.j0 k false)) else (cohousinglaw03_head.j0 k false)) else (cohousinglaw03_head.j0 k false)))))))) = some r := h
  clear h
  replace H := Option.bind_eq_some_iff.mp H
  obtain ⟨⟨t138, t139, t140, t141⟩, A10, H⟩ := H
  replace H : ((calendar_Weekday.f 0).bind fun bt142 => ((calendar_Day.f k 2000 2 29).bind fun bt144 => ((calendar_Day.f k 2099 12 31).bind fun bt146 => ((calendar_Month.f k 366).bind fun bt148 => ((calendar_Days.f k 1).bind fun bt150 => (if t141 = 0 then (if t138 = 2000 then (if t139 = 1 then (if t140 = 1 then (if bt142.2 = 0 then (if bt142.1 = 5 then (if bt144.2 = 0 then (if bt144.1 = 59 then (if bt146.2 = 0 then (if bt146.1 = 36524 then (if bt148.2 = 0 then (if bt148.1 = 12 then (if bt150.2.2 = 0 then (cohousinglaw03_head.j0 k (bt150.1 == 31 && (bt150.2.1 == 60))) else (cohousinglaw03_head.j0 k false)) else (cohousinglaw03_head.j0 k false)) else (cohousinglaw03_head.j0 k false)) else (cohousinglaw03_head.j0 k false)) else (cohousinglaw03_head.j0 k false)) else (cohousinglaw03_head.j0 k false)) else (cohousinglaw03_head.j0 k false)) else (cohousinglaw03_head.j0 k false)) else (cohousinglaw03_head.j0 k false)) else (cohousinglaw03_head.j0 k false)) else (cohousinglaw03_head.j0 k false)) else (cohousinglaw03_head.j0 k false)) else (cohousinglaw03_head.j0 k false))))))) = some r := H
  have A1 := Aside0.mk A10
  clear A10
  replace H := Option.bind_eq_some_iff.mp H
  obtain ⟨⟨t142, t143⟩, A20, H⟩ := H
  replace H : ((calendar_Day.f k 2000 2 29).bind fun bt144 => ((calendar_Day.f k 2099 12 31).bind fun bt146 => ((calendar_Month.f k 366).bind fun bt148 => ((calendar_Days.f k 1).bind fun bt150 => (if t141 = 0 then (if t138 = 2000 then (if t139 = 1 then (if t140 = 1 then (if t143 = 0 then (if t142 = 5 then (if bt144.2 = 0 then (if bt144.1 = 59 then (if bt146.2 = 0 then (if bt146.1 = 36524 then (if bt148.2 = 0 then (if bt148.1 = 12 then (if bt150.2.2 = 0 then (cohousinglaw03_head.j0 k (bt150.1 == 31 && (bt150.2.1 == 60))) else (cohousinglaw03_head.j0 k false)) else (cohousinglaw03_head.j0 k false)) else (cohousinglaw03_head.j0 k false)) else (cohousinglaw03_head.j0 k false)) else (cohousinglaw03_head.j0 k false)) else (cohousinglaw03_head.j0 k false)) else (cohousinglaw03_head.j0 k false)) else (cohousinglaw03_head.j0 k false)) else (cohousinglaw03_head.j0 k false)) else (cohousinglaw03_head.j0 k false)) else (cohousinglaw03_head.j0 k false)) else (cohousinglaw03_head.j0 k false)) else (cohousinglaw03_head.j0 k false)))))) = some r := H
  have A2 := Aside0.mk A20
  clear A20
  replace H := Option.bind_eq_some_iff.mp H
  obtain ⟨⟨t144, t145⟩, A30, H⟩ := H
  replace H : ((calendar_Day.f k 2099 12 31).bind fun bt146 => ((calendar_Month.f k 366).bind fun bt148 => ((calendar_Days.f k 1).bind fun bt150 => (if t141 = 0 then (if t138 = 2000 then (if t139 = 1 then (if t140 = 1 then (if t143 = 0 then (if t142 = 5 then (if t145 = 0 then (if t144 = 59 then (if bt146.2 = 0 then (if bt146.1 = 36524 then (if bt148.2 = 0 then (if bt148.1 = 12 then (if bt150.2.2 = 0 then (cohousinglaw03_head.j0 k (bt150.1 == 31 && (bt150.2.1 == 60))) else (cohousinglaw03_head.j0 k false)) else (cohousinglaw03_head.j0 k false)) else (cohousinglaw03_head.j0 k false)) else (cohousinglaw03_head.j0 k false)) else (cohousinglaw03_head.j0 k false)) else (cohousinglaw03_head.j0 k false)) else (cohousinglaw03_head.j0 k false)) else (cohousinglaw03_head.j0 k false)) else (cohousinglaw03_head.j0 k false)) else (cohousinglaw03_head.j0 k false)) else (cohousinglaw03_head.j0 k false)) else (cohousinglaw03_head.j0 k false)) else (cohousinglaw03_head.j0 k false))))) = some r := H
  have A3 := Aside0.mk A30
  clear A30
  replace H := Option.bind_eq_some_iff.mp H
  obtain ⟨⟨t146, t147⟩, A40, H⟩ := H
  replace H : ((calendar_Month.f k 366).bind fun bt148 => ((calendar_Days.f k 1).bind fun bt150 => (if t141 = 0 then (if t138 = 2000 then (if t139 = 1 then (if t140 = 1 then (if t143 = 0 then (if t142 = 5 then (if t145 = 0 then (if t144 = 59 then (if t147 = 0 then (if t146 = 36524 then (if bt148.2 = 0 then (if bt148.1 = 12 then (if bt150.2.2 = 0 then (cohousinglaw03_head.j0 k (bt150.1 == 31 && (bt150.2.1 == 60))) else (cohousinglaw03_head.j0 k false)) else (cohousinglaw03_head.j0 k false)) else (cohousinglaw03_head.j0 k false)) else (cohousinglaw03_head.j0 k false)) else (cohousinglaw03_head.j0 k false)) else (cohousinglaw03_head.j0 k false)) else (cohousinglaw03_head.j0 k false)) else (cohousinglaw03_head.j0 k false)) else (cohousinglaw03_head.j0 k false)) else (cohousinglaw03_head.j0 k false)) else (cohousinglaw03_head.j0 k false)) else (cohousinglaw03_head.j0 k false)) else (cohousinglaw03_head.j0 k false)))) = some r := H
  have A4 := Aside0.mk A40
  clear A40
  replace H := Option.bind_eq_some_iff.mp H
  obtain ⟨⟨t148, t149⟩, A50, H⟩ := H
  replace H : ((calendar_Days.f k 1).bind fun bt150 => (if t141 = 0 then (if t138 = 2000 then (if t139 = 1 then (if t140 = 1 then (if t143 = 0 then (if t142 = 5 then (if t145 = 0 then (if t144 = 59 then (if t147 = 0 then (if t146 = 36524 then (if t149 = 0 then (if t148 = 12 then (if bt150.2.2 = 0 then (cohousinglaw03_head.j0 k (bt150.1 == 31 && (bt150.2.1 == 60))) else (cohousinglaw03_head.j0 k false)) else (cohousinglaw03_head.j0 k false)) else (cohousinglaw03_head.j0 k false)) else (cohousinglaw03_head.j0 k false)) else (cohousinglaw03_head.j0 k false)) else (cohousinglaw03_head.j0 k false)) else (cohousinglaw03_head.j0 k false)) else (cohousinglaw03_head.j0 k false)) else (cohousinglaw03_head.j0 k false)) else (cohousinglaw03_head.j0 k false)) else (cohousinglaw03_head.j0 k false)) else (cohousinglaw03_head.j0 k false)) else (cohousinglaw03_head.j0 k false))) = some r := H
  have A5 := Aside0.mk A50
  clear A50
  replace H := Option.bind_eq_some_iff.mp H
  obtain ⟨⟨t150, t151, t152⟩, A60, H⟩ := H
  replace H : (if t141 = 0 then (if t138 = 2000 then (if t139 = 1 then (if t140 = 1 then (if t143 = 0 then (if t142 = 5 then (if t145 = 0 then (if t144 = 59 then (if t147 = 0 then (if t146 = 36524 then (if t149 = 0 then (if t148 = 12 then (if t152 = 0 then (cohousinglaw03_head.j0 k (t150 == 31 && (t151 == 60))) else (cohousinglaw03_head.j0 k false)) else (cohousinglaw03_head.j0 k false)) else (cohousinglaw03_head.j0 k false)) else (cohousinglaw03_head.j0 k false)) else (cohousinglaw03_head.j0 k false)) else (cohousinglaw03_head.j0 k false)) else (cohousinglaw03_head.j0 k false)) else (cohousinglaw03_head.j0 k false)) else (cohousinglaw03_head.j0 k false)) else (cohousinglaw03_head.j0 k false)) else (cohousinglaw03_head.j0 k false)) else (cohousinglaw03_head.j0 k false)) else (cohousinglaw03_head.j0 k false)) = some r := H
  have A6 := Aside0.mk A60
  clear A60
  have HC7 := Aside0.mk H
  clear H
  go_enter Tryd.func11, Tryd.ntmps11
  go_upto_region 7 with (first | ((with_reducible refine gate_callee (f := 13) rfl ?_); refine goesL_ (some 27) rfl rfl Tryd.func13 (by kernel_rfl) rfl #[.int .i64 0] rfl (by (try simp only [List.map_toArray, List.map_cons, List.map_nil]); first | done | rfl | (simp only [List.length_drop, List.length_take]; rfl)) ?_; (with_reducible refine (calendar_Date.calls k 0 t138 t139 t140 t141 _ ?side1 A1.out).mono ?_); (case side1 => exact TabOK.below HTA.out (by repeat (first | (with_reducible first | exact HB.out | apply below_alloc | apply pw_below_drewN | apply below_drew1) | exact HB.out))); rintro e w' ⟨rfl, ⟨nd, rfl⟩⟩; refine ⟨_, rfl, ?_⟩) | ((with_reducible refine gate_callee (f := 17) rfl ?_); refine goesL_ (some 33) rfl rfl Tryd.func17 (by kernel_rfl) rfl #[.int .i64 0] rfl (by (try simp only [List.map_toArray, List.map_cons, List.map_nil]); first | done | rfl | (simp only [List.length_drop, List.length_take]; rfl)) ?_; (with_reducible refine (calendar_Weekday.calls 0 t142 t143 _ A2.out).mono ?_); rintro e w' ⟨rfl, ⟨nd, rfl⟩⟩; refine ⟨_, rfl, ?_⟩) | ((with_reducible refine gate_callee (f := 15) rfl ?_); refine goesL_ (some 37) rfl rfl Tryd.func15 (by kernel_rfl) rfl #[.int .i64 2000, .int .i64 2, .int .i64 29] rfl (by (try simp only [List.map_toArray, List.map_cons, List.map_nil]); first | done | rfl | (simp only [List.length_drop, List.length_take]; rfl)) ?_; (with_reducible refine (calendar_Day.calls k 2000 2 29 t144 t145 _ ?side1 A3.out).mono ?_); (case side1 => exact TabOK.below HTA.out (by repeat (first | (with_reducible first | exact HB.out | apply below_alloc | apply pw_below_drewN | apply below_drew1) | exact HB.out))); rintro e w' ⟨rfl, ⟨nd, rfl⟩⟩; refine ⟨_, rfl, ?_⟩) | ((with_reducible refine gate_callee (f := 15) rfl ?_); refine goesL_ (some 41) rfl rfl Tryd.func15 (by kernel_rfl) rfl #[.int .i64 2099, .int .i64 12, .int .i64 31] rfl (by (try simp only [List.map_toArray, List.map_cons, List.map_nil]); first | done | rfl | (simp only [List.length_drop, List.length_take]; rfl)) ?_; (with_reducible refine (calendar_Day.calls k 2099 12 31 t146 t147 _ ?side1 A4.out).mono ?_); (case side1 => exact TabOK.below HTA.out (by repeat (first | (with_reducible first | exact HB.out | apply below_alloc | apply pw_below_drewN | apply below_drew1) | exact HB.out))); rintro e w' ⟨rfl, ⟨nd, rfl⟩⟩; refine ⟨_, rfl, ?_⟩) | ((with_reducible refine gate_callee (f := 19) rfl ?_); refine goesL_ (some 45) rfl rfl Tryd.func19 (by kernel_rfl) rfl #[.int .i64 366] rfl (by (try simp only [List.map_toArray, List.map_cons, List.map_nil]); first | done | rfl | (simp only [List.length_drop, List.length_take]; rfl)) ?_; (with_reducible refine (calendar_Month.calls k 366 t148 t149 _ ?side1 A5.out).mono ?_); (case side1 => exact TabOK.below HTA.out (by repeat (first | (with_reducible first | exact HB.out | apply below_alloc | apply pw_below_drewN | apply below_drew1) | exact HB.out))); rintro e w' ⟨rfl, ⟨nd, rfl⟩⟩; refine ⟨_, rfl, ?_⟩) | ((with_reducible refine gate_callee (f := 21) rfl ?_); refine goesL_ (some 49) rfl rfl Tryd.func21 (by kernel_rfl) rfl #[.int .i64 1] rfl (by (try simp only [List.map_toArray, List.map_cons, List.map_nil]); first | done | rfl | (simp only [List.length_drop, List.length_take]; rfl)) ?_; (with_reducible refine (calendar_Days.calls k 1 t150 t151 t152 _ ?side1 A6.out).mono ?_); (case side1 => exact TabOK.below HTA.out (by repeat (first | (with_reducible first | exact HB.out | apply below_alloc | apply pw_below_drewN | apply below_drew1) | exact HB.out))); rintro e w8 ⟨rfl, hb⟩; refine ⟨_, rfl, ?_⟩; have n0_ := Aside0.mk (below_step (by repeat (first | (with_reducible first | exact HB.out | apply below_alloc | apply pw_below_drewN | apply below_drew1) | exact HB.out)) hb); clear HB; have HB := n0_; clear n0_; (try clear hb); (try clear hb2); (try clear hk); (try clear hi)) | ((with_reducible refine gate_dst (N := 13) rfl ?_); refine box_event ?hg (N := 13) ?hd (cs := #[.int .i64 0, .int .i64 0]) (t := 32) ?hr ?_; (case hd => rfl); (case hg => rfl); (case hr => first | (go_simp; done) | (go_simp; rfl)); intro gb153 hg w9 hbox hb; have n0_ := Aside0.mk (below_step (by repeat (first | (with_reducible first | exact HB.out | apply below_alloc | apply pw_below_drewN | apply below_drew1) | exact HB.out)) hb); have n1_ := Aside0.mk (hbox); have n2_ := Aside0.mk ((by rw [hg]; exact (below_size (by repeat (first | (with_reducible first | exact HB.out | apply below_alloc | apply pw_below_drewN | apply below_drew1) | exact HB.out))) : w.heap.size ≤ gb153)); have n3_ := Aside0.mk ((by rw [hg]; exact (below_size (by repeat (first | (with_reducible first | exact HB.out | apply below_alloc | apply pw_below_drewN | apply below_drew1) | exact HB.out))) : w.heap.size ≤ gb153)); clear HB; have HB := n0_; have BK153 := n1_; have GW153 := n2_; have GE153 := n3_; clear n0_ n1_ n2_ n3_; clear hb hbox hg; have hcz10_0 : w9.cell? ⟨gb153, 0, none⟩ = some (.int .i64 0) := (blk_cell BK153.out 0).trans rfl; have hcz10_1 : w9.cell? ⟨gb153, 1, none⟩ = some (.int .i64 0) := (blk_cell BK153.out 1).trans rfl; have hfz10_0 := blk_frozen BK153.out 0; have hfz10_1 := blk_frozen BK153.out 1))
  (try simp only [Act.put, List.setIfInBounds_toArray, List.set_cons_zero, List.set_cons_succ])
  go_cut [15] (fun v15 wc => ∃ (kq : Nat) (x15_6 : Bool), v15 = .bool x15_6 ∧ Aside0 (cohousinglaw03_head.j0 kq x15_6 = some r) ∧ Aside0 (kq ≤ k) ∧ Aside0 (wc.heap[gb153]? = some (.cells #[.int .i64 t150, .int .i64 t151] 32 (0, 0))) ∧ Aside0 (Below w.heap.size w wc))
  case first =>
    have H := HC7.out
    clear HC7
    by_cases c11 : t141 = 0
    · rw [if_pos c11] at H
      have c11b0 : (t141 == 0) = true := beq_iff_eq.mpr c11
      have c11b1 : (t141 != 0) = false := bne_eq_false_iff_eq.mpr c11
      clear c11
      (first | rw [c11b0] | (simp only [i64_w, i32_w]; rw [c11b0]) | skip)
      by_cases c12 : t138 = 2000
      · rw [if_pos c12] at H
        have c12b0 : (t138 == 2000) = true := beq_iff_eq.mpr c12
        have c12b1 : (t138 != 2000) = false := bne_eq_false_iff_eq.mpr c12
        clear c12
        by_cases c13 : t139 = 1
        · rw [if_pos c13] at H
          have c13b0 : (t139 == 1) = true := beq_iff_eq.mpr c13
          have c13b1 : (t139 != 1) = false := bne_eq_false_iff_eq.mpr c13
          clear c13
          by_cases c14 : t140 = 1
          · rw [if_pos c14] at H
            have c14b0 : (t140 == 1) = true := beq_iff_eq.mpr c14
            have c14b1 : (t140 != 1) = false := bne_eq_false_iff_eq.mpr c14
            clear c14
            by_cases c15 : t143 = 0
            · rw [if_pos c15] at H
              have c15b0 : (t143 == 0) = true := beq_iff_eq.mpr c15
              have c15b1 : (t143 != 0) = false := bne_eq_false_iff_eq.mpr c15
              clear c15
              by_cases c16 : t142 = 5
              · rw [if_pos c16] at H
                have c16b0 : (t142 == 5) = true := beq_iff_eq.mpr c16
                have c16b1 : (t142 != 5) = false := bne_eq_false_iff_eq.mpr c16
                clear c16
                by_cases c17 : t145 = 0
                · rw [if_pos c17] at H
                  have c17b0 : (t145 == 0) = true := beq_iff_eq.mpr c17
                  have c17b1 : (t145 != 0) = false := bne_eq_false_iff_eq.mpr c17
                  clear c17
                  by_cases c18 : t144 = 59
                  · rw [if_pos c18] at H
                    have c18b0 : (t144 == 59) = true := beq_iff_eq.mpr c18
                    have c18b1 : (t144 != 59) = false := bne_eq_false_iff_eq.mpr c18
                    clear c18
                    by_cases c19 : t147 = 0
                    · rw [if_pos c19] at H
                      have c19b0 : (t147 == 0) = true := beq_iff_eq.mpr c19
                      have c19b1 : (t147 != 0) = false := bne_eq_false_iff_eq.mpr c19
                      clear c19
                      by_cases c20 : t146 = 36524
                      · rw [if_pos c20] at H
                        have c20b0 : (t146 == 36524) = true := beq_iff_eq.mpr c20
                        have c20b1 : (t146 != 36524) = false := bne_eq_false_iff_eq.mpr c20
                        clear c20
                        by_cases c21 : t149 = 0
                        · rw [if_pos c21] at H
                          have c21b0 : (t149 == 0) = true := beq_iff_eq.mpr c21
                          have c21b1 : (t149 != 0) = false := bne_eq_false_iff_eq.mpr c21
                          clear c21
                          by_cases c22 : t148 = 12
                          · rw [if_pos c22] at H
                            have c22b0 : (t148 == 12) = true := beq_iff_eq.mpr c22
                            have c22b1 : (t148 != 12) = false := bne_eq_false_iff_eq.mpr c22
                            clear c22
                            by_cases c23 : t152 = 0
                            · rw [if_pos c23] at H
                              have c23b0 : (t152 == 0) = true := beq_iff_eq.mpr c23
                              have c23b1 : (t152 != 0) = false := bne_eq_false_iff_eq.mpr c23
                              clear c23
                              have H' := Aside0.mk H
                              clear H
                              have hcz24_0 : w9.cell? ⟨gb153, 0, none⟩ = some (.int .i64 0) := (blk_cell BK153.out 0).trans rfl
                              have hcz24_1 : w9.cell? ⟨gb153, 1, none⟩ = some (.int .i64 0) := (blk_cell BK153.out 1).trans rfl
                              have hfz24_0 := blk_frozen BK153.out 0
                              have hfz24_1 := blk_frozen BK153.out 1
                              go_wp2
                              go_meet
                              case rel => exact ⟨_, ((t150 == 31 && (t151 == 60))), (by first | rfl | (simp; done) | (simp [*]; done)), H', ⟨by first | omega | exact Nat.le_refl _⟩, ⟨by (with_reducible repeat (first | refine blk_drewN ?_ _ | refine blk_drew ?_ | refine blk_alloc ?_ _)); refine blk_put (cs := #[.int .i64 t150, .int .i64 0]) ?_ 1 _ rfl; (with_reducible repeat (first | refine blk_drewN ?_ _ | refine blk_drew ?_ | refine blk_alloc ?_ _)); refine blk_put (cs := #[.int .i64 0, .int .i64 0]) ?_ 0 _ rfl; (with_reducible repeat (first | refine blk_drewN ?_ _ | refine blk_drew ?_ | refine blk_alloc ?_ _)); exact BK153.out⟩, ⟨by repeat (first | (with_reducible first | exact HB.out | apply below_alloc | apply pw_below_drewN | apply below_drew1 | refine below_set ?_ GE153.out) | exact HB.out)⟩⟩
                            · rw [if_neg c23] at H
                              have c23b0 : (t152 == 0) = false := beq_eq_false_iff_ne.mpr c23
                              have c23b1 : (t152 != 0) = true := bne_iff_ne.mpr c23
                              have H' := Aside0.mk H
                              clear H
                              go_wp2
                              go_meet
                              case rel => exact ⟨_, (false), (by first | rfl | (simp; done) | (simp [*]; done)), H', ⟨by first | omega | exact Nat.le_refl _⟩, ⟨by (with_reducible repeat (first | refine blk_drewN ?_ _ | refine blk_drew ?_ | refine blk_alloc ?_ _)); refine blk_put (cs := #[.int .i64 t150, .int .i64 0]) ?_ 1 _ rfl; (with_reducible repeat (first | refine blk_drewN ?_ _ | refine blk_drew ?_ | refine blk_alloc ?_ _)); refine blk_put (cs := #[.int .i64 0, .int .i64 0]) ?_ 0 _ rfl; (with_reducible repeat (first | refine blk_drewN ?_ _ | refine blk_drew ?_ | refine blk_alloc ?_ _)); exact BK153.out⟩, ⟨by repeat (first | (with_reducible first | exact HB.out | apply below_alloc | apply pw_below_drewN | apply below_drew1 | refine below_set ?_ GE153.out) | exact HB.out)⟩⟩
                          · rw [if_neg c22] at H
                            have c22b0 : (t148 == 12) = false := beq_eq_false_iff_ne.mpr c22
                            have c22b1 : (t148 != 12) = true := bne_iff_ne.mpr c22
                            have H' := Aside0.mk H
                            clear H
                            go_wp2
                            go_meet
                            case rel => exact ⟨_, (false), (by first | rfl | (simp; done) | (simp [*]; done)), H', ⟨by first | omega | exact Nat.le_refl _⟩, ⟨by (with_reducible repeat (first | refine blk_drewN ?_ _ | refine blk_drew ?_ | refine blk_alloc ?_ _)); refine blk_put (cs := #[.int .i64 t150, .int .i64 0]) ?_ 1 _ rfl; (with_reducible repeat (first | refine blk_drewN ?_ _ | refine blk_drew ?_ | refine blk_alloc ?_ _)); refine blk_put (cs := #[.int .i64 0, .int .i64 0]) ?_ 0 _ rfl; (with_reducible repeat (first | refine blk_drewN ?_ _ | refine blk_drew ?_ | refine blk_alloc ?_ _)); exact BK153.out⟩, ⟨by repeat (first | (with_reducible first | exact HB.out | apply below_alloc | apply pw_below_drewN | apply below_drew1 | refine below_set ?_ GE153.out) | exact HB.out)⟩⟩
                        · rw [if_neg c21] at H
                          have c21b0 : (t149 == 0) = false := beq_eq_false_iff_ne.mpr c21
                          have c21b1 : (t149 != 0) = true := bne_iff_ne.mpr c21
                          have H' := Aside0.mk H
                          clear H
                          go_wp2
                          go_meet
                          case rel => exact ⟨_, (false), (by first | rfl | (simp; done) | (simp [*]; done)), H', ⟨by first | omega | exact Nat.le_refl _⟩, ⟨by (with_reducible repeat (first | refine blk_drewN ?_ _ | refine blk_drew ?_ | refine blk_alloc ?_ _)); refine blk_put (cs := #[.int .i64 t150, .int .i64 0]) ?_ 1 _ rfl; (with_reducible repeat (first | refine blk_drewN ?_ _ | refine blk_drew ?_ | refine blk_alloc ?_ _)); refine blk_put (cs := #[.int .i64 0, .int .i64 0]) ?_ 0 _ rfl; (with_reducible repeat (first | refine blk_drewN ?_ _ | refine blk_drew ?_ | refine blk_alloc ?_ _)); exact BK153.out⟩, ⟨by repeat (first | (with_reducible first | exact HB.out | apply below_alloc | apply pw_below_drewN | apply below_drew1 | refine below_set ?_ GE153.out) | exact HB.out)⟩⟩
                      · rw [if_neg c20] at H
                        have c20b0 : (t146 == 36524) = false := beq_eq_false_iff_ne.mpr c20
                        have c20b1 : (t146 != 36524) = true := bne_iff_ne.mpr c20
                        have H' := Aside0.mk H
                        clear H
                        go_wp2
                        go_meet
                        case rel => exact ⟨_, (false), (by first | rfl | (simp; done) | (simp [*]; done)), H', ⟨by first | omega | exact Nat.le_refl _⟩, ⟨by (with_reducible repeat (first | refine blk_drewN ?_ _ | refine blk_drew ?_ | refine blk_alloc ?_ _)); refine blk_put (cs := #[.int .i64 t150, .int .i64 0]) ?_ 1 _ rfl; (with_reducible repeat (first | refine blk_drewN ?_ _ | refine blk_drew ?_ | refine blk_alloc ?_ _)); refine blk_put (cs := #[.int .i64 0, .int .i64 0]) ?_ 0 _ rfl; (with_reducible repeat (first | refine blk_drewN ?_ _ | refine blk_drew ?_ | refine blk_alloc ?_ _)); exact BK153.out⟩, ⟨by repeat (first | (with_reducible first | exact HB.out | apply below_alloc | apply pw_below_drewN | apply below_drew1 | refine below_set ?_ GE153.out) | exact HB.out)⟩⟩
                    · rw [if_neg c19] at H
                      have c19b0 : (t147 == 0) = false := beq_eq_false_iff_ne.mpr c19
                      have c19b1 : (t147 != 0) = true := bne_iff_ne.mpr c19
                      have H' := Aside0.mk H
                      clear H
                      go_wp2
                      go_meet
                      case rel => exact ⟨_, (false), (by first | rfl | (simp; done) | (simp [*]; done)), H', ⟨by first | omega | exact Nat.le_refl _⟩, ⟨by (with_reducible repeat (first | refine blk_drewN ?_ _ | refine blk_drew ?_ | refine blk_alloc ?_ _)); refine blk_put (cs := #[.int .i64 t150, .int .i64 0]) ?_ 1 _ rfl; (with_reducible repeat (first | refine blk_drewN ?_ _ | refine blk_drew ?_ | refine blk_alloc ?_ _)); refine blk_put (cs := #[.int .i64 0, .int .i64 0]) ?_ 0 _ rfl; (with_reducible repeat (first | refine blk_drewN ?_ _ | refine blk_drew ?_ | refine blk_alloc ?_ _)); exact BK153.out⟩, ⟨by repeat (first | (with_reducible first | exact HB.out | apply below_alloc | apply pw_below_drewN | apply below_drew1 | refine below_set ?_ GE153.out) | exact HB.out)⟩⟩
                  · rw [if_neg c18] at H
                    have c18b0 : (t144 == 59) = false := beq_eq_false_iff_ne.mpr c18
                    have c18b1 : (t144 != 59) = true := bne_iff_ne.mpr c18
                    have H' := Aside0.mk H
                    clear H
                    go_wp2
                    go_meet
                    case rel => exact ⟨_, (false), (by first | rfl | (simp; done) | (simp [*]; done)), H', ⟨by first | omega | exact Nat.le_refl _⟩, ⟨by (with_reducible repeat (first | refine blk_drewN ?_ _ | refine blk_drew ?_ | refine blk_alloc ?_ _)); refine blk_put (cs := #[.int .i64 t150, .int .i64 0]) ?_ 1 _ rfl; (with_reducible repeat (first | refine blk_drewN ?_ _ | refine blk_drew ?_ | refine blk_alloc ?_ _)); refine blk_put (cs := #[.int .i64 0, .int .i64 0]) ?_ 0 _ rfl; (with_reducible repeat (first | refine blk_drewN ?_ _ | refine blk_drew ?_ | refine blk_alloc ?_ _)); exact BK153.out⟩, ⟨by repeat (first | (with_reducible first | exact HB.out | apply below_alloc | apply pw_below_drewN | apply below_drew1 | refine below_set ?_ GE153.out) | exact HB.out)⟩⟩
                · rw [if_neg c17] at H
                  have c17b0 : (t145 == 0) = false := beq_eq_false_iff_ne.mpr c17
                  have c17b1 : (t145 != 0) = true := bne_iff_ne.mpr c17
                  have H' := Aside0.mk H
                  clear H
                  go_wp2
                  go_meet
                  case rel => exact ⟨_, (false), (by first | rfl | (simp; done) | (simp [*]; done)), H', ⟨by first | omega | exact Nat.le_refl _⟩, ⟨by (with_reducible repeat (first | refine blk_drewN ?_ _ | refine blk_drew ?_ | refine blk_alloc ?_ _)); refine blk_put (cs := #[.int .i64 t150, .int .i64 0]) ?_ 1 _ rfl; (with_reducible repeat (first | refine blk_drewN ?_ _ | refine blk_drew ?_ | refine blk_alloc ?_ _)); refine blk_put (cs := #[.int .i64 0, .int .i64 0]) ?_ 0 _ rfl; (with_reducible repeat (first | refine blk_drewN ?_ _ | refine blk_drew ?_ | refine blk_alloc ?_ _)); exact BK153.out⟩, ⟨by repeat (first | (with_reducible first | exact HB.out | apply below_alloc | apply pw_below_drewN | apply below_drew1 | refine below_set ?_ GE153.out) | exact HB.out)⟩⟩
              · rw [if_neg c16] at H
                have c16b0 : (t142 == 5) = false := beq_eq_false_iff_ne.mpr c16
                have c16b1 : (t142 != 5) = true := bne_iff_ne.mpr c16
                have H' := Aside0.mk H
                clear H
                go_wp2
                go_meet
                case rel => exact ⟨_, (false), (by first | rfl | (simp; done) | (simp [*]; done)), H', ⟨by first | omega | exact Nat.le_refl _⟩, ⟨by (with_reducible repeat (first | refine blk_drewN ?_ _ | refine blk_drew ?_ | refine blk_alloc ?_ _)); refine blk_put (cs := #[.int .i64 t150, .int .i64 0]) ?_ 1 _ rfl; (with_reducible repeat (first | refine blk_drewN ?_ _ | refine blk_drew ?_ | refine blk_alloc ?_ _)); refine blk_put (cs := #[.int .i64 0, .int .i64 0]) ?_ 0 _ rfl; (with_reducible repeat (first | refine blk_drewN ?_ _ | refine blk_drew ?_ | refine blk_alloc ?_ _)); exact BK153.out⟩, ⟨by repeat (first | (with_reducible first | exact HB.out | apply below_alloc | apply pw_below_drewN | apply below_drew1 | refine below_set ?_ GE153.out) | exact HB.out)⟩⟩
            · rw [if_neg c15] at H
              have c15b0 : (t143 == 0) = false := beq_eq_false_iff_ne.mpr c15
              have c15b1 : (t143 != 0) = true := bne_iff_ne.mpr c15
              have H' := Aside0.mk H
              clear H
              go_wp2
              go_meet
              case rel => exact ⟨_, (false), (by first | rfl | (simp; done) | (simp [*]; done)), H', ⟨by first | omega | exact Nat.le_refl _⟩, ⟨by (with_reducible repeat (first | refine blk_drewN ?_ _ | refine blk_drew ?_ | refine blk_alloc ?_ _)); refine blk_put (cs := #[.int .i64 t150, .int .i64 0]) ?_ 1 _ rfl; (with_reducible repeat (first | refine blk_drewN ?_ _ | refine blk_drew ?_ | refine blk_alloc ?_ _)); refine blk_put (cs := #[.int .i64 0, .int .i64 0]) ?_ 0 _ rfl; (with_reducible repeat (first | refine blk_drewN ?_ _ | refine blk_drew ?_ | refine blk_alloc ?_ _)); exact BK153.out⟩, ⟨by repeat (first | (with_reducible first | exact HB.out | apply below_alloc | apply pw_below_drewN | apply below_drew1 | refine below_set ?_ GE153.out) | exact HB.out)⟩⟩
          · rw [if_neg c14] at H
            have c14b0 : (t140 == 1) = false := beq_eq_false_iff_ne.mpr c14
            have c14b1 : (t140 != 1) = true := bne_iff_ne.mpr c14
            have H' := Aside0.mk H
            clear H
            go_wp2
            go_meet
            case rel => exact ⟨_, (false), (by first | rfl | (simp; done) | (simp [*]; done)), H', ⟨by first | omega | exact Nat.le_refl _⟩, ⟨by (with_reducible repeat (first | refine blk_drewN ?_ _ | refine blk_drew ?_ | refine blk_alloc ?_ _)); refine blk_put (cs := #[.int .i64 t150, .int .i64 0]) ?_ 1 _ rfl; (with_reducible repeat (first | refine blk_drewN ?_ _ | refine blk_drew ?_ | refine blk_alloc ?_ _)); refine blk_put (cs := #[.int .i64 0, .int .i64 0]) ?_ 0 _ rfl; (with_reducible repeat (first | refine blk_drewN ?_ _ | refine blk_drew ?_ | refine blk_alloc ?_ _)); exact BK153.out⟩, ⟨by repeat (first | (with_reducible first | exact HB.out | apply below_alloc | apply pw_below_drewN | apply below_drew1 | refine below_set ?_ GE153.out) | exact HB.out)⟩⟩
        · rw [if_neg c13] at H
          have c13b0 : (t139 == 1) = false := beq_eq_false_iff_ne.mpr c13
          have c13b1 : (t139 != 1) = true := bne_iff_ne.mpr c13
          have H' := Aside0.mk H
          clear H
          go_wp2
          go_meet
          case rel => exact ⟨_, (false), (by first | rfl | (simp; done) | (simp [*]; done)), H', ⟨by first | omega | exact Nat.le_refl _⟩, ⟨by (with_reducible repeat (first | refine blk_drewN ?_ _ | refine blk_drew ?_ | refine blk_alloc ?_ _)); refine blk_put (cs := #[.int .i64 t150, .int .i64 0]) ?_ 1 _ rfl; (with_reducible repeat (first | refine blk_drewN ?_ _ | refine blk_drew ?_ | refine blk_alloc ?_ _)); refine blk_put (cs := #[.int .i64 0, .int .i64 0]) ?_ 0 _ rfl; (with_reducible repeat (first | refine blk_drewN ?_ _ | refine blk_drew ?_ | refine blk_alloc ?_ _)); exact BK153.out⟩, ⟨by repeat (first | (with_reducible first | exact HB.out | apply below_alloc | apply pw_below_drewN | apply below_drew1 | refine below_set ?_ GE153.out) | exact HB.out)⟩⟩
      · rw [if_neg c12] at H
        have c12b0 : (t138 == 2000) = false := beq_eq_false_iff_ne.mpr c12
        have c12b1 : (t138 != 2000) = true := bne_iff_ne.mpr c12
        have H' := Aside0.mk H
        clear H
        go_wp2
        go_meet
        case rel => exact ⟨_, (false), (by first | rfl | (simp; done) | (simp [*]; done)), H', ⟨by first | omega | exact Nat.le_refl _⟩, ⟨by (with_reducible repeat (first | refine blk_drewN ?_ _ | refine blk_drew ?_ | refine blk_alloc ?_ _)); refine blk_put (cs := #[.int .i64 t150, .int .i64 0]) ?_ 1 _ rfl; (with_reducible repeat (first | refine blk_drewN ?_ _ | refine blk_drew ?_ | refine blk_alloc ?_ _)); refine blk_put (cs := #[.int .i64 0, .int .i64 0]) ?_ 0 _ rfl; (with_reducible repeat (first | refine blk_drewN ?_ _ | refine blk_drew ?_ | refine blk_alloc ?_ _)); exact BK153.out⟩, ⟨by repeat (first | (with_reducible first | exact HB.out | apply below_alloc | apply pw_below_drewN | apply below_drew1 | refine below_set ?_ GE153.out) | exact HB.out)⟩⟩
    · rw [if_neg c11] at H
      have c11b0 : (t141 == 0) = false := beq_eq_false_iff_ne.mpr c11
      have c11b1 : (t141 != 0) = true := bne_iff_ne.mpr c11
      (first | rw [c11b0] | (simp only [i64_w, i32_w]; rw [c11b0]) | skip)
      have H' := Aside0.mk H
      clear H
      go_wp2
      go_meet
      case rel => exact ⟨_, (false), (by first | rfl | (simp; done) | (simp [*]; done)), H', ⟨by first | omega | exact Nat.le_refl _⟩, ⟨by (with_reducible repeat (first | refine blk_drewN ?_ _ | refine blk_drew ?_ | refine blk_alloc ?_ _)); refine blk_put (cs := #[.int .i64 t150, .int .i64 0]) ?_ 1 _ rfl; (with_reducible repeat (first | refine blk_drewN ?_ _ | refine blk_drew ?_ | refine blk_alloc ?_ _)); refine blk_put (cs := #[.int .i64 0, .int .i64 0]) ?_ 0 _ rfl; (with_reducible repeat (first | refine blk_drewN ?_ _ | refine blk_drew ?_ | refine blk_alloc ?_ _)); exact BK153.out⟩, ⟨by repeat (first | (with_reducible first | exact HB.out | apply below_alloc | apply pw_below_drewN | apply below_drew1 | refine below_set ?_ GE153.out) | exact HB.out)⟩⟩
  case rest =>
    clear HC7
    try clear c1
    try clear c2
    try clear p2
    try clear c11
    try clear c11b0
    try clear c11b1
    try clear c12
    try clear c12b0
    try clear c12b1
    try clear c13
    try clear c13b0
    try clear c13b1
    try clear c14
    try clear c14b0
    try clear c14b1
    try clear c15
    try clear c15b0
    try clear c15b1
    try clear c16
    try clear c16b0
    try clear c16b1
    try clear c17
    try clear c17b0
    try clear c17b1
    try clear c18
    try clear c18b0
    try clear c18b1
    try clear c19
    try clear c19b0
    try clear c19b1
    try clear c20
    try clear c20b0
    try clear c20b1
    try clear c21
    try clear c21b0
    try clear c21b1
    try clear c22
    try clear c22b0
    try clear c22b1
    try clear c23
    try clear c23b0
    try clear c23b1
    try clear hcz10_0
    try clear hcz10_1
    try clear hcz24_0
    try clear hcz24_1
    try clear hfz10_0
    try clear hfz10_1
    try clear hfz24_0
    try clear hfz24_1
    obtain ⟨kq, x15_6, rfl, HA, HJ6, BK153, HB⟩ := hcut
    cases kq with
    | zero => exact absurd HA.out (by simp [cohousinglaw03_head.j0])
    | succ kj6 =>
      have H := HA.out
      clear HA
      simp only [cohousinglaw03_head.j0] at H
      replace H := Option.bind_eq_some_iff.mp H
      obtain ⟨⟨t154, t155⟩, A250, H⟩ := H
      replace H : ((calendar_Deadline.f kj6 2 5 1 (([9] : List Int))).bind fun bt159 => ((calendar_Deadline.f kj6 2 4 2 ([] : List Int)).bind fun bt161 => ((calendar_Day.f kj6 2001 2 29).bind fun bt163 => ((calendar_Working.f kj6 2 ([] : List Int)).bind fun bt165 => (if x15_6 = true then (if t155 = 0 then (if t154 = 9 then (if bt159.2 = 0 then (if bt159.1 = 10 then (if bt161.2 = 0 then (if bt161.1 = 9 then (if bt163.2 = 3 then (if bt165.2 = 0 then (some bt165.1) else (some false)) else (some false)) else (some false)) else (some false)) else (some false)) else (some false)) else (some false)) else (some false)) else (some false)))))) = some r := H
      have A25 := Aside0.mk A250
      clear A250
      obtain ⟨y156, hy156⟩ : ∃ y_ : List Int, y_ = (([9] : List Int)) := ⟨_, rfl⟩
      replace H : ((calendar_Deadline.f kj6 2 5 1 y156).bind fun bt159 => ((calendar_Deadline.f kj6 2 4 2 ([] : List Int)).bind fun bt161 => ((calendar_Day.f kj6 2001 2 29).bind fun bt163 => ((calendar_Working.f kj6 2 ([] : List Int)).bind fun bt165 => (if x15_6 = true then (if t155 = 0 then (if t154 = 9 then (if bt159.2 = 0 then (if bt159.1 = 10 then (if bt161.2 = 0 then (if bt161.1 = 9 then (if bt163.2 = 3 then (if bt165.2 = 0 then (some bt165.1) else (some false)) else (some false)) else (some false)) else (some false)) else (some false)) else (some false)) else (some false)) else (some false)) else (some false)))))) = some r := by first | (rw [hy156]; with_reducible exact H) | (have H2_ := (Option.bind_some _ _).symm.trans H; rw [hy156]; with_reducible exact H2_) | (have H2_ := (Option.bind_some _ _).symm.trans H; with_reducible exact H2_) | with_reducible exact H | (rw [hy156]; exact H) | exact H
      have Ny156 := Aside0.mk hy156
      clear hy156
      replace H := Option.bind_eq_some_iff.mp H
      obtain ⟨⟨t159, t160⟩, A260, H⟩ := H
      replace H : ((calendar_Deadline.f kj6 2 4 2 ([] : List Int)).bind fun bt161 => ((calendar_Day.f kj6 2001 2 29).bind fun bt163 => ((calendar_Working.f kj6 2 ([] : List Int)).bind fun bt165 => (if x15_6 = true then (if t155 = 0 then (if t154 = 9 then (if t160 = 0 then (if t159 = 10 then (if bt161.2 = 0 then (if bt161.1 = 9 then (if bt163.2 = 3 then (if bt165.2 = 0 then (some bt165.1) else (some false)) else (some false)) else (some false)) else (some false)) else (some false)) else (some false)) else (some false)) else (some false)) else (some false))))) = some r := H
      have A26 := Aside0.mk A260
      clear A260
      replace H := Option.bind_eq_some_iff.mp H
      obtain ⟨⟨t161, t162⟩, A270, H⟩ := H
      replace H : ((calendar_Day.f kj6 2001 2 29).bind fun bt163 => ((calendar_Working.f kj6 2 ([] : List Int)).bind fun bt165 => (if x15_6 = true then (if t155 = 0 then (if t154 = 9 then (if t160 = 0 then (if t159 = 10 then (if t162 = 0 then (if t161 = 9 then (if bt163.2 = 3 then (if bt165.2 = 0 then (some bt165.1) else (some false)) else (some false)) else (some false)) else (some false)) else (some false)) else (some false)) else (some false)) else (some false)) else (some false)))) = some r := H
      have A27 := Aside0.mk A270
      clear A270
      replace H := Option.bind_eq_some_iff.mp H
      obtain ⟨⟨t163, t164⟩, A280, H⟩ := H
      replace H : ((calendar_Working.f kj6 2 ([] : List Int)).bind fun bt165 => (if x15_6 = true then (if t155 = 0 then (if t154 = 9 then (if t160 = 0 then (if t159 = 10 then (if t162 = 0 then (if t161 = 9 then (if t164 = 3 then (if bt165.2 = 0 then (some bt165.1) else (some false)) else (some false)) else (some false)) else (some false)) else (some false)) else (some false)) else (some false)) else (some false)) else (some false))) = some r := H
      have A28 := Aside0.mk A280
      clear A280
      replace H := Option.bind_eq_some_iff.mp H
      obtain ⟨⟨t165, t166⟩, A290, H⟩ := H
      replace H : (if x15_6 = true then (if t155 = 0 then (if t154 = 9 then (if t160 = 0 then (if t159 = 10 then (if t162 = 0 then (if t161 = 9 then (if t164 = 3 then (if t166 = 0 then (some t165) else (some false)) else (some false)) else (some false)) else (some false)) else (some false)) else (some false)) else (some false)) else (some false)) else (some false)) = some r := H
      have A29 := Aside0.mk A290
      clear A290
      by_cases c30 : x15_6 = true
      · subst c30
        have H1 : (if t155 = 0 then (if t154 = 9 then (if t160 = 0 then (if t159 = 10 then (if t162 = 0 then (if t161 = 9 then (if t164 = 3 then (if t166 = 0 then (some t165) else (some false)) else (some false)) else (some false)) else (some false)) else (some false)) else (some false)) else (some false)) else (some false)) = some r := by rw [if_pos rfl] at H; exact H
        clear H
        have H := H1
        clear H1
        by_cases c31 : t155 = 0
        · rw [if_pos c31] at H
          have c31b0 : (t155 == 0) = true := beq_iff_eq.mpr c31
          have c31b1 : (t155 != 0) = false := bne_eq_false_iff_eq.mpr c31
          clear c31
          by_cases c32 : t154 = 9
          · rw [if_pos c32] at H
            have c32b0 : (t154 == 9) = true := beq_iff_eq.mpr c32
            have c32b1 : (t154 != 9) = false := bne_eq_false_iff_eq.mpr c32
            clear c32
            by_cases c33 : t160 = 0
            · rw [if_pos c33] at H
              have c33b0 : (t160 == 0) = true := beq_iff_eq.mpr c33
              have c33b1 : (t160 != 0) = false := bne_eq_false_iff_eq.mpr c33
              clear c33
              by_cases c34 : t159 = 10
              · rw [if_pos c34] at H
                have c34b0 : (t159 == 10) = true := beq_iff_eq.mpr c34
                have c34b1 : (t159 != 10) = false := bne_eq_false_iff_eq.mpr c34
                clear c34
                by_cases c35 : t162 = 0
                · rw [if_pos c35] at H
                  have c35b0 : (t162 == 0) = true := beq_iff_eq.mpr c35
                  have c35b1 : (t162 != 0) = false := bne_eq_false_iff_eq.mpr c35
                  clear c35
                  by_cases c36 : t161 = 9
                  · rw [if_pos c36] at H
                    have c36b0 : (t161 == 9) = true := beq_iff_eq.mpr c36
                    have c36b1 : (t161 != 9) = false := bne_eq_false_iff_eq.mpr c36
                    clear c36
                    by_cases c37 : t164 = 3
                    · rw [if_pos c37] at H
                      have c37b0 : (t164 == 3) = true := beq_iff_eq.mpr c37
                      have c37b1 : (t164 != 3) = false := bne_eq_false_iff_eq.mpr c37
                      clear c37
                      by_cases c38 : t166 = 0
                      · rw [if_pos c38] at H
                        have c38b0 : (t166 == 0) = true := beq_iff_eq.mpr c38
                        have c38b1 : (t166 != 0) = false := bne_eq_false_iff_eq.mpr c38
                        clear c38
                        obtain rfl := Option.some.inj H
                        go_wp2_with (first | ((with_reducible refine gate_callee (f := 25) rfl ?_); refine goesL_ (some 108) rfl rfl Tryd.func25 (by kernel_rfl) rfl #[.int .i64 2, .int .i64 5, .int .i64 1, .slice none 0 0] rfl (by (try simp only [List.map_toArray, List.map_cons, List.map_nil]); first | done | rfl | (simp only [List.length_drop, List.length_take]; rfl)) ?_; (refine (calendar_Deadline.calls kj6 2 5 1 _ _ ([] : List Int) t154 t155 _ ?side1 ?side2 A25.out).mono ?_); (case side1 => exact Kd.C_nil _ _); (case side2 => exact Nat.le_refl _); rintro e w' ⟨rfl, ⟨nd, rfl⟩⟩; refine ⟨_, rfl, ?_⟩) | ((with_reducible refine gate_dst (N := 112) rfl ?_); refine Kd.R_lit (Kd.int .i64) _ 3 ?hg (N := 112) ?hd (xs := ([9] : List Int)) (inner := [.int .i64 9]) (ok := fun _ => True) (okp := fun _ => True) ?hr ?hp (fun _ hk => hk) trivial (Below.refl _ _) (Nat.le_refl _) (by simp) ?_; (case hd => rfl); (case hg => rfl); (case hr => first | (go_simp; done) | (go_simp; rfl)); (case hp => exact (Reps.one (show Kd.M (Kd.int .i64) _ _ _ 9 [.int .i64 9] from rfl) (Reps.none _ _))); intro v157 w39 ho40 hb hg_ hnew_; clear hg_ hnew_; (first | rw [← Ny156.out] at ho40 | (simp only [Int.reduceToNat] at ho40; rw [← Ny156.out] at ho40)); have n0_ := Aside0.mk (Kd.R_lower ho40 (below_size (by repeat (first | (with_reducible first | exact HB.out | apply below_alloc | apply pw_below_drewN | apply below_drew1 | refine below_set ?_ GE153.out) | exact HB.out)))); have n1_ := Aside0.mk (blk_below (g := gb153) (o := .cells #[.int .i64 t150, .int .i64 t151] 32 (0, 0)) (by (with_reducible repeat (first | refine blk_drewN ?_ _ | refine blk_drew ?_ | refine blk_alloc ?_ _)); exact BK153.out) hb); have n2_ := Aside0.mk (below_step (by repeat (first | (with_reducible first | exact HB.out | apply below_alloc | apply pw_below_drewN | apply below_drew1 | refine below_set ?_ GE153.out) | exact HB.out)) hb); clear BK153; clear HB; have HO158 := n0_; have BK153 := n1_; have HB := n2_; clear n0_ n1_ n2_; clear hb ho40; obtain ⟨Ao41, co41, eo41⟩ := Kd.R_slice HO158.out; subst eo41) | ((with_reducible refine gate_callee (f := 25) rfl ?_); refine goesL_ (some 113) rfl rfl Tryd.func25 (by kernel_rfl) rfl #[.int .i64 2, .int .i64 5, .int .i64 1, .slice Ao41 y156.length co41] rfl (by (try simp only [List.map_toArray, List.map_cons, List.map_nil]); first | done | rfl | (simp only [List.length_drop, List.length_take]; rfl)) ?_; (with_reducible refine (calendar_Deadline.calls kj6 2 5 1 _ _ y156 t159 t160 _ ?side1 ?side2 A26.out).mono ?_); (case side1 => repeat (first | exact (Kd.R_reads' HO158.out).2.2 | (with_reducible refine Kd.C_alloc ?_ _) | (with_reducible refine Kd.C_drewN ?_ _) | (with_reducible refine Kd.C_drew ?_))); (case side2 => exact (Kd.R_reads' HO158.out).2.1); rintro e w' ⟨rfl, ⟨nd, rfl⟩⟩; refine ⟨_, rfl, ?_⟩) | ((with_reducible refine gate_callee (f := 25) rfl ?_); refine goesL_ (some 117) rfl rfl Tryd.func25 (by kernel_rfl) rfl #[.int .i64 2, .int .i64 4, .int .i64 2, .slice none 0 0] rfl (by (try simp only [List.map_toArray, List.map_cons, List.map_nil]); first | done | rfl | (simp only [List.length_drop, List.length_take]; rfl)) ?_; (refine (calendar_Deadline.calls kj6 2 4 2 _ _ ([] : List Int) t161 t162 _ ?side1 ?side2 A27.out).mono ?_); (case side1 => exact Kd.C_nil _ _); (case side2 => exact Nat.le_refl _); rintro e w' ⟨rfl, ⟨nd, rfl⟩⟩; refine ⟨_, rfl, ?_⟩) | ((with_reducible refine gate_callee (f := 15) rfl ?_); refine goesL_ (some 121) rfl rfl Tryd.func15 (by kernel_rfl) rfl #[.int .i64 2001, .int .i64 2, .int .i64 29] rfl (by (try simp only [List.map_toArray, List.map_cons, List.map_nil]); first | done | rfl | (simp only [List.length_drop, List.length_take]; rfl)) ?_; (with_reducible refine (calendar_Day.calls kj6 2001 2 29 t163 t164 _ ?side1 A28.out).mono ?_); (case side1 => exact TabOK.below HTA.out (by repeat (first | (with_reducible first | exact HB.out | apply below_alloc | apply pw_below_drewN | apply below_drew1 | refine below_set ?_ GE153.out) | exact HB.out))); rintro e w' ⟨rfl, ⟨nd, rfl⟩⟩; refine ⟨_, rfl, ?_⟩) | ((with_reducible refine gate_callee (f := 23) rfl ?_); refine goesL_ (some 125) rfl rfl Tryd.func23 (by kernel_rfl) rfl #[.int .i64 2, .slice none 0 0] rfl (by (try simp only [List.map_toArray, List.map_cons, List.map_nil]); first | done | rfl | (simp only [List.length_drop, List.length_take]; rfl)) ?_; (refine (calendar_Working.calls kj6 2 _ _ ([] : List Int) t165 t166 _ ?side1 ?side2 A29.out).mono ?_); (case side1 => exact Kd.C_nil _ _); (case side2 => exact Nat.le_refl _); rintro e w' ⟨rfl, ⟨nd, rfl⟩⟩; refine ⟨_, rfl, ?_⟩))
                        go_ret
                        exact ⟨by first | rfl | (simp [errW_none, errW_some] <;> rfl) | (simp [*, errW_none, errW_some] <;> rfl), by repeat (first | (with_reducible first | exact HB.out | apply below_alloc | apply pw_below_drewN | apply below_drew1 | refine below_set ?_ GE153.out) | exact HB.out)⟩
                      · rw [if_neg c38] at H
                        have c38b0 : (t166 == 0) = false := beq_eq_false_iff_ne.mpr c38
                        have c38b1 : (t166 != 0) = true := bne_iff_ne.mpr c38
                        obtain rfl := Option.some.inj H
                        go_wp2_with (first | ((with_reducible refine gate_callee (f := 25) rfl ?_); refine goesL_ (some 108) rfl rfl Tryd.func25 (by kernel_rfl) rfl #[.int .i64 2, .int .i64 5, .int .i64 1, .slice none 0 0] rfl (by (try simp only [List.map_toArray, List.map_cons, List.map_nil]); first | done | rfl | (simp only [List.length_drop, List.length_take]; rfl)) ?_; (refine (calendar_Deadline.calls kj6 2 5 1 _ _ ([] : List Int) t154 t155 _ ?side1 ?side2 A25.out).mono ?_); (case side1 => exact Kd.C_nil _ _); (case side2 => exact Nat.le_refl _); rintro e w' ⟨rfl, ⟨nd, rfl⟩⟩; refine ⟨_, rfl, ?_⟩) | ((with_reducible refine gate_dst (N := 112) rfl ?_); refine Kd.R_lit (Kd.int .i64) _ 3 ?hg (N := 112) ?hd (xs := ([9] : List Int)) (inner := [.int .i64 9]) (ok := fun _ => True) (okp := fun _ => True) ?hr ?hp (fun _ hk => hk) trivial (Below.refl _ _) (Nat.le_refl _) (by simp) ?_; (case hd => rfl); (case hg => rfl); (case hr => first | (go_simp; done) | (go_simp; rfl)); (case hp => exact (Reps.one (show Kd.M (Kd.int .i64) _ _ _ 9 [.int .i64 9] from rfl) (Reps.none _ _))); intro v157 w42 ho43 hb hg_ hnew_; clear hg_ hnew_; (first | rw [← Ny156.out] at ho43 | (simp only [Int.reduceToNat] at ho43; rw [← Ny156.out] at ho43)); have n0_ := Aside0.mk (Kd.R_lower ho43 (below_size (by repeat (first | (with_reducible first | exact HB.out | apply below_alloc | apply pw_below_drewN | apply below_drew1 | refine below_set ?_ GE153.out) | exact HB.out)))); have n1_ := Aside0.mk (blk_below (g := gb153) (o := .cells #[.int .i64 t150, .int .i64 t151] 32 (0, 0)) (by (with_reducible repeat (first | refine blk_drewN ?_ _ | refine blk_drew ?_ | refine blk_alloc ?_ _)); exact BK153.out) hb); have n2_ := Aside0.mk (below_step (by repeat (first | (with_reducible first | exact HB.out | apply below_alloc | apply pw_below_drewN | apply below_drew1 | refine below_set ?_ GE153.out) | exact HB.out)) hb); clear BK153; clear HB; have HO158 := n0_; have BK153 := n1_; have HB := n2_; clear n0_ n1_ n2_; clear hb ho43; obtain ⟨Ao44, co44, eo44⟩ := Kd.R_slice HO158.out; subst eo44) | ((with_reducible refine gate_callee (f := 25) rfl ?_); refine goesL_ (some 113) rfl rfl Tryd.func25 (by kernel_rfl) rfl #[.int .i64 2, .int .i64 5, .int .i64 1, .slice Ao44 y156.length co44] rfl (by (try simp only [List.map_toArray, List.map_cons, List.map_nil]); first | done | rfl | (simp only [List.length_drop, List.length_take]; rfl)) ?_; (with_reducible refine (calendar_Deadline.calls kj6 2 5 1 _ _ y156 t159 t160 _ ?side1 ?side2 A26.out).mono ?_); (case side1 => repeat (first | exact (Kd.R_reads' HO158.out).2.2 | (with_reducible refine Kd.C_alloc ?_ _) | (with_reducible refine Kd.C_drewN ?_ _) | (with_reducible refine Kd.C_drew ?_))); (case side2 => exact (Kd.R_reads' HO158.out).2.1); rintro e w' ⟨rfl, ⟨nd, rfl⟩⟩; refine ⟨_, rfl, ?_⟩) | ((with_reducible refine gate_callee (f := 25) rfl ?_); refine goesL_ (some 117) rfl rfl Tryd.func25 (by kernel_rfl) rfl #[.int .i64 2, .int .i64 4, .int .i64 2, .slice none 0 0] rfl (by (try simp only [List.map_toArray, List.map_cons, List.map_nil]); first | done | rfl | (simp only [List.length_drop, List.length_take]; rfl)) ?_; (refine (calendar_Deadline.calls kj6 2 4 2 _ _ ([] : List Int) t161 t162 _ ?side1 ?side2 A27.out).mono ?_); (case side1 => exact Kd.C_nil _ _); (case side2 => exact Nat.le_refl _); rintro e w' ⟨rfl, ⟨nd, rfl⟩⟩; refine ⟨_, rfl, ?_⟩) | ((with_reducible refine gate_callee (f := 15) rfl ?_); refine goesL_ (some 121) rfl rfl Tryd.func15 (by kernel_rfl) rfl #[.int .i64 2001, .int .i64 2, .int .i64 29] rfl (by (try simp only [List.map_toArray, List.map_cons, List.map_nil]); first | done | rfl | (simp only [List.length_drop, List.length_take]; rfl)) ?_; (with_reducible refine (calendar_Day.calls kj6 2001 2 29 t163 t164 _ ?side1 A28.out).mono ?_); (case side1 => exact TabOK.below HTA.out (by repeat (first | (with_reducible first | exact HB.out | apply below_alloc | apply pw_below_drewN | apply below_drew1 | refine below_set ?_ GE153.out) | exact HB.out))); rintro e w' ⟨rfl, ⟨nd, rfl⟩⟩; refine ⟨_, rfl, ?_⟩) | ((with_reducible refine gate_callee (f := 23) rfl ?_); refine goesL_ (some 125) rfl rfl Tryd.func23 (by kernel_rfl) rfl #[.int .i64 2, .slice none 0 0] rfl (by (try simp only [List.map_toArray, List.map_cons, List.map_nil]); first | done | rfl | (simp only [List.length_drop, List.length_take]; rfl)) ?_; (refine (calendar_Working.calls kj6 2 _ _ ([] : List Int) t165 t166 _ ?side1 ?side2 A29.out).mono ?_); (case side1 => exact Kd.C_nil _ _); (case side2 => exact Nat.le_refl _); rintro e w' ⟨rfl, ⟨nd, rfl⟩⟩; refine ⟨_, rfl, ?_⟩))
                        go_ret
                        exact ⟨by first | rfl | (simp [errW_none, errW_some] <;> rfl) | (simp [*, errW_none, errW_some] <;> rfl), by repeat (first | (with_reducible first | exact HB.out | apply below_alloc | apply pw_below_drewN | apply below_drew1 | refine below_set ?_ GE153.out) | exact HB.out)⟩
                    · rw [if_neg c37] at H
                      have c37b0 : (t164 == 3) = false := beq_eq_false_iff_ne.mpr c37
                      have c37b1 : (t164 != 3) = true := bne_iff_ne.mpr c37
                      obtain rfl := Option.some.inj H
                      go_wp2_with (first | ((with_reducible refine gate_callee (f := 25) rfl ?_); refine goesL_ (some 108) rfl rfl Tryd.func25 (by kernel_rfl) rfl #[.int .i64 2, .int .i64 5, .int .i64 1, .slice none 0 0] rfl (by (try simp only [List.map_toArray, List.map_cons, List.map_nil]); first | done | rfl | (simp only [List.length_drop, List.length_take]; rfl)) ?_; (refine (calendar_Deadline.calls kj6 2 5 1 _ _ ([] : List Int) t154 t155 _ ?side1 ?side2 A25.out).mono ?_); (case side1 => exact Kd.C_nil _ _); (case side2 => exact Nat.le_refl _); rintro e w' ⟨rfl, ⟨nd, rfl⟩⟩; refine ⟨_, rfl, ?_⟩) | ((with_reducible refine gate_dst (N := 112) rfl ?_); refine Kd.R_lit (Kd.int .i64) _ 3 ?hg (N := 112) ?hd (xs := ([9] : List Int)) (inner := [.int .i64 9]) (ok := fun _ => True) (okp := fun _ => True) ?hr ?hp (fun _ hk => hk) trivial (Below.refl _ _) (Nat.le_refl _) (by simp) ?_; (case hd => rfl); (case hg => rfl); (case hr => first | (go_simp; done) | (go_simp; rfl)); (case hp => exact (Reps.one (show Kd.M (Kd.int .i64) _ _ _ 9 [.int .i64 9] from rfl) (Reps.none _ _))); intro v157 w45 ho46 hb hg_ hnew_; clear hg_ hnew_; (first | rw [← Ny156.out] at ho46 | (simp only [Int.reduceToNat] at ho46; rw [← Ny156.out] at ho46)); have n0_ := Aside0.mk (Kd.R_lower ho46 (below_size (by repeat (first | (with_reducible first | exact HB.out | apply below_alloc | apply pw_below_drewN | apply below_drew1 | refine below_set ?_ GE153.out) | exact HB.out)))); have n1_ := Aside0.mk (blk_below (g := gb153) (o := .cells #[.int .i64 t150, .int .i64 t151] 32 (0, 0)) (by (with_reducible repeat (first | refine blk_drewN ?_ _ | refine blk_drew ?_ | refine blk_alloc ?_ _)); exact BK153.out) hb); have n2_ := Aside0.mk (below_step (by repeat (first | (with_reducible first | exact HB.out | apply below_alloc | apply pw_below_drewN | apply below_drew1 | refine below_set ?_ GE153.out) | exact HB.out)) hb); clear BK153; clear HB; have HO158 := n0_; have BK153 := n1_; have HB := n2_; clear n0_ n1_ n2_; clear hb ho46; obtain ⟨Ao47, co47, eo47⟩ := Kd.R_slice HO158.out; subst eo47) | ((with_reducible refine gate_callee (f := 25) rfl ?_); refine goesL_ (some 113) rfl rfl Tryd.func25 (by kernel_rfl) rfl #[.int .i64 2, .int .i64 5, .int .i64 1, .slice Ao47 y156.length co47] rfl (by (try simp only [List.map_toArray, List.map_cons, List.map_nil]); first | done | rfl | (simp only [List.length_drop, List.length_take]; rfl)) ?_; (with_reducible refine (calendar_Deadline.calls kj6 2 5 1 _ _ y156 t159 t160 _ ?side1 ?side2 A26.out).mono ?_); (case side1 => repeat (first | exact (Kd.R_reads' HO158.out).2.2 | (with_reducible refine Kd.C_alloc ?_ _) | (with_reducible refine Kd.C_drewN ?_ _) | (with_reducible refine Kd.C_drew ?_))); (case side2 => exact (Kd.R_reads' HO158.out).2.1); rintro e w' ⟨rfl, ⟨nd, rfl⟩⟩; refine ⟨_, rfl, ?_⟩) | ((with_reducible refine gate_callee (f := 25) rfl ?_); refine goesL_ (some 117) rfl rfl Tryd.func25 (by kernel_rfl) rfl #[.int .i64 2, .int .i64 4, .int .i64 2, .slice none 0 0] rfl (by (try simp only [List.map_toArray, List.map_cons, List.map_nil]); first | done | rfl | (simp only [List.length_drop, List.length_take]; rfl)) ?_; (refine (calendar_Deadline.calls kj6 2 4 2 _ _ ([] : List Int) t161 t162 _ ?side1 ?side2 A27.out).mono ?_); (case side1 => exact Kd.C_nil _ _); (case side2 => exact Nat.le_refl _); rintro e w' ⟨rfl, ⟨nd, rfl⟩⟩; refine ⟨_, rfl, ?_⟩) | ((with_reducible refine gate_callee (f := 15) rfl ?_); refine goesL_ (some 121) rfl rfl Tryd.func15 (by kernel_rfl) rfl #[.int .i64 2001, .int .i64 2, .int .i64 29] rfl (by (try simp only [List.map_toArray, List.map_cons, List.map_nil]); first | done | rfl | (simp only [List.length_drop, List.length_take]; rfl)) ?_; (with_reducible refine (calendar_Day.calls kj6 2001 2 29 t163 t164 _ ?side1 A28.out).mono ?_); (case side1 => exact TabOK.below HTA.out (by repeat (first | (with_reducible first | exact HB.out | apply below_alloc | apply pw_below_drewN | apply below_drew1 | refine below_set ?_ GE153.out) | exact HB.out))); rintro e w' ⟨rfl, ⟨nd, rfl⟩⟩; refine ⟨_, rfl, ?_⟩) | ((with_reducible refine gate_callee (f := 23) rfl ?_); refine goesL_ (some 125) rfl rfl Tryd.func23 (by kernel_rfl) rfl #[.int .i64 2, .slice none 0 0] rfl (by (try simp only [List.map_toArray, List.map_cons, List.map_nil]); first | done | rfl | (simp only [List.length_drop, List.length_take]; rfl)) ?_; (refine (calendar_Working.calls kj6 2 _ _ ([] : List Int) t165 t166 _ ?side1 ?side2 A29.out).mono ?_); (case side1 => exact Kd.C_nil _ _); (case side2 => exact Nat.le_refl _); rintro e w' ⟨rfl, ⟨nd, rfl⟩⟩; refine ⟨_, rfl, ?_⟩))
                      go_ret
                      exact ⟨by first | rfl | (simp [errW_none, errW_some] <;> rfl) | (simp [*, errW_none, errW_some] <;> rfl), by repeat (first | (with_reducible first | exact HB.out | apply below_alloc | apply pw_below_drewN | apply below_drew1 | refine below_set ?_ GE153.out) | exact HB.out)⟩
                  · rw [if_neg c36] at H
                    have c36b0 : (t161 == 9) = false := beq_eq_false_iff_ne.mpr c36
                    have c36b1 : (t161 != 9) = true := bne_iff_ne.mpr c36
                    obtain rfl := Option.some.inj H
                    go_wp2_with (first | ((with_reducible refine gate_callee (f := 25) rfl ?_); refine goesL_ (some 108) rfl rfl Tryd.func25 (by kernel_rfl) rfl #[.int .i64 2, .int .i64 5, .int .i64 1, .slice none 0 0] rfl (by (try simp only [List.map_toArray, List.map_cons, List.map_nil]); first | done | rfl | (simp only [List.length_drop, List.length_take]; rfl)) ?_; (refine (calendar_Deadline.calls kj6 2 5 1 _ _ ([] : List Int) t154 t155 _ ?side1 ?side2 A25.out).mono ?_); (case side1 => exact Kd.C_nil _ _); (case side2 => exact Nat.le_refl _); rintro e w' ⟨rfl, ⟨nd, rfl⟩⟩; refine ⟨_, rfl, ?_⟩) | ((with_reducible refine gate_dst (N := 112) rfl ?_); refine Kd.R_lit (Kd.int .i64) _ 3 ?hg (N := 112) ?hd (xs := ([9] : List Int)) (inner := [.int .i64 9]) (ok := fun _ => True) (okp := fun _ => True) ?hr ?hp (fun _ hk => hk) trivial (Below.refl _ _) (Nat.le_refl _) (by simp) ?_; (case hd => rfl); (case hg => rfl); (case hr => first | (go_simp; done) | (go_simp; rfl)); (case hp => exact (Reps.one (show Kd.M (Kd.int .i64) _ _ _ 9 [.int .i64 9] from rfl) (Reps.none _ _))); intro v157 w48 ho49 hb hg_ hnew_; clear hg_ hnew_; (first | rw [← Ny156.out] at ho49 | (simp only [Int.reduceToNat] at ho49; rw [← Ny156.out] at ho49)); have n0_ := Aside0.mk (Kd.R_lower ho49 (below_size (by repeat (first | (with_reducible first | exact HB.out | apply below_alloc | apply pw_below_drewN | apply below_drew1 | refine below_set ?_ GE153.out) | exact HB.out)))); have n1_ := Aside0.mk (blk_below (g := gb153) (o := .cells #[.int .i64 t150, .int .i64 t151] 32 (0, 0)) (by (with_reducible repeat (first | refine blk_drewN ?_ _ | refine blk_drew ?_ | refine blk_alloc ?_ _)); exact BK153.out) hb); have n2_ := Aside0.mk (below_step (by repeat (first | (with_reducible first | exact HB.out | apply below_alloc | apply pw_below_drewN | apply below_drew1 | refine below_set ?_ GE153.out) | exact HB.out)) hb); clear BK153; clear HB; have HO158 := n0_; have BK153 := n1_; have HB := n2_; clear n0_ n1_ n2_; clear hb ho49; obtain ⟨Ao50, co50, eo50⟩ := Kd.R_slice HO158.out; subst eo50) | ((with_reducible refine gate_callee (f := 25) rfl ?_); refine goesL_ (some 113) rfl rfl Tryd.func25 (by kernel_rfl) rfl #[.int .i64 2, .int .i64 5, .int .i64 1, .slice Ao50 y156.length co50] rfl (by (try simp only [List.map_toArray, List.map_cons, List.map_nil]); first | done | rfl | (simp only [List.length_drop, List.length_take]; rfl)) ?_; (with_reducible refine (calendar_Deadline.calls kj6 2 5 1 _ _ y156 t159 t160 _ ?side1 ?side2 A26.out).mono ?_); (case side1 => repeat (first | exact (Kd.R_reads' HO158.out).2.2 | (with_reducible refine Kd.C_alloc ?_ _) | (with_reducible refine Kd.C_drewN ?_ _) | (with_reducible refine Kd.C_drew ?_))); (case side2 => exact (Kd.R_reads' HO158.out).2.1); rintro e w' ⟨rfl, ⟨nd, rfl⟩⟩; refine ⟨_, rfl, ?_⟩) | ((with_reducible refine gate_callee (f := 25) rfl ?_); refine goesL_ (some 117) rfl rfl Tryd.func25 (by kernel_rfl) rfl #[.int .i64 2, .int .i64 4, .int .i64 2, .slice none 0 0] rfl (by (try simp only [List.map_toArray, List.map_cons, List.map_nil]); first | done | rfl | (simp only [List.length_drop, List.length_take]; rfl)) ?_; (refine (calendar_Deadline.calls kj6 2 4 2 _ _ ([] : List Int) t161 t162 _ ?side1 ?side2 A27.out).mono ?_); (case side1 => exact Kd.C_nil _ _); (case side2 => exact Nat.le_refl _); rintro e w' ⟨rfl, ⟨nd, rfl⟩⟩; refine ⟨_, rfl, ?_⟩) | ((with_reducible refine gate_callee (f := 15) rfl ?_); refine goesL_ (some 121) rfl rfl Tryd.func15 (by kernel_rfl) rfl #[.int .i64 2001, .int .i64 2, .int .i64 29] rfl (by (try simp only [List.map_toArray, List.map_cons, List.map_nil]); first | done | rfl | (simp only [List.length_drop, List.length_take]; rfl)) ?_; (with_reducible refine (calendar_Day.calls kj6 2001 2 29 t163 t164 _ ?side1 A28.out).mono ?_); (case side1 => exact TabOK.below HTA.out (by repeat (first | (with_reducible first | exact HB.out | apply below_alloc | apply pw_below_drewN | apply below_drew1 | refine below_set ?_ GE153.out) | exact HB.out))); rintro e w' ⟨rfl, ⟨nd, rfl⟩⟩; refine ⟨_, rfl, ?_⟩) | ((with_reducible refine gate_callee (f := 23) rfl ?_); refine goesL_ (some 125) rfl rfl Tryd.func23 (by kernel_rfl) rfl #[.int .i64 2, .slice none 0 0] rfl (by (try simp only [List.map_toArray, List.map_cons, List.map_nil]); first | done | rfl | (simp only [List.length_drop, List.length_take]; rfl)) ?_; (refine (calendar_Working.calls kj6 2 _ _ ([] : List Int) t165 t166 _ ?side1 ?side2 A29.out).mono ?_); (case side1 => exact Kd.C_nil _ _); (case side2 => exact Nat.le_refl _); rintro e w' ⟨rfl, ⟨nd, rfl⟩⟩; refine ⟨_, rfl, ?_⟩))
                    go_ret
                    exact ⟨by first | rfl | (simp [errW_none, errW_some] <;> rfl) | (simp [*, errW_none, errW_some] <;> rfl), by repeat (first | (with_reducible first | exact HB.out | apply below_alloc | apply pw_below_drewN | apply below_drew1 | refine below_set ?_ GE153.out) | exact HB.out)⟩
                · rw [if_neg c35] at H
                  have c35b0 : (t162 == 0) = false := beq_eq_false_iff_ne.mpr c35
                  have c35b1 : (t162 != 0) = true := bne_iff_ne.mpr c35
                  obtain rfl := Option.some.inj H
                  go_wp2_with (first | ((with_reducible refine gate_callee (f := 25) rfl ?_); refine goesL_ (some 108) rfl rfl Tryd.func25 (by kernel_rfl) rfl #[.int .i64 2, .int .i64 5, .int .i64 1, .slice none 0 0] rfl (by (try simp only [List.map_toArray, List.map_cons, List.map_nil]); first | done | rfl | (simp only [List.length_drop, List.length_take]; rfl)) ?_; (refine (calendar_Deadline.calls kj6 2 5 1 _ _ ([] : List Int) t154 t155 _ ?side1 ?side2 A25.out).mono ?_); (case side1 => exact Kd.C_nil _ _); (case side2 => exact Nat.le_refl _); rintro e w' ⟨rfl, ⟨nd, rfl⟩⟩; refine ⟨_, rfl, ?_⟩) | ((with_reducible refine gate_dst (N := 112) rfl ?_); refine Kd.R_lit (Kd.int .i64) _ 3 ?hg (N := 112) ?hd (xs := ([9] : List Int)) (inner := [.int .i64 9]) (ok := fun _ => True) (okp := fun _ => True) ?hr ?hp (fun _ hk => hk) trivial (Below.refl _ _) (Nat.le_refl _) (by simp) ?_; (case hd => rfl); (case hg => rfl); (case hr => first | (go_simp; done) | (go_simp; rfl)); (case hp => exact (Reps.one (show Kd.M (Kd.int .i64) _ _ _ 9 [.int .i64 9] from rfl) (Reps.none _ _))); intro v157 w51 ho52 hb hg_ hnew_; clear hg_ hnew_; (first | rw [← Ny156.out] at ho52 | (simp only [Int.reduceToNat] at ho52; rw [← Ny156.out] at ho52)); have n0_ := Aside0.mk (Kd.R_lower ho52 (below_size (by repeat (first | (with_reducible first | exact HB.out | apply below_alloc | apply pw_below_drewN | apply below_drew1 | refine below_set ?_ GE153.out) | exact HB.out)))); have n1_ := Aside0.mk (blk_below (g := gb153) (o := .cells #[.int .i64 t150, .int .i64 t151] 32 (0, 0)) (by (with_reducible repeat (first | refine blk_drewN ?_ _ | refine blk_drew ?_ | refine blk_alloc ?_ _)); exact BK153.out) hb); have n2_ := Aside0.mk (below_step (by repeat (first | (with_reducible first | exact HB.out | apply below_alloc | apply pw_below_drewN | apply below_drew1 | refine below_set ?_ GE153.out) | exact HB.out)) hb); clear BK153; clear HB; have HO158 := n0_; have BK153 := n1_; have HB := n2_; clear n0_ n1_ n2_; clear hb ho52; obtain ⟨Ao53, co53, eo53⟩ := Kd.R_slice HO158.out; subst eo53) | ((with_reducible refine gate_callee (f := 25) rfl ?_); refine goesL_ (some 113) rfl rfl Tryd.func25 (by kernel_rfl) rfl #[.int .i64 2, .int .i64 5, .int .i64 1, .slice Ao53 y156.length co53] rfl (by (try simp only [List.map_toArray, List.map_cons, List.map_nil]); first | done | rfl | (simp only [List.length_drop, List.length_take]; rfl)) ?_; (with_reducible refine (calendar_Deadline.calls kj6 2 5 1 _ _ y156 t159 t160 _ ?side1 ?side2 A26.out).mono ?_); (case side1 => repeat (first | exact (Kd.R_reads' HO158.out).2.2 | (with_reducible refine Kd.C_alloc ?_ _) | (with_reducible refine Kd.C_drewN ?_ _) | (with_reducible refine Kd.C_drew ?_))); (case side2 => exact (Kd.R_reads' HO158.out).2.1); rintro e w' ⟨rfl, ⟨nd, rfl⟩⟩; refine ⟨_, rfl, ?_⟩) | ((with_reducible refine gate_callee (f := 25) rfl ?_); refine goesL_ (some 117) rfl rfl Tryd.func25 (by kernel_rfl) rfl #[.int .i64 2, .int .i64 4, .int .i64 2, .slice none 0 0] rfl (by (try simp only [List.map_toArray, List.map_cons, List.map_nil]); first | done | rfl | (simp only [List.length_drop, List.length_take]; rfl)) ?_; (refine (calendar_Deadline.calls kj6 2 4 2 _ _ ([] : List Int) t161 t162 _ ?side1 ?side2 A27.out).mono ?_); (case side1 => exact Kd.C_nil _ _); (case side2 => exact Nat.le_refl _); rintro e w' ⟨rfl, ⟨nd, rfl⟩⟩; refine ⟨_, rfl, ?_⟩) | ((with_reducible refine gate_callee (f := 15) rfl ?_); refine goesL_ (some 121) rfl rfl Tryd.func15 (by kernel_rfl) rfl #[.int .i64 2001, .int .i64 2, .int .i64 29] rfl (by (try simp only [List.map_toArray, List.map_cons, List.map_nil]); first | done | rfl | (simp only [List.length_drop, List.length_take]; rfl)) ?_; (with_reducible refine (calendar_Day.calls kj6 2001 2 29 t163 t164 _ ?side1 A28.out).mono ?_); (case side1 => exact TabOK.below HTA.out (by repeat (first | (with_reducible first | exact HB.out | apply below_alloc | apply pw_below_drewN | apply below_drew1 | refine below_set ?_ GE153.out) | exact HB.out))); rintro e w' ⟨rfl, ⟨nd, rfl⟩⟩; refine ⟨_, rfl, ?_⟩) | ((with_reducible refine gate_callee (f := 23) rfl ?_); refine goesL_ (some 125) rfl rfl Tryd.func23 (by kernel_rfl) rfl #[.int .i64 2, .slice none 0 0] rfl (by (try simp only [List.map_toArray, List.map_cons, List.map_nil]); first | done | rfl | (simp only [List.length_drop, List.length_take]; rfl)) ?_; (refine (calendar_Working.calls kj6 2 _ _ ([] : List Int) t165 t166 _ ?side1 ?side2 A29.out).mono ?_); (case side1 => exact Kd.C_nil _ _); (case side2 => exact Nat.le_refl _); rintro e w' ⟨rfl, ⟨nd, rfl⟩⟩; refine ⟨_, rfl, ?_⟩))
                  go_ret
                  exact ⟨by first | rfl | (simp [errW_none, errW_some] <;> rfl) | (simp [*, errW_none, errW_some] <;> rfl), by repeat (first | (with_reducible first | exact HB.out | apply below_alloc | apply pw_below_drewN | apply below_drew1 | refine below_set ?_ GE153.out) | exact HB.out)⟩
              · rw [if_neg c34] at H
                have c34b0 : (t159 == 10) = false := beq_eq_false_iff_ne.mpr c34
                have c34b1 : (t159 != 10) = true := bne_iff_ne.mpr c34
                obtain rfl := Option.some.inj H
                go_wp2_with (first | ((with_reducible refine gate_callee (f := 25) rfl ?_); refine goesL_ (some 108) rfl rfl Tryd.func25 (by kernel_rfl) rfl #[.int .i64 2, .int .i64 5, .int .i64 1, .slice none 0 0] rfl (by (try simp only [List.map_toArray, List.map_cons, List.map_nil]); first | done | rfl | (simp only [List.length_drop, List.length_take]; rfl)) ?_; (refine (calendar_Deadline.calls kj6 2 5 1 _ _ ([] : List Int) t154 t155 _ ?side1 ?side2 A25.out).mono ?_); (case side1 => exact Kd.C_nil _ _); (case side2 => exact Nat.le_refl _); rintro e w' ⟨rfl, ⟨nd, rfl⟩⟩; refine ⟨_, rfl, ?_⟩) | ((with_reducible refine gate_dst (N := 112) rfl ?_); refine Kd.R_lit (Kd.int .i64) _ 3 ?hg (N := 112) ?hd (xs := ([9] : List Int)) (inner := [.int .i64 9]) (ok := fun _ => True) (okp := fun _ => True) ?hr ?hp (fun _ hk => hk) trivial (Below.refl _ _) (Nat.le_refl _) (by simp) ?_; (case hd => rfl); (case hg => rfl); (case hr => first | (go_simp; done) | (go_simp; rfl)); (case hp => exact (Reps.one (show Kd.M (Kd.int .i64) _ _ _ 9 [.int .i64 9] from rfl) (Reps.none _ _))); intro v157 w54 ho55 hb hg_ hnew_; clear hg_ hnew_; (first | rw [← Ny156.out] at ho55 | (simp only [Int.reduceToNat] at ho55; rw [← Ny156.out] at ho55)); have n0_ := Aside0.mk (Kd.R_lower ho55 (below_size (by repeat (first | (with_reducible first | exact HB.out | apply below_alloc | apply pw_below_drewN | apply below_drew1 | refine below_set ?_ GE153.out) | exact HB.out)))); have n1_ := Aside0.mk (blk_below (g := gb153) (o := .cells #[.int .i64 t150, .int .i64 t151] 32 (0, 0)) (by (with_reducible repeat (first | refine blk_drewN ?_ _ | refine blk_drew ?_ | refine blk_alloc ?_ _)); exact BK153.out) hb); have n2_ := Aside0.mk (below_step (by repeat (first | (with_reducible first | exact HB.out | apply below_alloc | apply pw_below_drewN | apply below_drew1 | refine below_set ?_ GE153.out) | exact HB.out)) hb); clear BK153; clear HB; have HO158 := n0_; have BK153 := n1_; have HB := n2_; clear n0_ n1_ n2_; clear hb ho55; obtain ⟨Ao56, co56, eo56⟩ := Kd.R_slice HO158.out; subst eo56) | ((with_reducible refine gate_callee (f := 25) rfl ?_); refine goesL_ (some 113) rfl rfl Tryd.func25 (by kernel_rfl) rfl #[.int .i64 2, .int .i64 5, .int .i64 1, .slice Ao56 y156.length co56] rfl (by (try simp only [List.map_toArray, List.map_cons, List.map_nil]); first | done | rfl | (simp only [List.length_drop, List.length_take]; rfl)) ?_; (with_reducible refine (calendar_Deadline.calls kj6 2 5 1 _ _ y156 t159 t160 _ ?side1 ?side2 A26.out).mono ?_); (case side1 => repeat (first | exact (Kd.R_reads' HO158.out).2.2 | (with_reducible refine Kd.C_alloc ?_ _) | (with_reducible refine Kd.C_drewN ?_ _) | (with_reducible refine Kd.C_drew ?_))); (case side2 => exact (Kd.R_reads' HO158.out).2.1); rintro e w' ⟨rfl, ⟨nd, rfl⟩⟩; refine ⟨_, rfl, ?_⟩) | ((with_reducible refine gate_callee (f := 25) rfl ?_); refine goesL_ (some 117) rfl rfl Tryd.func25 (by kernel_rfl) rfl #[.int .i64 2, .int .i64 4, .int .i64 2, .slice none 0 0] rfl (by (try simp only [List.map_toArray, List.map_cons, List.map_nil]); first | done | rfl | (simp only [List.length_drop, List.length_take]; rfl)) ?_; (refine (calendar_Deadline.calls kj6 2 4 2 _ _ ([] : List Int) t161 t162 _ ?side1 ?side2 A27.out).mono ?_); (case side1 => exact Kd.C_nil _ _); (case side2 => exact Nat.le_refl _); rintro e w' ⟨rfl, ⟨nd, rfl⟩⟩; refine ⟨_, rfl, ?_⟩) | ((with_reducible refine gate_callee (f := 15) rfl ?_); refine goesL_ (some 121) rfl rfl Tryd.func15 (by kernel_rfl) rfl #[.int .i64 2001, .int .i64 2, .int .i64 29] rfl (by (try simp only [List.map_toArray, List.map_cons, List.map_nil]); first | done | rfl | (simp only [List.length_drop, List.length_take]; rfl)) ?_; (with_reducible refine (calendar_Day.calls kj6 2001 2 29 t163 t164 _ ?side1 A28.out).mono ?_); (case side1 => exact TabOK.below HTA.out (by repeat (first | (with_reducible first | exact HB.out | apply below_alloc | apply pw_below_drewN | apply below_drew1 | refine below_set ?_ GE153.out) | exact HB.out))); rintro e w' ⟨rfl, ⟨nd, rfl⟩⟩; refine ⟨_, rfl, ?_⟩) | ((with_reducible refine gate_callee (f := 23) rfl ?_); refine goesL_ (some 125) rfl rfl Tryd.func23 (by kernel_rfl) rfl #[.int .i64 2, .slice none 0 0] rfl (by (try simp only [List.map_toArray, List.map_cons, List.map_nil]); first | done | rfl | (simp only [List.length_drop, List.length_take]; rfl)) ?_; (refine (calendar_Working.calls kj6 2 _ _ ([] : List Int) t165 t166 _ ?side1 ?side2 A29.out).mono ?_); (case side1 => exact Kd.C_nil _ _); (case side2 => exact Nat.le_refl _); rintro e w' ⟨rfl, ⟨nd, rfl⟩⟩; refine ⟨_, rfl, ?_⟩))
                go_ret
                exact ⟨by first | rfl | (simp [errW_none, errW_some] <;> rfl) | (simp [*, errW_none, errW_some] <;> rfl), by repeat (first | (with_reducible first | exact HB.out | apply below_alloc | apply pw_below_drewN | apply below_drew1 | refine below_set ?_ GE153.out) | exact HB.out)⟩
            · rw [if_neg c33] at H
              have c33b0 : (t160 == 0) = false := beq_eq_false_iff_ne.mpr c33
              have c33b1 : (t160 != 0) = true := bne_iff_ne.mpr c33
              obtain rfl := Option.some.inj H
              go_wp2_with (first | ((with_reducible refine gate_callee (f := 25) rfl ?_); refine goesL_ (some 108) rfl rfl Tryd.func25 (by kernel_rfl) rfl #[.int .i64 2, .int .i64 5, .int .i64 1, .slice none 0 0] rfl (by (try simp only [List.map_toArray, List.map_cons, List.map_nil]); first | done | rfl | (simp only [List.length_drop, List.length_take]; rfl)) ?_; (refine (calendar_Deadline.calls kj6 2 5 1 _ _ ([] : List Int) t154 t155 _ ?side1 ?side2 A25.out).mono ?_); (case side1 => exact Kd.C_nil _ _); (case side2 => exact Nat.le_refl _); rintro e w' ⟨rfl, ⟨nd, rfl⟩⟩; refine ⟨_, rfl, ?_⟩) | ((with_reducible refine gate_dst (N := 112) rfl ?_); refine Kd.R_lit (Kd.int .i64) _ 3 ?hg (N := 112) ?hd (xs := ([9] : List Int)) (inner := [.int .i64 9]) (ok := fun _ => True) (okp := fun _ => True) ?hr ?hp (fun _ hk => hk) trivial (Below.refl _ _) (Nat.le_refl _) (by simp) ?_; (case hd => rfl); (case hg => rfl); (case hr => first | (go_simp; done) | (go_simp; rfl)); (case hp => exact (Reps.one (show Kd.M (Kd.int .i64) _ _ _ 9 [.int .i64 9] from rfl) (Reps.none _ _))); intro v157 w57 ho58 hb hg_ hnew_; clear hg_ hnew_; (first | rw [← Ny156.out] at ho58 | (simp only [Int.reduceToNat] at ho58; rw [← Ny156.out] at ho58)); have n0_ := Aside0.mk (Kd.R_lower ho58 (below_size (by repeat (first | (with_reducible first | exact HB.out | apply below_alloc | apply pw_below_drewN | apply below_drew1 | refine below_set ?_ GE153.out) | exact HB.out)))); have n1_ := Aside0.mk (blk_below (g := gb153) (o := .cells #[.int .i64 t150, .int .i64 t151] 32 (0, 0)) (by (with_reducible repeat (first | refine blk_drewN ?_ _ | refine blk_drew ?_ | refine blk_alloc ?_ _)); exact BK153.out) hb); have n2_ := Aside0.mk (below_step (by repeat (first | (with_reducible first | exact HB.out | apply below_alloc | apply pw_below_drewN | apply below_drew1 | refine below_set ?_ GE153.out) | exact HB.out)) hb); clear BK153; clear HB; have HO158 := n0_; have BK153 := n1_; have HB := n2_; clear n0_ n1_ n2_; clear hb ho58; obtain ⟨Ao59, co59, eo59⟩ := Kd.R_slice HO158.out; subst eo59) | ((with_reducible refine gate_callee (f := 25) rfl ?_); refine goesL_ (some 113) rfl rfl Tryd.func25 (by kernel_rfl) rfl #[.int .i64 2, .int .i64 5, .int .i64 1, .slice Ao59 y156.length co59] rfl (by (try simp only [List.map_toArray, List.map_cons, List.map_nil]); first | done | rfl | (simp only [List.length_drop, List.length_take]; rfl)) ?_; (with_reducible refine (calendar_Deadline.calls kj6 2 5 1 _ _ y156 t159 t160 _ ?side1 ?side2 A26.out).mono ?_); (case side1 => repeat (first | exact (Kd.R_reads' HO158.out).2.2 | (with_reducible refine Kd.C_alloc ?_ _) | (with_reducible refine Kd.C_drewN ?_ _) | (with_reducible refine Kd.C_drew ?_))); (case side2 => exact (Kd.R_reads' HO158.out).2.1); rintro e w' ⟨rfl, ⟨nd, rfl⟩⟩; refine ⟨_, rfl, ?_⟩) | ((with_reducible refine gate_callee (f := 25) rfl ?_); refine goesL_ (some 117) rfl rfl Tryd.func25 (by kernel_rfl) rfl #[.int .i64 2, .int .i64 4, .int .i64 2, .slice none 0 0] rfl (by (try simp only [List.map_toArray, List.map_cons, List.map_nil]); first | done | rfl | (simp only [List.length_drop, List.length_take]; rfl)) ?_; (refine (calendar_Deadline.calls kj6 2 4 2 _ _ ([] : List Int) t161 t162 _ ?side1 ?side2 A27.out).mono ?_); (case side1 => exact Kd.C_nil _ _); (case side2 => exact Nat.le_refl _); rintro e w' ⟨rfl, ⟨nd, rfl⟩⟩; refine ⟨_, rfl, ?_⟩) | ((with_reducible refine gate_callee (f := 15) rfl ?_); refine goesL_ (some 121) rfl rfl Tryd.func15 (by kernel_rfl) rfl #[.int .i64 2001, .int .i64 2, .int .i64 29] rfl (by (try simp only [List.map_toArray, List.map_cons, List.map_nil]); first | done | rfl | (simp only [List.length_drop, List.length_take]; rfl)) ?_; (with_reducible refine (calendar_Day.calls kj6 2001 2 29 t163 t164 _ ?side1 A28.out).mono ?_); (case side1 => exact TabOK.below HTA.out (by repeat (first | (with_reducible first | exact HB.out | apply below_alloc | apply pw_below_drewN | apply below_drew1 | refine below_set ?_ GE153.out) | exact HB.out))); rintro e w' ⟨rfl, ⟨nd, rfl⟩⟩; refine ⟨_, rfl, ?_⟩) | ((with_reducible refine gate_callee (f := 23) rfl ?_); refine goesL_ (some 125) rfl rfl Tryd.func23 (by kernel_rfl) rfl #[.int .i64 2, .slice none 0 0] rfl (by (try simp only [List.map_toArray, List.map_cons, List.map_nil]); first | done | rfl | (simp only [List.length_drop, List.length_take]; rfl)) ?_; (refine (calendar_Working.calls kj6 2 _ _ ([] : List Int) t165 t166 _ ?side1 ?side2 A29.out).mono ?_); (case side1 => exact Kd.C_nil _ _); (case side2 => exact Nat.le_refl _); rintro e w' ⟨rfl, ⟨nd, rfl⟩⟩; refine ⟨_, rfl, ?_⟩))
              go_ret
              exact ⟨by first | rfl | (simp [errW_none, errW_some] <;> rfl) | (simp [*, errW_none, errW_some] <;> rfl), by repeat (first | (with_reducible first | exact HB.out | apply below_alloc | apply pw_below_drewN | apply below_drew1 | refine below_set ?_ GE153.out) | exact HB.out)⟩
          · rw [if_neg c32] at H
            have c32b0 : (t154 == 9) = false := beq_eq_false_iff_ne.mpr c32
            have c32b1 : (t154 != 9) = true := bne_iff_ne.mpr c32
            obtain rfl := Option.some.inj H
            go_wp2_with (first | ((with_reducible refine gate_callee (f := 25) rfl ?_); refine goesL_ (some 108) rfl rfl Tryd.func25 (by kernel_rfl) rfl #[.int .i64 2, .int .i64 5, .int .i64 1, .slice none 0 0] rfl (by (try simp only [List.map_toArray, List.map_cons, List.map_nil]); first | done | rfl | (simp only [List.length_drop, List.length_take]; rfl)) ?_; (refine (calendar_Deadline.calls kj6 2 5 1 _ _ ([] : List Int) t154 t155 _ ?side1 ?side2 A25.out).mono ?_); (case side1 => exact Kd.C_nil _ _); (case side2 => exact Nat.le_refl _); rintro e w' ⟨rfl, ⟨nd, rfl⟩⟩; refine ⟨_, rfl, ?_⟩) | ((with_reducible refine gate_dst (N := 112) rfl ?_); refine Kd.R_lit (Kd.int .i64) _ 3 ?hg (N := 112) ?hd (xs := ([9] : List Int)) (inner := [.int .i64 9]) (ok := fun _ => True) (okp := fun _ => True) ?hr ?hp (fun _ hk => hk) trivial (Below.refl _ _) (Nat.le_refl _) (by simp) ?_; (case hd => rfl); (case hg => rfl); (case hr => first | (go_simp; done) | (go_simp; rfl)); (case hp => exact (Reps.one (show Kd.M (Kd.int .i64) _ _ _ 9 [.int .i64 9] from rfl) (Reps.none _ _))); intro v157 w60 ho61 hb hg_ hnew_; clear hg_ hnew_; (first | rw [← Ny156.out] at ho61 | (simp only [Int.reduceToNat] at ho61; rw [← Ny156.out] at ho61)); have n0_ := Aside0.mk (Kd.R_lower ho61 (below_size (by repeat (first | (with_reducible first | exact HB.out | apply below_alloc | apply pw_below_drewN | apply below_drew1 | refine below_set ?_ GE153.out) | exact HB.out)))); have n1_ := Aside0.mk (blk_below (g := gb153) (o := .cells #[.int .i64 t150, .int .i64 t151] 32 (0, 0)) (by (with_reducible repeat (first | refine blk_drewN ?_ _ | refine blk_drew ?_ | refine blk_alloc ?_ _)); exact BK153.out) hb); have n2_ := Aside0.mk (below_step (by repeat (first | (with_reducible first | exact HB.out | apply below_alloc | apply pw_below_drewN | apply below_drew1 | refine below_set ?_ GE153.out) | exact HB.out)) hb); clear BK153; clear HB; have HO158 := n0_; have BK153 := n1_; have HB := n2_; clear n0_ n1_ n2_; clear hb ho61; obtain ⟨Ao62, co62, eo62⟩ := Kd.R_slice HO158.out; subst eo62) | ((with_reducible refine gate_callee (f := 25) rfl ?_); refine goesL_ (some 113) rfl rfl Tryd.func25 (by kernel_rfl) rfl #[.int .i64 2, .int .i64 5, .int .i64 1, .slice Ao62 y156.length co62] rfl (by (try simp only [List.map_toArray, List.map_cons, List.map_nil]); first | done | rfl | (simp only [List.length_drop, List.length_take]; rfl)) ?_; (with_reducible refine (calendar_Deadline.calls kj6 2 5 1 _ _ y156 t159 t160 _ ?side1 ?side2 A26.out).mono ?_); (case side1 => repeat (first | exact (Kd.R_reads' HO158.out).2.2 | (with_reducible refine Kd.C_alloc ?_ _) | (with_reducible refine Kd.C_drewN ?_ _) | (with_reducible refine Kd.C_drew ?_))); (case side2 => exact (Kd.R_reads' HO158.out).2.1); rintro e w' ⟨rfl, ⟨nd, rfl⟩⟩; refine ⟨_, rfl, ?_⟩) | ((with_reducible refine gate_callee (f := 25) rfl ?_); refine goesL_ (some 117) rfl rfl Tryd.func25 (by kernel_rfl) rfl #[.int .i64 2, .int .i64 4, .int .i64 2, .slice none 0 0] rfl (by (try simp only [List.map_toArray, List.map_cons, List.map_nil]); first | done | rfl | (simp only [List.length_drop, List.length_take]; rfl)) ?_; (refine (calendar_Deadline.calls kj6 2 4 2 _ _ ([] : List Int) t161 t162 _ ?side1 ?side2 A27.out).mono ?_); (case side1 => exact Kd.C_nil _ _); (case side2 => exact Nat.le_refl _); rintro e w' ⟨rfl, ⟨nd, rfl⟩⟩; refine ⟨_, rfl, ?_⟩) | ((with_reducible refine gate_callee (f := 15) rfl ?_); refine goesL_ (some 121) rfl rfl Tryd.func15 (by kernel_rfl) rfl #[.int .i64 2001, .int .i64 2, .int .i64 29] rfl (by (try simp only [List.map_toArray, List.map_cons, List.map_nil]); first | done | rfl | (simp only [List.length_drop, List.length_take]; rfl)) ?_; (with_reducible refine (calendar_Day.calls kj6 2001 2 29 t163 t164 _ ?side1 A28.out).mono ?_); (case side1 => exact TabOK.below HTA.out (by repeat (first | (with_reducible first | exact HB.out | apply below_alloc | apply pw_below_drewN | apply below_drew1 | refine below_set ?_ GE153.out) | exact HB.out))); rintro e w' ⟨rfl, ⟨nd, rfl⟩⟩; refine ⟨_, rfl, ?_⟩) | ((with_reducible refine gate_callee (f := 23) rfl ?_); refine goesL_ (some 125) rfl rfl Tryd.func23 (by kernel_rfl) rfl #[.int .i64 2, .slice none 0 0] rfl (by (try simp only [List.map_toArray, List.map_cons, List.map_nil]); first | done | rfl | (simp only [List.length_drop, List.length_take]; rfl)) ?_; (refine (calendar_Working.calls kj6 2 _ _ ([] : List Int) t165 t166 _ ?side1 ?side2 A29.out).mono ?_); (case side1 => exact Kd.C_nil _ _); (case side2 => exact Nat.le_refl _); rintro e w' ⟨rfl, ⟨nd, rfl⟩⟩; refine ⟨_, rfl, ?_⟩))
            go_ret
            exact ⟨by first | rfl | (simp [errW_none, errW_some] <;> rfl) | (simp [*, errW_none, errW_some] <;> rfl), by repeat (first | (with_reducible first | exact HB.out | apply below_alloc | apply pw_below_drewN | apply below_drew1 | refine below_set ?_ GE153.out) | exact HB.out)⟩
        · rw [if_neg c31] at H
          have c31b0 : (t155 == 0) = false := beq_eq_false_iff_ne.mpr c31
          have c31b1 : (t155 != 0) = true := bne_iff_ne.mpr c31
          obtain rfl := Option.some.inj H
          go_wp2_with (first | ((with_reducible refine gate_callee (f := 25) rfl ?_); refine goesL_ (some 108) rfl rfl Tryd.func25 (by kernel_rfl) rfl #[.int .i64 2, .int .i64 5, .int .i64 1, .slice none 0 0] rfl (by (try simp only [List.map_toArray, List.map_cons, List.map_nil]); first | done | rfl | (simp only [List.length_drop, List.length_take]; rfl)) ?_; (refine (calendar_Deadline.calls kj6 2 5 1 _ _ ([] : List Int) t154 t155 _ ?side1 ?side2 A25.out).mono ?_); (case side1 => exact Kd.C_nil _ _); (case side2 => exact Nat.le_refl _); rintro e w' ⟨rfl, ⟨nd, rfl⟩⟩; refine ⟨_, rfl, ?_⟩) | ((with_reducible refine gate_dst (N := 112) rfl ?_); refine Kd.R_lit (Kd.int .i64) _ 3 ?hg (N := 112) ?hd (xs := ([9] : List Int)) (inner := [.int .i64 9]) (ok := fun _ => True) (okp := fun _ => True) ?hr ?hp (fun _ hk => hk) trivial (Below.refl _ _) (Nat.le_refl _) (by simp) ?_; (case hd => rfl); (case hg => rfl); (case hr => first | (go_simp; done) | (go_simp; rfl)); (case hp => exact (Reps.one (show Kd.M (Kd.int .i64) _ _ _ 9 [.int .i64 9] from rfl) (Reps.none _ _))); intro v157 w63 ho64 hb hg_ hnew_; clear hg_ hnew_; (first | rw [← Ny156.out] at ho64 | (simp only [Int.reduceToNat] at ho64; rw [← Ny156.out] at ho64)); have n0_ := Aside0.mk (Kd.R_lower ho64 (below_size (by repeat (first | (with_reducible first | exact HB.out | apply below_alloc | apply pw_below_drewN | apply below_drew1 | refine below_set ?_ GE153.out) | exact HB.out)))); have n1_ := Aside0.mk (blk_below (g := gb153) (o := .cells #[.int .i64 t150, .int .i64 t151] 32 (0, 0)) (by (with_reducible repeat (first | refine blk_drewN ?_ _ | refine blk_drew ?_ | refine blk_alloc ?_ _)); exact BK153.out) hb); have n2_ := Aside0.mk (below_step (by repeat (first | (with_reducible first | exact HB.out | apply below_alloc | apply pw_below_drewN | apply below_drew1 | refine below_set ?_ GE153.out) | exact HB.out)) hb); clear BK153; clear HB; have HO158 := n0_; have BK153 := n1_; have HB := n2_; clear n0_ n1_ n2_; clear hb ho64; obtain ⟨Ao65, co65, eo65⟩ := Kd.R_slice HO158.out; subst eo65) | ((with_reducible refine gate_callee (f := 25) rfl ?_); refine goesL_ (some 113) rfl rfl Tryd.func25 (by kernel_rfl) rfl #[.int .i64 2, .int .i64 5, .int .i64 1, .slice Ao65 y156.length co65] rfl (by (try simp only [List.map_toArray, List.map_cons, List.map_nil]); first | done | rfl | (simp only [List.length_drop, List.length_take]; rfl)) ?_; (with_reducible refine (calendar_Deadline.calls kj6 2 5 1 _ _ y156 t159 t160 _ ?side1 ?side2 A26.out).mono ?_); (case side1 => repeat (first | exact (Kd.R_reads' HO158.out).2.2 | (with_reducible refine Kd.C_alloc ?_ _) | (with_reducible refine Kd.C_drewN ?_ _) | (with_reducible refine Kd.C_drew ?_))); (case side2 => exact (Kd.R_reads' HO158.out).2.1); rintro e w' ⟨rfl, ⟨nd, rfl⟩⟩; refine ⟨_, rfl, ?_⟩) | ((with_reducible refine gate_callee (f := 25) rfl ?_); refine goesL_ (some 117) rfl rfl Tryd.func25 (by kernel_rfl) rfl #[.int .i64 2, .int .i64 4, .int .i64 2, .slice none 0 0] rfl (by (try simp only [List.map_toArray, List.map_cons, List.map_nil]); first | done | rfl | (simp only [List.length_drop, List.length_take]; rfl)) ?_; (refine (calendar_Deadline.calls kj6 2 4 2 _ _ ([] : List Int) t161 t162 _ ?side1 ?side2 A27.out).mono ?_); (case side1 => exact Kd.C_nil _ _); (case side2 => exact Nat.le_refl _); rintro e w' ⟨rfl, ⟨nd, rfl⟩⟩; refine ⟨_, rfl, ?_⟩) | ((with_reducible refine gate_callee (f := 15) rfl ?_); refine goesL_ (some 121) rfl rfl Tryd.func15 (by kernel_rfl) rfl #[.int .i64 2001, .int .i64 2, .int .i64 29] rfl (by (try simp only [List.map_toArray, List.map_cons, List.map_nil]); first | done | rfl | (simp only [List.length_drop, List.length_take]; rfl)) ?_; (with_reducible refine (calendar_Day.calls kj6 2001 2 29 t163 t164 _ ?side1 A28.out).mono ?_); (case side1 => exact TabOK.below HTA.out (by repeat (first | (with_reducible first | exact HB.out | apply below_alloc | apply pw_below_drewN | apply below_drew1 | refine below_set ?_ GE153.out) | exact HB.out))); rintro e w' ⟨rfl, ⟨nd, rfl⟩⟩; refine ⟨_, rfl, ?_⟩) | ((with_reducible refine gate_callee (f := 23) rfl ?_); refine goesL_ (some 125) rfl rfl Tryd.func23 (by kernel_rfl) rfl #[.int .i64 2, .slice none 0 0] rfl (by (try simp only [List.map_toArray, List.map_cons, List.map_nil]); first | done | rfl | (simp only [List.length_drop, List.length_take]; rfl)) ?_; (refine (calendar_Working.calls kj6 2 _ _ ([] : List Int) t165 t166 _ ?side1 ?side2 A29.out).mono ?_); (case side1 => exact Kd.C_nil _ _); (case side2 => exact Nat.le_refl _); rintro e w' ⟨rfl, ⟨nd, rfl⟩⟩; refine ⟨_, rfl, ?_⟩))
          go_ret
          exact ⟨by first | rfl | (simp [errW_none, errW_some] <;> rfl) | (simp [*, errW_none, errW_some] <;> rfl), by repeat (first | (with_reducible first | exact HB.out | apply below_alloc | apply pw_below_drewN | apply below_drew1 | refine below_set ?_ GE153.out) | exact HB.out)⟩
      · replace c30 := Bool.eq_false_iff.mpr c30
        subst c30
        have H1 : (some false) = some r := by rw [if_neg (show ¬ (false = true) by decide)] at H; exact H
        clear H
        have H := H1
        clear H1
        obtain rfl := Option.some.inj H
        go_wp2_with (first | ((with_reducible refine gate_callee (f := 25) rfl ?_); refine goesL_ (some 108) rfl rfl Tryd.func25 (by kernel_rfl) rfl #[.int .i64 2, .int .i64 5, .int .i64 1, .slice none 0 0] rfl (by (try simp only [List.map_toArray, List.map_cons, List.map_nil]); first | done | rfl | (simp only [List.length_drop, List.length_take]; rfl)) ?_; (refine (calendar_Deadline.calls kj6 2 5 1 _ _ ([] : List Int) t154 t155 _ ?side1 ?side2 A25.out).mono ?_); (case side1 => exact Kd.C_nil _ _); (case side2 => exact Nat.le_refl _); rintro e w' ⟨rfl, ⟨nd, rfl⟩⟩; refine ⟨_, rfl, ?_⟩) | ((with_reducible refine gate_dst (N := 112) rfl ?_); refine Kd.R_lit (Kd.int .i64) _ 3 ?hg (N := 112) ?hd (xs := ([9] : List Int)) (inner := [.int .i64 9]) (ok := fun _ => True) (okp := fun _ => True) ?hr ?hp (fun _ hk => hk) trivial (Below.refl _ _) (Nat.le_refl _) (by simp) ?_; (case hd => rfl); (case hg => rfl); (case hr => first | (go_simp; done) | (go_simp; rfl)); (case hp => exact (Reps.one (show Kd.M (Kd.int .i64) _ _ _ 9 [.int .i64 9] from rfl) (Reps.none _ _))); intro v157 w66 ho67 hb hg_ hnew_; clear hg_ hnew_; (first | rw [← Ny156.out] at ho67 | (simp only [Int.reduceToNat] at ho67; rw [← Ny156.out] at ho67)); have n0_ := Aside0.mk (Kd.R_lower ho67 (below_size (by repeat (first | (with_reducible first | exact HB.out | apply below_alloc | apply pw_below_drewN | apply below_drew1 | refine below_set ?_ GE153.out) | exact HB.out)))); have n1_ := Aside0.mk (blk_below (g := gb153) (o := .cells #[.int .i64 t150, .int .i64 t151] 32 (0, 0)) (by (with_reducible repeat (first | refine blk_drewN ?_ _ | refine blk_drew ?_ | refine blk_alloc ?_ _)); exact BK153.out) hb); have n2_ := Aside0.mk (below_step (by repeat (first | (with_reducible first | exact HB.out | apply below_alloc | apply pw_below_drewN | apply below_drew1 | refine below_set ?_ GE153.out) | exact HB.out)) hb); clear BK153; clear HB; have HO158 := n0_; have BK153 := n1_; have HB := n2_; clear n0_ n1_ n2_; clear hb ho67; obtain ⟨Ao68, co68, eo68⟩ := Kd.R_slice HO158.out; subst eo68) | ((with_reducible refine gate_callee (f := 25) rfl ?_); refine goesL_ (some 113) rfl rfl Tryd.func25 (by kernel_rfl) rfl #[.int .i64 2, .int .i64 5, .int .i64 1, .slice Ao68 y156.length co68] rfl (by (try simp only [List.map_toArray, List.map_cons, List.map_nil]); first | done | rfl | (simp only [List.length_drop, List.length_take]; rfl)) ?_; (with_reducible refine (calendar_Deadline.calls kj6 2 5 1 _ _ y156 t159 t160 _ ?side1 ?side2 A26.out).mono ?_); (case side1 => repeat (first | exact (Kd.R_reads' HO158.out).2.2 | (with_reducible refine Kd.C_alloc ?_ _) | (with_reducible refine Kd.C_drewN ?_ _) | (with_reducible refine Kd.C_drew ?_))); (case side2 => exact (Kd.R_reads' HO158.out).2.1); rintro e w' ⟨rfl, ⟨nd, rfl⟩⟩; refine ⟨_, rfl, ?_⟩) | ((with_reducible refine gate_callee (f := 25) rfl ?_); refine goesL_ (some 117) rfl rfl Tryd.func25 (by kernel_rfl) rfl #[.int .i64 2, .int .i64 4, .int .i64 2, .slice none 0 0] rfl (by (try simp only [List.map_toArray, List.map_cons, List.map_nil]); first | done | rfl | (simp only [List.length_drop, List.length_take]; rfl)) ?_; (refine (calendar_Deadline.calls kj6 2 4 2 _ _ ([] : List Int) t161 t162 _ ?side1 ?side2 A27.out).mono ?_); (case side1 => exact Kd.C_nil _ _); (case side2 => exact Nat.le_refl _); rintro e w' ⟨rfl, ⟨nd, rfl⟩⟩; refine ⟨_, rfl, ?_⟩) | ((with_reducible refine gate_callee (f := 15) rfl ?_); refine goesL_ (some 121) rfl rfl Tryd.func15 (by kernel_rfl) rfl #[.int .i64 2001, .int .i64 2, .int .i64 29] rfl (by (try simp only [List.map_toArray, List.map_cons, List.map_nil]); first | done | rfl | (simp only [List.length_drop, List.length_take]; rfl)) ?_; (with_reducible refine (calendar_Day.calls kj6 2001 2 29 t163 t164 _ ?side1 A28.out).mono ?_); (case side1 => exact TabOK.below HTA.out (by repeat (first | (with_reducible first | exact HB.out | apply below_alloc | apply pw_below_drewN | apply below_drew1 | refine below_set ?_ GE153.out) | exact HB.out))); rintro e w' ⟨rfl, ⟨nd, rfl⟩⟩; refine ⟨_, rfl, ?_⟩) | ((with_reducible refine gate_callee (f := 23) rfl ?_); refine goesL_ (some 125) rfl rfl Tryd.func23 (by kernel_rfl) rfl #[.int .i64 2, .slice none 0 0] rfl (by (try simp only [List.map_toArray, List.map_cons, List.map_nil]); first | done | rfl | (simp only [List.length_drop, List.length_take]; rfl)) ?_; (refine (calendar_Working.calls kj6 2 _ _ ([] : List Int) t165 t166 _ ?side1 ?side2 A29.out).mono ?_); (case side1 => exact Kd.C_nil _ _); (case side2 => exact Nat.le_refl _); rintro e w' ⟨rfl, ⟨nd, rfl⟩⟩; refine ⟨_, rfl, ?_⟩))
        go_ret
        exact ⟨by first | rfl | (simp [errW_none, errW_some] <;> rfl) | (simp [*, errW_none, errW_some] <;> rfl), by repeat (first | (with_reducible first | exact HB.out | apply below_alloc | apply pw_below_drewN | apply below_drew1 | refine below_set ?_ GE153.out) | exact HB.out)⟩

/-! ### cohousinglaw03_few: function 12 -/
def cohousinglaw03_few.f (l0 : List Int) : Option (Bool) := some (decide ((l0.length : Int) ≤ 150))
set_option maxHeartbeats 8000000 in
set_option maxRecDepth 100000 in
theorem cohousinglaw03_few.calls (A0 : Option Addr) (c0 : Nat) (l0 : List Int) (r : Bool) (w : World) (hr0 : Kd.C (Kd.int .i64) w A0 l0.length l0) (hc0 : l0.length ≤ c0) (h : cohousinglaw03_few.f l0 = some r) :
    Calls Tryd.prog 12 #[.slice A0 l0.length c0] w fun e w' => e = .returned (.bool r) ∧ Drawn0 w w' := by
  have HR0 := Aside0.mk hr0
  have HC0 := Aside0.mk hc0
  clear hr0 hc0
  have H : (some (decide ((l0.length : Int) ≤ 150))) = some r := h
  clear h
  obtain rfl := Option.some.inj H
  go_enter Tryd.func12, Tryd.ntmps12
  go_wp2
  go_ret
  exact ⟨by first | rfl | (simp; done) | (simp [*]; done), by repeat (first | exact Drawn0.refl _ | apply Drawn0.step)⟩

/-! ### cohousingref03_In: function 30 -/
def cohousingref03_In.f (a0 : Int) : Option (Bool) := if a0 ≥ 0 then (some (decide (a0 ≤ 36524))) else (some false)
set_option maxHeartbeats 8000000 in
set_option maxRecDepth 100000 in
theorem cohousingref03_In.calls (a0 : Int) (r : Bool) (w : World) (h : cohousingref03_In.f a0 = some r) :
    Calls Tryd.prog 30 #[.int .i64 a0] w fun e w' => e = .returned (.bool r) ∧ Drawn0 w w' := by
  have H : (if a0 ≥ 0 then (some (decide (a0 ≤ 36524))) else (some false)) = some r := h
  clear h
  by_cases c2 : a0 ≥ 0
  · rw [if_pos c2] at H
    have c2b0 : decide (0 ≤ a0) = true := decide_eq_true c2
    clear c2
    obtain rfl := Option.some.inj H
    go_enter Tryd.func30, Tryd.ntmps30
    go_wp2
    go_ret
    exact ⟨by first | rfl | (simp; done) | (simp [*]; done), by repeat (first | exact Drawn0.refl _ | apply Drawn0.step)⟩
  · rw [if_neg c2] at H
    have c2b0 : decide (0 ≤ a0) = false := decide_eq_false c2
    clear c2
    obtain rfl := Option.some.inj H
    go_enter Tryd.func30, Tryd.ntmps30
    go_wp2
    go_ret
    exact ⟨by first | rfl | (simp; done) | (simp [*]; done), by repeat (first | exact Drawn0.refl _ | apply Drawn0.step)⟩

/-! ### cohousingref03_leap: function 31 -/
def cohousingref03_leap.f (a0 : Int) : Option (Int) := if (Int.tmod a0 4) = 0 then (some 366) else (some 365)
set_option maxHeartbeats 8000000 in
set_option maxRecDepth 100000 in
theorem cohousingref03_leap.calls (a0 : Int) (r : Int) (w : World) (h : cohousingref03_leap.f a0 = some r) :
    Calls Tryd.prog 31 #[.int .i64 a0] w fun e w' => e = .returned (.int .i64 r) ∧ Drawn0 w w' := by
  have H : (if (Int.tmod a0 4) = 0 then (some 366) else (some 365)) = some r := h
  clear h
  by_cases c2 : (Int.tmod a0 4) = 0
  · rw [if_pos c2] at H
    have c2b0 : ((Int.tmod a0 4) == 0) = true := beq_iff_eq.mpr c2
    have c2b1 : ((Int.tmod a0 4) != 0) = false := bne_eq_false_iff_eq.mpr c2
    clear c2
    obtain rfl := Option.some.inj H
    go_enter Tryd.func31, Tryd.ntmps31
    go_wp2
    go_ret
    exact ⟨by first | rfl | (simp; done) | (simp [*]; done), by repeat (first | exact Drawn0.refl _ | apply Drawn0.step)⟩
  · rw [if_neg c2] at H
    have c2b0 : ((Int.tmod a0 4) == 0) = false := beq_eq_false_iff_ne.mpr c2
    have c2b1 : ((Int.tmod a0 4) != 0) = true := bne_iff_ne.mpr c2
    obtain rfl := Option.some.inj H
    go_enter Tryd.func31, Tryd.ntmps31
    go_wp2
    go_ret
    exact ⟨by first | rfl | (simp; done) | (simp [*]; done), by repeat (first | exact Drawn0.refl _ | apply Drawn0.step)⟩

end Go.Proofs.YtjkpojedegmciaaDoor.Px
