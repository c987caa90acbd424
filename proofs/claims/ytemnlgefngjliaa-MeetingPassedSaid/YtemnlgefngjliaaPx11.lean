/- Contracts of Go functions, written by a program of this session's own (wip/tools/myprint.py) out of the translation: each Go function does what the Lean function of its name says. Conditions: as each theorem states. -/
import Derived.Test.YtemnlgefngjliaaPx0
import Derived.Test.YtemnlgefngjliaaPx4
import Derived.Test.YtemnlgefngjliaaPx8
namespace Go.Proofs.Ytemnlgefngjliaa.Px
open Go.Proofs.Ytemnlgefngjliaa.Given
open Go.RowKit Go.Proofs.YtemnlgefngjliaaW.PrintWords Go.Proofs.YtemnlgefngjliaaW.PrintLast Go.Proofs.YtemnlgefngjliaaW.PrintMore
attribute [local go_sem] max2_int min2_int max_two min_two max_three min_three max_four min_four   -- for this text's walks alone
set_option linter.unusedVariables false
set_option linter.unusedSimpArgs false
/-! ### meeting_hall_validVoters: function 55 -/
mutual
def meeting_hall_validVoters.l0 : Nat → List (S43) → Int → Int → Int → Int → Int → Int → Bool → Int → Int → Int → List ByteArray → List (S43) → List Int → ByteArray → List Int → Option (Bool)
 | 0, _, _, _, _, _, _, _, _, _, _, _, _, _, _, _, _ => none
 | k + 1, x11, x12, x13, x211000, x211001, x211002, x211003, x211004, x211005, x211006, x211007, x211008, x211009, x211010, x211011, x211012 => if x13 < x12 then (if 0 ≤ x13 then (if x13 < (x11.length : Int) then ((meeting_within.f ((rd_T43 x11 x13).f0) 1 64).bind fun t213 => (if t213 = true then (if x13 > 0 then (if 0 ≤ (wrap64 (x13 - 1)) then (if (wrap64 (x13 - 1)) < (x211009.length : Int) then (if ((rd_T43 x11 x13).f0) ≤ ((rd_T43 x211009 (wrap64 (x13 - 1))).f0) then (meeting_hall_validVoters.j1 k x11 x12 x13 true x211000 x211001 x211002 x211003 x211004 x211005 x211006 x211007 x211008 x211009 x211010 x211011 x211012) else ((meeting_within.f ((rd_T43 x11 x13).f1) 0 1000).bind fun t215 => (meeting_hall_validVoters.j1 k x11 x12 x13 (!t215) x211000 x211001 x211002 x211003 x211004 x211005 x211006 x211007 x211008 x211009 x211010 x211011 x211012))) else (none)) else (none)) else ((meeting_within.f ((rd_T43 x11 x13).f1) 0 1000).bind fun t216 => (meeting_hall_validVoters.j1 k x11 x12 x13 (!t216) x211000 x211001 x211002 x211003 x211004 x211005 x211006 x211007 x211008 x211009 x211010 x211011 x211012))) else (meeting_hall_validVoters.j1 k x11 x12 x13 true x211000 x211001 x211002 x211003 x211004 x211005 x211006 x211007 x211008 x211009 x211010 x211011 x211012))) else (none)) else (none)) else (meeting_hall_validVoters.l1 k x211009 (x211009.length : Int) 0 x211000 x211001 x211002 x211003 x211004 x211005 x211006 x211007 x211008 x211009 x211010 x211011 x211012)
def meeting_hall_validVoters.j1 : Nat → List (S43) → Int → Int → Bool → Int → Int → Int → Int → Bool → Int → Int → Int → List ByteArray → List (S43) → List Int → ByteArray → List Int → Option (Bool)
 | 0, _, _, _, _, _, _, _, _, _, _, _, _, _, _, _, _, _ => none
 | k + 1, x11, x12, x13, x44, x211000, x211001, x211002, x211003, x211004, x211005, x211006, x211007, x211008, x211009, x211010, x211011, x211012 => if x44 = true then (some false) else (meeting_hall_validVoters.l0 k x11 x12 (wrap64 (x13 + 1)) x211000 x211001 x211002 x211003 x211004 x211005 x211006 x211007 x211008 x211009 x211010 x211011 x211012)
def meeting_hall_validVoters.l1 : Nat → List (S43) → Int → Int → Int → Int → Int → Int → Bool → Int → Int → Int → List ByteArray → List (S43) → List Int → ByteArray → List Int → Option (Bool)
 | 0, _, _, _, _, _, _, _, _, _, _, _, _, _, _, _, _ => none
 | k + 1, x48, x49, x50, x211000, x211001, x211002, x211003, x211004, x211005, x211006, x211007, x211008, x211009, x211010, x211011, x211012 => if x50 < x49 then (if 0 ≤ x50 then (if x50 < (x48.length : Int) then ((meeting_hall_find.f k x211000 x211001 x211002 x211003 x211004 x211005 x211006 x211007 x211008 x211009 x211010 x211011 x211012 ((rd_T43 x48 x50).f2)).bind fun bt219 => (if ((rd_T43 x48 x50).f2) = 0 then (meeting_hall_validVoters.j3 k x48 x49 x50 false x211000 x211001 x211002 x211003 x211004 x211005 x211006 x211007 x211008 x211009 x211010 x211011 x211012) else (if bt219.2 = true then (meeting_hall_validVoters.j3 k x48 x49 x50 (((rd_T43 x48 x50).f2) == ((rd_T43 x48 x50).f0)) x211000 x211001 x211002 x211003 x211004 x211005 x211006 x211007 x211008 x211009 x211010 x211011 x211012) else (meeting_hall_validVoters.j3 k x48 x49 x50 true x211000 x211001 x211002 x211003 x211004 x211005 x211006 x211007 x211008 x211009 x211010 x211011 x211012)))) else (none)) else (none)) else (some (decide ((x211009.length : Int) ≤ 64)))
def meeting_hall_validVoters.j3 : Nat → List (S43) → Int → Int → Bool → Int → Int → Int → Int → Bool → Int → Int → Int → List ByteArray → List (S43) → List Int → ByteArray → List Int → Option (Bool)
 | 0, _, _, _, _, _, _, _, _, _, _, _, _, _, _, _, _, _ => none
 | k + 1, x48, x49, x50, x74, x211000, x211001, x211002, x211003, x211004, x211005, x211006, x211007, x211008, x211009, x211010, x211011, x211012 => if x74 = true then (some false) else (meeting_hall_validVoters.l1 k x48 x49 (wrap64 (x50 + 1)) x211000 x211001 x211002 x211003 x211004 x211005 x211006 x211007 x211008 x211009 x211010 x211011 x211012)
end
def meeting_hall_validVoters.f (k : Nat) (a0_0 : Int) (a0_1 : Int) (a0_2 : Int) (a0_3 : Int) (a0_4 : Bool) (a0_5 : Int) (a0_6 : Int) (a0_7 : Int) (l0_8 : List ByteArray) (l0_9 : List (S43)) (l0_10 : List Int) (a0_11 : ByteArray) (l0_12 : List Int) : Option (Bool) := meeting_hall_validVoters.l0 k l0_9 (l0_9.length : Int) 0 a0_0 a0_1 a0_2 a0_3 a0_4 a0_5 a0_6 a0_7 l0_8 l0_9 l0_10 a0_11 l0_12
theorem meeting_hall_validVoters.mono_l : ∀ k, (∀ y0 y1 y2 y3 y4 y5 y6 y7 y8 y9 y10 y11 y12 y13 y14 y15, LeO (meeting_hall_validVoters.l0 k y0 y1 y2 y3 y4 y5 y6 y7 y8 y9 y10 y11 y12 y13 y14 y15) (meeting_hall_validVoters.l0 (k + 1) y0 y1 y2 y3 y4 y5 y6 y7 y8 y9 y10 y11 y12 y13 y14 y15)) ∧ (∀ y0 y1 y2 y3 y4 y5 y6 y7 y8 y9 y10 y11 y12 y13 y14 y15 y16, LeO (meeting_hall_validVoters.j1 k y0 y1 y2 y3 y4 y5 y6 y7 y8 y9 y10 y11 y12 y13 y14 y15 y16) (meeting_hall_validVoters.j1 (k + 1) y0 y1 y2 y3 y4 y5 y6 y7 y8 y9 y10 y11 y12 y13 y14 y15 y16)) ∧ (∀ y0 y1 y2 y3 y4 y5 y6 y7 y8 y9 y10 y11 y12 y13 y14 y15, LeO (meeting_hall_validVoters.l1 k y0 y1 y2 y3 y4 y5 y6 y7 y8 y9 y10 y11 y12 y13 y14 y15) (meeting_hall_validVoters.l1 (k + 1) y0 y1 y2 y3 y4 y5 y6 y7 y8 y9 y10 y11 y12 y13 y14 y15)) ∧ (∀ y0 y1 y2 y3 y4 y5 y6 y7 y8 y9 y10 y11 y12 y13 y14 y15 y16, LeO (meeting_hall_validVoters.j3 k y0 y1 y2 y3 y4 y5 y6 y7 y8 y9 y10 y11 y12 y13 y14 y15 y16) (meeting_hall_validVoters.j3 (k + 1) y0 y1 y2 y3 y4 y5 y6 y7 y8 y9 y10 y11 y12 y13 y14 y15 y16))
 | 0 => ⟨fun _ _ _ _ _ _ _ _ _ _ _ _ _ _ _ _ r h => by simp [meeting_hall_validVoters.l0] at h, fun _ _ _ _ _ _ _ _ _ _ _ _ _ _ _ _ _ r h => by simp [meeting_hall_validVoters.j1] at h, fun _ _ _ _ _ _ _ _ _ _ _ _ _ _ _ _ r h => by simp [meeting_hall_validVoters.l1] at h, fun _ _ _ _ _ _ _ _ _ _ _ _ _ _ _ _ _ r h => by simp [meeting_hall_validVoters.j3] at h⟩
 | k + 1 => by
  obtain ⟨ih0, ih1, ih2, ih3⟩ := meeting_hall_validVoters.mono_l k
  refine ⟨?_, ?_, ?_, ?_⟩
  ·intro y0 y1 y2 y3 y4 y5 y6 y7 y8 y9 y10 y11 y12 y13 y14 y15
   unfold meeting_hall_validVoters.l0
   repeat' first
   | (with_reducible exact ih0 _ _ _ _ _ _ _ _ _ _ _ _ _ _ _ _)
   | (with_reducible exact ih1 _ _ _ _ _ _ _ _ _ _ _ _ _ _ _ _ _)
   | (with_reducible exact ih2 _ _ _ _ _ _ _ _ _ _ _ _ _ _ _ _)
   | (with_reducible exact ih3 _ _ _ _ _ _ _ _ _ _ _ _ _ _ _ _ _)
   | (with_reducible exact meeting_hall_find.mono _ _ _ _ _ _ _ _ _ _ _ _ _ _ _)
   | (with_reducible exact LeO.refl _)
   | (with_reducible exact LeO.none _)
   | (with_reducible refine LeO.ite ?_ ?_)
   | (with_reducible refine LeO.bind ?_ (fun _ => ?_))
   | exact ih0 _ _ _ _ _ _ _ _ _ _ _ _ _ _ _ _
   | exact ih1 _ _ _ _ _ _ _ _ _ _ _ _ _ _ _ _ _
   | exact ih2 _ _ _ _ _ _ _ _ _ _ _ _ _ _ _ _
   | exact ih3 _ _ _ _ _ _ _ _ _ _ _ _ _ _ _ _ _
   | exact meeting_hall_find.mono _ _ _ _ _ _ _ _ _ _ _ _ _ _ _
   | exact LeO.none _
   | refine LeO.ite ?_ ?_
   | refine LeO.bind ?_ (fun _ => ?_)
  ·intro y0 y1 y2 y3 y4 y5 y6 y7 y8 y9 y10 y11 y12 y13 y14 y15 y16
   unfold meeting_hall_validVoters.j1
   repeat' first
   | (with_reducible exact ih0 _ _ _ _ _ _ _ _ _ _ _ _ _ _ _ _)
   | (with_reducible exact ih1 _ _ _ _ _ _ _ _ _ _ _ _ _ _ _ _ _)
   | (with_reducible exact ih2 _ _ _ _ _ _ _ _ _ _ _ _ _ _ _ _)
   | (with_reducible exact ih3 _ _ _ _ _ _ _ _ _ _ _ _ _ _ _ _ _)
   | (with_reducible exact meeting_hall_find.mono _ _ _ _ _ _ _ _ _ _ _ _ _ _ _)
   | (with_reducible exact LeO.refl _)
   | (with_reducible exact LeO.none _)
   | (with_reducible refine LeO.ite ?_ ?_)
   | (with_reducible refine LeO.bind ?_ (fun _ => ?_))
   | exact ih0 _ _ _ _ _ _ _ _ _ _ _ _ _ _ _ _
   | exact ih1 _ _ _ _ _ _ _ _ _ _ _ _ _ _ _ _ _
   | exact ih2 _ _ _ _ _ _ _ _ _ _ _ _ _ _ _ _
   | exact ih3 _ _ _ _ _ _ _ _ _ _ _ _ _ _ _ _ _
   | exact meeting_hall_find.mono _ _ _ _ _ _ _ _ _ _ _ _ _ _ _
   | exact LeO.none _
   | refine LeO.ite ?_ ?_
   | refine LeO.bind ?_ (fun _ => ?_)
  ·intro y0 y1 y2 y3 y4 y5 y6 y7 y8 y9 y10 y11 y12 y13 y14 y15
   unfold meeting_hall_validVoters.l1
   repeat' first
   | (with_reducible exact ih0 _ _ _ _ _ _ _ _ _ _ _ _ _ _ _ _)
   | (with_reducible exact ih1 _ _ _ _ _ _ _ _ _ _ _ _ _ _ _ _ _)
   | (with_reducible exact ih2 _ _ _ _ _ _ _ _ _ _ _ _ _ _ _ _)
   | (with_reducible exact ih3 _ _ _ _ _ _ _ _ _ _ _ _ _ _ _ _ _)
   | (with_reducible exact meeting_hall_find.mono _ _ _ _ _ _ _ _ _ _ _ _ _ _ _)
   | (with_reducible exact LeO.refl _)
   | (with_reducible exact LeO.none _)
   | (with_reducible refine LeO.ite ?_ ?_)
   | (with_reducible refine LeO.bind ?_ (fun _ => ?_))
   | exact ih0 _ _ _ _ _ _ _ _ _ _ _ _ _ _ _ _
   | exact ih1 _ _ _ _ _ _ _ _ _ _ _ _ _ _ _ _ _
   | exact ih2 _ _ _ _ _ _ _ _ _ _ _ _ _ _ _ _
   | exact ih3 _ _ _ _ _ _ _ _ _ _ _ _ _ _ _ _ _
   | exact meeting_hall_find.mono _ _ _ _ _ _ _ _ _ _ _ _ _ _ _
   | exact LeO.none _
   | refine LeO.ite ?_ ?_
   | refine LeO.bind ?_ (fun _ => ?_)
  ·intro y0 y1 y2 y3 y4 y5 y6 y7 y8 y9 y10 y11 y12 y13 y14 y15 y16
   unfold meeting_hall_validVoters.j3
   repeat' first
   | (with_reducible exact ih0 _ _ _ _ _ _ _ _ _ _ _ _ _ _ _ _)
   | (with_reducible exact ih1 _ _ _ _ _ _ _ _ _ _ _ _ _ _ _ _ _)
   | (with_reducible exact ih2 _ _ _ _ _ _ _ _ _ _ _ _ _ _ _ _)
   | (with_reducible exact ih3 _ _ _ _ _ _ _ _ _ _ _ _ _ _ _ _ _)
   | (with_reducible exact meeting_hall_find.mono _ _ _ _ _ _ _ _ _ _ _ _ _ _ _)
   | (with_reducible exact LeO.refl _)
   | (with_reducible exact LeO.none _)
   | (with_reducible refine LeO.ite ?_ ?_)
   | (with_reducible refine LeO.bind ?_ (fun _ => ?_))
   | exact ih0 _ _ _ _ _ _ _ _ _ _ _ _ _ _ _ _
   | exact ih1 _ _ _ _ _ _ _ _ _ _ _ _ _ _ _ _ _
   | exact ih2 _ _ _ _ _ _ _ _ _ _ _ _ _ _ _ _
   | exact ih3 _ _ _ _ _ _ _ _ _ _ _ _ _ _ _ _ _
   | exact meeting_hall_find.mono _ _ _ _ _ _ _ _ _ _ _ _ _ _ _
   | exact LeO.none _
   | refine LeO.ite ?_ ?_
   | refine LeO.bind ?_ (fun _ => ?_)
theorem meeting_hall_validVoters.mono : ∀ a0 a1 a2 a3 a4 a5 a6 a7 a8 a9 a10 a11 a12 k, LeO (meeting_hall_validVoters.f k a0 a1 a2 a3 a4 a5 a6 a7 a8 a9 a10 a11 a12) (meeting_hall_validVoters.f (k + 1) a0 a1 a2 a3 a4 a5 a6 a7 a8 a9 a10 a11 a12) := by
 intro a0 a1 a2 a3 a4 a5 a6 a7 a8 a9 a10 a11 a12 k
 obtain ⟨ih0, ih1, ih2, ih3⟩ := meeting_hall_validVoters.mono_l k
 unfold meeting_hall_validVoters.f
 repeat' first
   | (with_reducible exact ih0 _ _ _ _ _ _ _ _ _ _ _ _ _ _ _ _)
   | (with_reducible exact ih1 _ _ _ _ _ _ _ _ _ _ _ _ _ _ _ _ _)
   | (with_reducible exact ih2 _ _ _ _ _ _ _ _ _ _ _ _ _ _ _ _)
   | (with_reducible exact ih3 _ _ _ _ _ _ _ _ _ _ _ _ _ _ _ _ _)
   | (with_reducible exact meeting_hall_find.mono _ _ _ _ _ _ _ _ _ _ _ _ _ _ _)
   | (with_reducible exact LeO.refl _)
   | (with_reducible exact LeO.none _)
   | (with_reducible refine LeO.ite ?_ ?_)
   | (with_reducible refine LeO.bind ?_ (fun _ => ?_))
   | exact ih0 _ _ _ _ _ _ _ _ _ _ _ _ _ _ _ _
   | exact ih1 _ _ _ _ _ _ _ _ _ _ _ _ _ _ _ _ _
   | exact ih2 _ _ _ _ _ _ _ _ _ _ _ _ _ _ _ _
   | exact ih3 _ _ _ _ _ _ _ _ _ _ _ _ _ _ _ _ _
   | exact meeting_hall_find.mono _ _ _ _ _ _ _ _ _ _ _ _ _ _ _
   | exact LeO.none _
   | refine LeO.ite ?_ ?_
   | refine LeO.bind ?_ (fun _ => ?_)
set_option maxHeartbeats 8000000 in
set_option maxRecDepth 100000 in
theorem meeting_hall_validVoters.calls (k : Nat) (a0_0 : Int) (a0_1 : Int) (a0_2 : Int) (a0_3 : Int) (a0_4 : Bool) (a0_5 : Int) (a0_6 : Int) (a0_7 : Int) (A0_8 : Option Addr) (c0_8 : Nat) (l0_8 : List ByteArray) (A0_9 : Option Addr) (c0_9 : Nat) (l0_9 : List (S43)) (A0_10 : Option Addr) (c0_10 : Nat) (l0_10 : List Int) (a0_11 : ByteArray) (A0_12 : Option Addr) (c0_12 : Nat) (l0_12 : List Int) (r : Bool) (w : World) (hr0_8 : Kd.C Kd.string w A0_8 l0_8.length l0_8) (hc0_8 : l0_8.length ≤ c0_8) (hr0_9 : Kd.C k43 w A0_9 l0_9.length l0_9) (hc0_9 : l0_9.length ≤ c0_9) (hr0_10 : Kd.C (Kd.int .i64) w A0_10 l0_10.length l0_10) (hc0_10 : l0_10.length ≤ c0_10) (hr0_12 : Kd.C (Kd.int .i64) w A0_12 l0_12.length l0_12) (hc0_12 : l0_12.length ≤ c0_12) (h : meeting_hall_validVoters.f k a0_0 a0_1 a0_2 a0_3 a0_4 a0_5 a0_6 a0_7 l0_8 l0_9 l0_10 a0_11 l0_12 = some r) :
  Calls Try.prog 55 #[.agg #[.int .i64 a0_0, .int .i64 a0_1, .int .i64 a0_2, .int .i64 a0_3, .bool a0_4, .int .i64 a0_5, .int .i64 a0_6, .int .i64 a0_7, .slice A0_8 l0_8.length c0_8, .slice A0_9 l0_9.length c0_9, .slice A0_10 l0_10.length c0_10, .string a0_11, .slice A0_12 l0_12.length c0_12]] w fun e w' => e = .returned (.bool r) ∧ Below w.heap.size w w' := by
 have hu62 := Try.underlying62
 have hu43 := Try.underlying43
 have HR0_8 := Aside0.mk hr0_8
 have HC0_8 := Aside0.mk hc0_8
 clear hr0_8 hc0_8
 have HR0_9 := Aside0.mk hr0_9
 have HC0_9 := Aside0.mk hc0_9
 clear hr0_9 hc0_9
 have HR0_10 := Aside0.mk hr0_10
 have HC0_10 := Aside0.mk hc0_10
 clear hr0_10 hc0_10
 have HR0_12 := Aside0.mk hr0_12
 have HC0_12 := Aside0.mk hc0_12
 clear hr0_12 hc0_12
 have HB := Aside0.mk (Below.refl w.heap.size w)
 have H : (meeting_hall_validVoters.l0 k l0_9 (l0_9.length : Int) 0 a0_0 a0_1 a0_2 a0_3 a0_4 a0_5 a0_6 a0_7 l0_8 l0_9 l0_10 a0_11 l0_12) = some r := h
 clear h
 have H' := Aside0.mk H
 clear H
 go_enter Try.func55, Try.ntmps55
 go_wp2_with (first | ((with_reducible refine gate_dst (N := 1) rfl ?_); refine box_event ?hg (N := 1) ?hd (cs := #[.int .i64 a0_0, .int .i64 a0_1, .int .i64 a0_2, .int .i64 a0_3, .bool a0_4, .int .i64 a0_5, .int .i64 a0_6, .int .i64 a0_7, .slice A0_8 l0_8.length c0_8, .slice A0_9 l0_9.length c0_9, .slice A0_10 l0_10.length c0_10, .string a0_11, .slice A0_12 l0_12.length c0_12]) (t := 62) ?hr ?_; (case hd => rfl); (case hg => rfl); (case hr => first | (go_simp; done) | (go_simp; rfl)); intro gb210 hg w2 hbox hb; have n0_ := Aside0.mk (below_step (by repeat (first | (with_reducible first | exact HB.out | apply below_alloc | apply pw_below_drewN | apply below_drew1) | exact HB.out)) hb); have n1_ := Aside0.mk (hbox); have n2_ := Aside0.mk ((by rw [hg]; exact (below_size (by repeat (first | (with_reducible first | exact HB.out | apply below_alloc | apply pw_below_drewN | apply below_drew1) | exact HB.out))) : w.heap.size ≤ gb210)); have n3_ := Aside0.mk ((by rw [hg]; exact (below_size (by repeat (first | (with_reducible first | exact HB.out | apply below_alloc | apply pw_below_drewN | apply below_drew1) | exact HB.out))) : w.heap.size ≤ gb210)); clear HB; have HB := n0_; have BK210 := n1_; have GW210 := n2_; have GE210 := n3_; clear n0_ n1_ n2_ n3_; clear hb hbox hg; have hcz3_0 : w2.cell? ⟨gb210, 0, none⟩ = some (.int .i64 a0_0) := (blk_cell BK210.out 0).trans rfl; have hcz3_1 : w2.cell? ⟨gb210, 1, none⟩ = some (.int .i64 a0_1) := (blk_cell BK210.out 1).trans rfl; have hcz3_2 : w2.cell? ⟨gb210, 2, none⟩ = some (.int .i64 a0_2) := (blk_cell BK210.out 2).trans rfl; have hcz3_3 : w2.cell? ⟨gb210, 3, none⟩ = some (.int .i64 a0_3) := (blk_cell BK210.out 3).trans rfl; have hcz3_4 : w2.cell? ⟨gb210, 4, none⟩ = some (.bool a0_4) := (blk_cell BK210.out 4).trans rfl; have hcz3_5 : w2.cell? ⟨gb210, 5, none⟩ = some (.int .i64 a0_5) := (blk_cell BK210.out 5).trans rfl; have hcz3_6 : w2.cell? ⟨gb210, 6, none⟩ = some (.int .i64 a0_6) := (blk_cell BK210.out 6).trans rfl; have hcz3_7 : w2.cell? ⟨gb210, 7, none⟩ = some (.int .i64 a0_7) := (blk_cell BK210.out 7).trans rfl; have hcz3_8 : w2.cell? ⟨gb210, 8, none⟩ = some (.slice A0_8 l0_8.length c0_8) := (blk_cell BK210.out 8).trans rfl; have hcz3_9 : w2.cell? ⟨gb210, 9, none⟩ = some (.slice A0_9 l0_9.length c0_9) := (blk_cell BK210.out 9).trans rfl; have hcz3_10 : w2.cell? ⟨gb210, 10, none⟩ = some (.slice A0_10 l0_10.length c0_10) := (blk_cell BK210.out 10).trans rfl; have hcz3_11 : w2.cell? ⟨gb210, 11, none⟩ = some (.string a0_11) := (blk_cell BK210.out 11).trans rfl; have hcz3_12 : w2.cell? ⟨gb210, 12, none⟩ = some (.slice A0_12 l0_12.length c0_12) := (blk_cell BK210.out 12).trans rfl; have hfz3_0 := blk_frozen BK210.out 0; have hfz3_1 := blk_frozen BK210.out 1; have hfz3_2 := blk_frozen BK210.out 2; have hfz3_3 := blk_frozen BK210.out 3; have hfz3_4 := blk_frozen BK210.out 4; have hfz3_5 := blk_frozen BK210.out 5; have hfz3_6 := blk_frozen BK210.out 6; have hfz3_7 := blk_frozen BK210.out 7; have hfz3_8 := blk_frozen BK210.out 8; have hfz3_9 := blk_frozen BK210.out 9; have hfz3_10 := blk_frozen BK210.out 10; have hfz3_11 := blk_frozen BK210.out 11; have hfz3_12 := blk_frozen BK210.out 12))
 repeat (go_quiet (first | ((with_reducible refine gate_dst (N := 1) rfl ?_); refine box_event ?hg (N := 1) ?hd (cs := #[.int .i64 a0_0, .int .i64 a0_1, .int .i64 a0_2, .int .i64 a0_3, .bool a0_4, .int .i64 a0_5, .int .i64 a0_6, .int .i64 a0_7, .slice A0_8 l0_8.length c0_8, .slice A0_9 l0_9.length c0_9, .slice A0_10 l0_10.length c0_10, .string a0_11, .slice A0_12 l0_12.length c0_12]) (t := 62) ?hr ?_; (case hd => rfl); (case hg => rfl); (case hr => first | (go_simp; done) | (go_simp; rfl)); intro gb210 hg w2 hbox hb; have n0_ := Aside0.mk (below_step (by repeat (first | (with_reducible first | exact HB.out | apply below_alloc | apply pw_below_drewN | apply below_drew1) | exact HB.out)) hb); have n1_ := Aside0.mk (hbox); have n2_ := Aside0.mk ((by rw [hg]; exact (below_size (by repeat (first | (with_reducible first | exact HB.out | apply below_alloc | apply pw_below_drewN | apply below_drew1) | exact HB.out))) : w.heap.size ≤ gb210)); have n3_ := Aside0.mk ((by rw [hg]; exact (below_size (by repeat (first | (with_reducible first | exact HB.out | apply below_alloc | apply pw_below_drewN | apply below_drew1) | exact HB.out))) : w.heap.size ≤ gb210)); clear HB; have HB := n0_; have BK210 := n1_; have GW210 := n2_; have GE210 := n3_; clear n0_ n1_ n2_ n3_; clear hb hbox hg; have hcz3_0 : w2.cell? ⟨gb210, 0, none⟩ = some (.int .i64 a0_0) := (blk_cell BK210.out 0).trans rfl; have hcz3_1 : w2.cell? ⟨gb210, 1, none⟩ = some (.int .i64 a0_1) := (blk_cell BK210.out 1).trans rfl; have hcz3_2 : w2.cell? ⟨gb210, 2, none⟩ = some (.int .i64 a0_2) := (blk_cell BK210.out 2).trans rfl; have hcz3_3 : w2.cell? ⟨gb210, 3, none⟩ = some (.int .i64 a0_3) := (blk_cell BK210.out 3).trans rfl; have hcz3_4 : w2.cell? ⟨gb210, 4, none⟩ = some (.bool a0_4) := (blk_cell BK210.out 4).trans rfl; have hcz3_5 : w2.cell? ⟨gb210, 5, none⟩ = some (.int .i64 a0_5) := (blk_cell BK210.out 5).trans rfl; have hcz3_6 : w2.cell? ⟨gb210, 6, none⟩ = some (.int .i64 a0_6) := (blk_cell BK210.out 6).trans rfl; have hcz3_7 : w2.cell? ⟨gb210, 7, none⟩ = some (.int .i64 a0_7) := (blk_cell BK210.out 7).trans rfl; have hcz3_8 : w2.cell? ⟨gb210, 8, none⟩ = some (.slice A0_8 l0_8.length c0_8) := (blk_cell BK210.out 8).trans rfl; have hcz3_9 : w2.cell? ⟨gb210, 9, none⟩ = some (.slice A0_9 l0_9.length c0_9) := (blk_cell BK210.out 9).trans rfl; have hcz3_10 : w2.cell? ⟨gb210, 10, none⟩ = some (.slice A0_10 l0_10.length c0_10) := (blk_cell BK210.out 10).trans rfl; have hcz3_11 : w2.cell? ⟨gb210, 11, none⟩ = some (.string a0_11) := (blk_cell BK210.out 11).trans rfl; have hcz3_12 : w2.cell? ⟨gb210, 12, none⟩ = some (.slice A0_12 l0_12.length c0_12) := (blk_cell BK210.out 12).trans rfl; have hfz3_0 := blk_frozen BK210.out 0; have hfz3_1 := blk_frozen BK210.out 1; have hfz3_2 := blk_frozen BK210.out 2; have hfz3_3 := blk_frozen BK210.out 3; have hfz3_4 := blk_frozen BK210.out 4; have hfz3_5 := blk_frozen BK210.out 5; have hfz3_6 := blk_frozen BK210.out 6; have hfz3_7 := blk_frozen BK210.out 7; have hfz3_8 := blk_frozen BK210.out 8; have hfz3_9 := blk_frozen BK210.out 9; have hfz3_10 := blk_frozen BK210.out 10; have hfz3_11 := blk_frozen BK210.out 11; have hfz3_12 := blk_frozen BK210.out 12)); try go_wp2_with (first | ((with_reducible refine gate_dst (N := 1) rfl ?_); refine box_event ?hg (N := 1) ?hd (cs := #[.int .i64 a0_0, .int .i64 a0_1, .int .i64 a0_2, .int .i64 a0_3, .bool a0_4, .int .i64 a0_5, .int .i64 a0_6, .int .i64 a0_7, .slice A0_8 l0_8.length c0_8, .slice A0_9 l0_9.length c0_9, .slice A0_10 l0_10.length c0_10, .string a0_11, .slice A0_12 l0_12.length c0_12]) (t := 62) ?hr ?_; (case hd => rfl); (case hg => rfl); (case hr => first | (go_simp; done) | (go_simp; rfl)); intro gb210 hg w2 hbox hb; have n0_ := Aside0.mk (below_step (by repeat (first | (with_reducible first | exact HB.out | apply below_alloc | apply pw_below_drewN | apply below_drew1) | exact HB.out)) hb); have n1_ := Aside0.mk (hbox); have n2_ := Aside0.mk ((by rw [hg]; exact (below_size (by repeat (first | (with_reducible first | exact HB.out | apply below_alloc | apply pw_below_drewN | apply below_drew1) | exact HB.out))) : w.heap.size ≤ gb210)); have n3_ := Aside0.mk ((by rw [hg]; exact (below_size (by repeat (first | (with_reducible first | exact HB.out | apply below_alloc | apply pw_below_drewN | apply below_drew1) | exact HB.out))) : w.heap.size ≤ gb210)); clear HB; have HB := n0_; have BK210 := n1_; have GW210 := n2_; have GE210 := n3_; clear n0_ n1_ n2_ n3_; clear hb hbox hg; have hcz3_0 : w2.cell? ⟨gb210, 0, none⟩ = some (.int .i64 a0_0) := (blk_cell BK210.out 0).trans rfl; have hcz3_1 : w2.cell? ⟨gb210, 1, none⟩ = some (.int .i64 a0_1) := (blk_cell BK210.out 1).trans rfl; have hcz3_2 : w2.cell? ⟨gb210, 2, none⟩ = some (.int .i64 a0_2) := (blk_cell BK210.out 2).trans rfl; have hcz3_3 : w2.cell? ⟨gb210, 3, none⟩ = some (.int .i64 a0_3) := (blk_cell BK210.out 3).trans rfl; have hcz3_4 : w2.cell? ⟨gb210, 4, none⟩ = some (.bool a0_4) := (blk_cell BK210.out 4).trans rfl; have hcz3_5 : w2.cell? ⟨gb210, 5, none⟩ = some (.int .i64 a0_5) := (blk_cell BK210.out 5).trans rfl; have hcz3_6 : w2.cell? ⟨gb210, 6, none⟩ = some (.int .i64 a0_6) := (blk_cell BK210.out 6).trans rfl; have hcz3_7 : w2.cell? ⟨gb210, 7, none⟩ = some (.int .i64 a0_7) := (blk_cell BK210.out 7).trans rfl; have hcz3_8 : w2.cell? ⟨gb210, 8, none⟩ = some (.slice A0_8 l0_8.length c0_8) := (blk_cell BK210.out 8).trans rfl; have hcz3_9 : w2.cell? ⟨gb210, 9, none⟩ = some (.slice A0_9 l0_9.length c0_9) := (blk_cell BK210.out 9).trans rfl; have hcz3_10 : w2.cell? ⟨gb210, 10, none⟩ = some (.slice A0_10 l0_10.length c0_10) := (blk_cell BK210.out 10).trans rfl; have hcz3_11 : w2.cell? ⟨gb210, 11, none⟩ = some (.string a0_11) := (blk_cell BK210.out 11).trans rfl; have hcz3_12 : w2.cell? ⟨gb210, 12, none⟩ = some (.slice A0_12 l0_12.length c0_12) := (blk_cell BK210.out 12).trans rfl; have hfz3_0 := blk_frozen BK210.out 0; have hfz3_1 := blk_frozen BK210.out 1; have hfz3_2 := blk_frozen BK210.out 2; have hfz3_3 := blk_frozen BK210.out 3; have hfz3_4 := blk_frozen BK210.out 4; have hfz3_5 := blk_frozen BK210.out 5; have hfz3_6 := blk_frozen BK210.out 6; have hfz3_7 := blk_frozen BK210.out 7; have hfz3_8 := blk_frozen BK210.out 8; have hfz3_9 := blk_frozen BK210.out 9; have hfz3_10 := blk_frozen BK210.out 10; have hfz3_11 := blk_frozen BK210.out 11; have hfz3_12 := blk_frozen BK210.out 12)))
 go_loopg [13] k (fun kq v13 w' => ∃ (x13_1 : Int), v13 = .int .i64 x13_1 ∧ Aside0 (meeting_hall_validVoters.l0 kq l0_9 (l0_9.length : Int) x13_1 a0_0 a0_1 a0_2 a0_3 a0_4 a0_5 a0_6 a0_7 l0_8 l0_9 l0_10 a0_11 l0_12 = some r) ∧ Aside0 (kq ≤ k) ∧ Aside0 (w'.heap[gb210]? = some (.cells #[.int .i64 a0_0, .int .i64 a0_1, .int .i64 a0_2, .int .i64 a0_3, .bool a0_4, .int .i64 a0_5, .int .i64 a0_6, .int .i64 a0_7, (.slice A0_8 l0_8.length c0_8), (.slice A0_9 l0_9.length c0_9), (.slice A0_10 l0_10.length c0_10), .string a0_11, (.slice A0_12 l0_12.length c0_12)] 62 (0, 0))) ∧ Aside0 (Below w.heap.size w w'))
 case atStart => exact ⟨(0), (by first | rfl | (simp; done) | (simp [*]; done)), H', ⟨Nat.le_refl _⟩, ⟨by (with_reducible repeat (first | refine blk_drewN ?_ _ | refine blk_drew ?_ | refine blk_alloc ?_ _)); exact BK210.out⟩, ⟨by repeat (first | (with_reducible first | exact HB.out | apply below_alloc | apply pw_below_drewN | apply below_drew1 | refine below_set ?_ GE210.out) | exact HB.out)⟩⟩
 case round =>
  clear H'
  try clear p2
  try clear hcz3_0
  try clear hcz3_1
  try clear hcz3_10
  try clear hcz3_11
  try clear hcz3_12
  try clear hcz3_2
  try clear hcz3_3
  try clear hcz3_4
  try clear hcz3_5
  try clear hcz3_6
  try clear hcz3_7
  try clear hcz3_8
  try clear hcz3_9
  try clear hfz3_0
  try clear hfz3_1
  try clear hfz3_10
  try clear hfz3_11
  try clear hfz3_12
  try clear hfz3_2
  try clear hfz3_3
  try clear hfz3_4
  try clear hfz3_5
  try clear hfz3_6
  try clear hfz3_7
  try clear hfz3_8
  try clear hfz3_9
  obtain ⟨x13_1, rfl, HA, HK1, BK210, HB⟩ := hrel
  cases gk with
  | zero => exact absurd HA.out (by simp [meeting_hall_validVoters.l0])
  | succ k1 =>
   have H := HA.out
   clear HA
   simp only [meeting_hall_validVoters.l0] at H
   by_cases c4 : x13_1 < (l0_9.length : Int)
   ·rw [if_pos c4] at H
    have c4b0 : decide (x13_1 < (l0_9.length : Int)) = true := decide_eq_true c4
    clear c4
    by_cases c5 : 0 ≤ x13_1
    ·rw [if_pos c5] at H
     have c5b0 : decide (0 ≤ x13_1) = true := decide_eq_true c5
     clear c5
     by_cases c6 : x13_1 < (l0_9.length : Int)
     ·rw [if_pos c6] at H
      have c6b0 : decide (x13_1 < (l0_9.length : Int)) = true := decide_eq_true c6
      clear c6
      have HC7 := Aside0.mk H
      clear H
      have p211 : 0 ≤ (x13_1 : Int) := of_decide_eq_true (by first | (with_reducible assumption) | assumption)
      have q211 : x13_1 < (l0_9.length : Int) := of_decide_eq_true (by first | (with_reducible assumption) | assumption)
      obtain ⟨ad211, e211, hx211_0, hx211_1, hx211_2⟩ := at_T43 HR0_9.out x13_1 p211 q211
      cases e211
      replace hx211_0 := (HB.out.cell (World.block_lt_of_cell? w _ hx211_0)).trans hx211_0
      replace hx211_1 := (HB.out.cell (World.block_lt_of_cell? w _ hx211_1)).trans hx211_1
      replace hx211_2 := (HB.out.cell (World.block_lt_of_cell? w _ hx211_2)).trans hx211_2
      replace p211 := eq_true p211
      replace q211 := eq_true q211
      go_upto_region 4 with (first | ((with_reducible refine gate_dst (N := 4) rfl ?_); refine box_event ?hg (N := 4) ?hd (cs := #[.int .i64 0, .int .i64 0, .int .i64 0]) (t := 43) ?hr ?_; (case hd => rfl); (case hg => rfl); (case hr => first | (go_simp; done) | (go_simp; rfl)); intro gb212 hg w8 hbox hb; have n0_ := Aside0.mk (blk_below (g := gb210) (o := .cells #[.int .i64 a0_0, .int .i64 a0_1, .int .i64 a0_2, .int .i64 a0_3, .bool a0_4, .int .i64 a0_5, .int .i64 a0_6, .int .i64 a0_7, .slice A0_8 l0_8.length c0_8, .slice (some ad211) l0_9.length c0_9, .slice A0_10 l0_10.length c0_10, .string a0_11, .slice A0_12 l0_12.length c0_12] 62 (0, 0)) (by (with_reducible repeat (first | refine blk_drewN ?_ _ | refine blk_drew ?_ | refine blk_alloc ?_ _)); exact BK210.out) hb); have n1_ := Aside0.mk (below_step (by repeat (first | (with_reducible first | exact HB.out | apply below_alloc | apply pw_below_drewN | apply below_drew1 | refine below_set ?_ GE210.out) | exact HB.out)) hb); have n2_ := Aside0.mk (hbox); have n3_ := Aside0.mk ((by rw [hg]; exact (below_size (by repeat (first | (with_reducible first | exact HB.out | apply below_alloc | apply pw_below_drewN | apply below_drew1 | refine below_set ?_ GE210.out) | exact HB.out))) : w.heap.size ≤ gb212)); have n4_ := Aside0.mk ((by rw [hg]; exact (below_size (by repeat (first | (with_reducible first | exact HB.out | apply below_alloc | apply pw_below_drewN | apply below_drew1 | refine below_set ?_ GE210.out) | exact HB.out))) : w.heap.size ≤ gb212)); have n5_ := Aside0.mk ((by rw [hg]; exact Nat.ne_of_lt (blk_lt (g := gb210) (o := .cells #[.int .i64 a0_0, .int .i64 a0_1, .int .i64 a0_2, .int .i64 a0_3, .bool a0_4, .int .i64 a0_5, .int .i64 a0_6, .int .i64 a0_7, .slice A0_8 l0_8.length c0_8, .slice (some ad211) l0_9.length c0_9, .slice A0_10 l0_10.length c0_10, .string a0_11, .slice A0_12 l0_12.length c0_12] 62 (0, 0)) (by (with_reducible repeat (first | refine blk_drewN ?_ _ | refine blk_drew ?_ | refine blk_alloc ?_ _)); exact BK210.out)) : gb210 ≠ gb212)); have n6_ := Aside0.mk ((by rw [hg]; exact Nat.ne_of_gt (blk_lt (g := gb210) (o := .cells #[.int .i64 a0_0, .int .i64 a0_1, .int .i64 a0_2, .int .i64 a0_3, .bool a0_4, .int .i64 a0_5, .int .i64 a0_6, .int .i64 a0_7, .slice A0_8 l0_8.length c0_8, .slice (some ad211) l0_9.length c0_9, .slice A0_10 l0_10.length c0_10, .string a0_11, .slice A0_12 l0_12.length c0_12] 62 (0, 0)) (by (with_reducible repeat (first | refine blk_drewN ?_ _ | refine blk_drew ?_ | refine blk_alloc ?_ _)); exact BK210.out)) : gb212 ≠ gb210)); clear BK210; clear HB; have BK210 := n0_; have HB := n1_; have BK212 := n2_; have GW212 := n3_; have GE212 := n4_; have NB210_212 := n5_; have NB212_210 := n6_; clear n0_ n1_ n2_ n3_ n4_ n5_ n6_; clear hb hbox hg; have hnb9 := NB212_210.out; have hnc9 := NB210_212.out; have hcz10_0 : w8.cell? ⟨gb212, 0, none⟩ = some (.int .i64 0) := (blk_cell BK212.out 0).trans rfl; have hcz10_1 : w8.cell? ⟨gb212, 1, none⟩ = some (.int .i64 0) := (blk_cell BK212.out 1).trans rfl; have hcz10_2 : w8.cell? ⟨gb212, 2, none⟩ = some (.int .i64 0) := (blk_cell BK212.out 2).trans rfl; have hfz10_0 := blk_frozen BK212.out 0; have hfz10_1 := blk_frozen BK212.out 1; have hfz10_2 := blk_frozen BK212.out 2))
      repeat (go_quiet (first | ((with_reducible refine gate_dst (N := 4) rfl ?_); refine box_event ?hg (N := 4) ?hd (cs := #[.int .i64 0, .int .i64 0, .int .i64 0]) (t := 43) ?hr ?_; (case hd => rfl); (case hg => rfl); (case hr => first | (go_simp; done) | (go_simp; rfl)); intro gb212 hg w8 hbox hb; have n0_ := Aside0.mk (blk_below (g := gb210) (o := .cells #[.int .i64 a0_0, .int .i64 a0_1, .int .i64 a0_2, .int .i64 a0_3, .bool a0_4, .int .i64 a0_5, .int .i64 a0_6, .int .i64 a0_7, .slice A0_8 l0_8.length c0_8, .slice (some ad211) l0_9.length c0_9, .slice A0_10 l0_10.length c0_10, .string a0_11, .slice A0_12 l0_12.length c0_12] 62 (0, 0)) (by (with_reducible repeat (first | refine blk_drewN ?_ _ | refine blk_drew ?_ | refine blk_alloc ?_ _)); exact BK210.out) hb); have n1_ := Aside0.mk (below_step (by repeat (first | (with_reducible first | exact HB.out | apply below_alloc | apply pw_below_drewN | apply below_drew1 | refine below_set ?_ GE210.out) | exact HB.out)) hb); have n2_ := Aside0.mk (hbox); have n3_ := Aside0.mk ((by rw [hg]; exact (below_size (by repeat (first | (with_reducible first | exact HB.out | apply below_alloc | apply pw_below_drewN | apply below_drew1 | refine below_set ?_ GE210.out) | exact HB.out))) : w.heap.size ≤ gb212)); have n4_ := Aside0.mk ((by rw [hg]; exact (below_size (by repeat (first | (with_reducible first | exact HB.out | apply below_alloc | apply pw_below_drewN | apply below_drew1 | refine below_set ?_ GE210.out) | exact HB.out))) : w.heap.size ≤ gb212)); have n5_ := Aside0.mk ((by rw [hg]; exact Nat.ne_of_lt (blk_lt (g := gb210) (o := .cells #[.int .i64 a0_0, .int .i64 a0_1, .int .i64 a0_2, .int .i64 a0_3, .bool a0_4, .int .i64 a0_5, .int .i64 a0_6, .int .i64 a0_7, .slice A0_8 l0_8.length c0_8, .slice (some ad211) l0_9.length c0_9, .slice A0_10 l0_10.length c0_10, .string a0_11, .slice A0_12 l0_12.length c0_12] 62 (0, 0)) (by (with_reducible repeat (first | refine blk_drewN ?_ _ | refine blk_drew ?_ | refine blk_alloc ?_ _)); exact BK210.out)) : gb210 ≠ gb212)); have n6_ := Aside0.mk ((by rw [hg]; exact Nat.ne_of_gt (blk_lt (g := gb210) (o := .cells #[.int .i64 a0_0, .int .i64 a0_1, .int .i64 a0_2, .int .i64 a0_3, .bool a0_4, .int .i64 a0_5, .int .i64 a0_6, .int .i64 a0_7, .slice A0_8 l0_8.length c0_8, .slice (some ad211) l0_9.length c0_9, .slice A0_10 l0_10.length c0_10, .string a0_11, .slice A0_12 l0_12.length c0_12] 62 (0, 0)) (by (with_reducible repeat (first | refine blk_drewN ?_ _ | refine blk_drew ?_ | refine blk_alloc ?_ _)); exact BK210.out)) : gb212 ≠ gb210)); clear BK210; clear HB; have BK210 := n0_; have HB := n1_; have BK212 := n2_; have GW212 := n3_; have GE212 := n4_; have NB210_212 := n5_; have NB212_210 := n6_; clear n0_ n1_ n2_ n3_ n4_ n5_ n6_; clear hb hbox hg; have hnb9 := NB212_210.out; have hnc9 := NB210_212.out; have hcz10_0 : w8.cell? ⟨gb212, 0, none⟩ = some (.int .i64 0) := (blk_cell BK212.out 0).trans rfl; have hcz10_1 : w8.cell? ⟨gb212, 1, none⟩ = some (.int .i64 0) := (blk_cell BK212.out 1).trans rfl; have hcz10_2 : w8.cell? ⟨gb212, 2, none⟩ = some (.int .i64 0) := (blk_cell BK212.out 2).trans rfl; have hfz10_0 := blk_frozen BK212.out 0; have hfz10_1 := blk_frozen BK212.out 1; have hfz10_2 := blk_frozen BK212.out 2)); go_upto_region 4 with (first | ((with_reducible refine gate_dst (N := 4) rfl ?_); refine box_event ?hg (N := 4) ?hd (cs := #[.int .i64 0, .int .i64 0, .int .i64 0]) (t := 43) ?hr ?_; (case hd => rfl); (case hg => rfl); (case hr => first | (go_simp; done) | (go_simp; rfl)); intro gb212 hg w8 hbox hb; have n0_ := Aside0.mk (blk_below (g := gb210) (o := .cells #[.int .i64 a0_0, .int .i64 a0_1, .int .i64 a0_2, .int .i64 a0_3, .bool a0_4, .int .i64 a0_5, .int .i64 a0_6, .int .i64 a0_7, .slice A0_8 l0_8.length c0_8, .slice (some ad211) l0_9.length c0_9, .slice A0_10 l0_10.length c0_10, .string a0_11, .slice A0_12 l0_12.length c0_12] 62 (0, 0)) (by (with_reducible repeat (first | refine blk_drewN ?_ _ | refine blk_drew ?_ | refine blk_alloc ?_ _)); exact BK210.out) hb); have n1_ := Aside0.mk (below_step (by repeat (first | (with_reducible first | exact HB.out | apply below_alloc | apply pw_below_drewN | apply below_drew1 | refine below_set ?_ GE210.out) | exact HB.out)) hb); have n2_ := Aside0.mk (hbox); have n3_ := Aside0.mk ((by rw [hg]; exact (below_size (by repeat (first | (with_reducible first | exact HB.out | apply below_alloc | apply pw_below_drewN | apply below_drew1 | refine below_set ?_ GE210.out) | exact HB.out))) : w.heap.size ≤ gb212)); have n4_ := Aside0.mk ((by rw [hg]; exact (below_size (by repeat (first | (with_reducible first | exact HB.out | apply below_alloc | apply pw_below_drewN | apply below_drew1 | refine below_set ?_ GE210.out) | exact HB.out))) : w.heap.size ≤ gb212)); have n5_ := Aside0.mk ((by rw [hg]; exact Nat.ne_of_lt (blk_lt (g := gb210) (o := .cells #[.int .i64 a0_0, .int .i64 a0_1, .int .i64 a0_2, .int .i64 a0_3, .bool a0_4, .int .i64 a0_5, .int .i64 a0_6, .int .i64 a0_7, .slice A0_8 l0_8.length c0_8, .slice (some ad211) l0_9.length c0_9, .slice A0_10 l0_10.length c0_10, .string a0_11, .slice A0_12 l0_12.length c0_12] 62 (0, 0)) (by (with_reducible repeat (first | refine blk_drewN ?_ _ | refine blk_drew ?_ | refine blk_alloc ?_ _)); exact BK210.out)) : gb210 ≠ gb212)); have n6_ := Aside0.mk ((by rw [hg]; exact Nat.ne_of_gt (blk_lt (g := gb210) (o := .cells #[.int .i64 a0_0, .int .i64 a0_1, .int .i64 a0_2, .int .i64 a0_3, .bool a0_4, .int .i64 a0_5, .int .i64 a0_6, .int .i64 a0_7, .slice A0_8 l0_8.length c0_8, .slice (some ad211) l0_9.length c0_9, .slice A0_10 l0_10.length c0_10, .string a0_11, .slice A0_12 l0_12.length c0_12] 62 (0, 0)) (by (with_reducible repeat (first | refine blk_drewN ?_ _ | refine blk_drew ?_ | refine blk_alloc ?_ _)); exact BK210.out)) : gb212 ≠ gb210)); clear BK210; clear HB; have BK210 := n0_; have HB := n1_; have BK212 := n2_; have GW212 := n3_; have GE212 := n4_; have NB210_212 := n5_; have NB212_210 := n6_; clear n0_ n1_ n2_ n3_ n4_ n5_ n6_; clear hb hbox hg; have hnb9 := NB212_210.out; have hnc9 := NB210_212.out; have hcz10_0 : w8.cell? ⟨gb212, 0, none⟩ = some (.int .i64 0) := (blk_cell BK212.out 0).trans rfl; have hcz10_1 : w8.cell? ⟨gb212, 1, none⟩ = some (.int .i64 0) := (blk_cell BK212.out 1).trans rfl; have hcz10_2 : w8.cell? ⟨gb212, 2, none⟩ = some (.int .i64 0) := (blk_cell BK212.out 2).trans rfl; have hfz10_0 := blk_frozen BK212.out 0; have hfz10_1 := blk_frozen BK212.out 1; have hfz10_2 := blk_frozen BK212.out 2)))
      (try simp only [Act.put, List.setIfInBounds_toArray, List.set_cons_zero, List.set_cons_succ])
      go_cut [44] (fun v44 wc => ∃ (kq : Nat) (x44_6 : Bool), v44 = .bool x44_6 ∧ Aside0 (meeting_hall_validVoters.j1 kq l0_9 (l0_9.length : Int) x13_1 x44_6 a0_0 a0_1 a0_2 a0_3 a0_4 a0_5 a0_6 a0_7 l0_8 l0_9 l0_10 a0_11 l0_12 = some r) ∧ Aside0 (kq ≤ k1) ∧ Aside0 (wc.heap[gb210]? = some (.cells #[.int .i64 a0_0, .int .i64 a0_1, .int .i64 a0_2, .int .i64 a0_3, .bool a0_4, .int .i64 a0_5, .int .i64 a0_6, .int .i64 a0_7, (.slice A0_8 l0_8.length c0_8), (.slice (some ad211) l0_9.length c0_9), (.slice A0_10 l0_10.length c0_10), .string a0_11, (.slice A0_12 l0_12.length c0_12)] 62 (0, 0))) ∧ Aside0 (wc.heap[gb212]? = some (.cells #[.int .i64 ((rd_T43 l0_9 x13_1).f0), .int .i64 ((rd_T43 l0_9 x13_1).f1), .int .i64 ((rd_T43 l0_9 x13_1).f2)] 43 (0, 0))) ∧ Aside0 (Below w.heap.size w wc))
      case first =>
       have H := HC7.out
       clear HC7
       replace H := Option.bind_eq_some_iff.mp H
       obtain ⟨t213, A110, H⟩ := H
       replace H : (if t213 = true then (if x13_1 > 0 then (if 0 ≤ (wrap64 (x13_1 - 1)) then (if (wrap64 (x13_1 - 1)) < (l0_9.length : Int) then (if ((rd_T43 l0_9 x13_1).f0) ≤ ((rd_T43 l0_9 (wrap64 (x13_1 - 1))).f0) then (meeting_hall_validVoters.j1 k1 l0_9 (l0_9.length : Int) x13_1 true a0_0 a0_1 a0_2 a0_3 a0_4 a0_5 a0_6 a0_7 l0_8 l0_9 l0_10 a0_11 l0_12) else ((meeting_within.f ((rd_T43 l0_9 x13_1).f1) 0 1000).bind fun t215 => (meeting_hall_validVoters.j1 k1 l0_9 (l0_9.length : Int) x13_1 (!t215) a0_0 a0_1 a0_2 a0_3 a0_4 a0_5 a0_6 a0_7 l0_8 l0_9 l0_10 a0_11 l0_12))) else (none)) else (none)) else ((meeting_within.f ((rd_T43 l0_9 x13_1).f1) 0 1000).bind fun t216 => (meeting_hall_validVoters.j1 k1 l0_9 (l0_9.length : Int) x13_1 (!t216) a0_0 a0_1 a0_2 a0_3 a0_4 a0_5 a0_6 a0_7 l0_8 l0_9 l0_10 a0_11 l0_12))) else (meeting_hall_validVoters.j1 k1 l0_9 (l0_9.length : Int) x13_1 true a0_0 a0_1 a0_2 a0_3 a0_4 a0_5 a0_6 a0_7 l0_8 l0_9 l0_10 a0_11 l0_12)) = some r := H
       have A11 := Aside0.mk A110
       clear A110
       by_cases c12 : t213 = true
       ·subst c12
        have H1 : (if x13_1 > 0 then (if 0 ≤ (wrap64 (x13_1 - 1)) then (if (wrap64 (x13_1 - 1)) < (l0_9.length : Int) then (if ((rd_T43 l0_9 x13_1).f0) ≤ ((rd_T43 l0_9 (wrap64 (x13_1 - 1))).f0) then (meeting_hall_validVoters.j1 k1 l0_9 (l0_9.length : Int) x13_1 true a0_0 a0_1 a0_2 a0_3 a0_4 a0_5 a0_6 a0_7 l0_8 l0_9 l0_10 a0_11 l0_12) else ((meeting_within.f ((rd_T43 l0_9 x13_1).f1) 0 1000).bind fun t215 => (meeting_hall_validVoters.j1 k1 l0_9 (l0_9.length : Int) x13_1 (!t215) a0_0 a0_1 a0_2 a0_3 a0_4 a0_5 a0_6 a0_7 l0_8 l0_9 l0_10 a0_11 l0_12))) else (none)) else (none)) else ((meeting_within.f ((rd_T43 l0_9 x13_1).f1) 0 1000).bind fun t216 => (meeting_hall_validVoters.j1 k1 l0_9 (l0_9.length : Int) x13_1 (!t216) a0_0 a0_1 a0_2 a0_3 a0_4 a0_5 a0_6 a0_7 l0_8 l0_9 l0_10 a0_11 l0_12))) = some r := by rw [if_pos rfl] at H; exact H
        clear H
        have H := H1
        clear H1
        by_cases c13 : x13_1 > 0
        ·rw [if_pos c13] at H
         have c13b0 : decide (0 < x13_1) = true := decide_eq_true c13
         clear c13
         (first | rw [c13b0] | (simp only [i64_w, i32_w]; rw [c13b0]) | skip)
         obtain ⟨ji14, hji14⟩ : ∃ j_ : Int, (wrap64 (x13_1 - 1)) = j_ := ⟨_, rfl⟩
         replace H : (if 0 ≤ (ji14) then (if (ji14) < (l0_9.length : Int) then (if ((rd_T43 l0_9 x13_1).f0) ≤ ((rd_T43 l0_9 (ji14)).f0) then (meeting_hall_validVoters.j1 k1 l0_9 (l0_9.length : Int) x13_1 true a0_0 a0_1 a0_2 a0_3 a0_4 a0_5 a0_6 a0_7 l0_8 l0_9 l0_10 a0_11 l0_12) else ((meeting_within.f ((rd_T43 l0_9 x13_1).f1) 0 1000).bind fun t215 => (meeting_hall_validVoters.j1 k1 l0_9 (l0_9.length : Int) x13_1 (!t215) a0_0 a0_1 a0_2 a0_3 a0_4 a0_5 a0_6 a0_7 l0_8 l0_9 l0_10 a0_11 l0_12))) else (none)) else (none)) = some r := by first | (rw [hji14] at H; exact H) | (simp only [hji14] at H ⊢; exact H)
         (try rw [hji14] at A11)
         have hji14w : (IntKind.i64.wrap (x13_1 - 1)) = ji14 := (i64_w _).trans hji14
         by_cases c15 : 0 ≤ (ji14)
         ·rw [if_pos c15] at H
          have c15b0 : decide (0 ≤ (ji14)) = true := decide_eq_true c15
          clear c15
          by_cases c16 : (ji14) < (l0_9.length : Int)
          ·rw [if_pos c16] at H
           have c16b0 : decide ((ji14) < (l0_9.length : Int)) = true := decide_eq_true c16
           clear c16
           by_cases c17 : ((rd_T43 l0_9 x13_1).f0) ≤ ((rd_T43 l0_9 (ji14)).f0)
           ·rw [if_pos c17] at H
            have c17b0 : decide (((rd_T43 l0_9 x13_1).f0) ≤ ((rd_T43 l0_9 (ji14)).f0)) = true := decide_eq_true c17
            clear c17
            have H' := Aside0.mk H
            clear H
            have hnb18 := NB212_210.out
            have hnc18 := NB210_212.out
            have hcz19_0 : w8.cell? ⟨gb212, 0, none⟩ = some (.int .i64 0) := (blk_cell BK212.out 0).trans rfl
            have hcz19_1 : w8.cell? ⟨gb212, 1, none⟩ = some (.int .i64 0) := (blk_cell BK212.out 1).trans rfl
            have hcz19_2 : w8.cell? ⟨gb212, 2, none⟩ = some (.int .i64 0) := (blk_cell BK212.out 2).trans rfl
            have hfz19_0 := blk_frozen BK212.out 0
            have hfz19_1 := blk_frozen BK212.out 1
            have hfz19_2 := blk_frozen BK212.out 2
            go_wp2_with (first | (go_at_call 51; (with_reducible refine (meeting_within.calls ((rd_T43 l0_9 x13_1).f0) 1 64 true _ A11.out).mono ?_); rintro e w' ⟨rfl, ⟨nd, rfl⟩⟩; (try first | exact ⟨rfl, _, World.drewN_drewN _ _ _⟩ | exact ⟨rfl, _, Eq.trans (World.drewN_drewN _ _ _) (congrArg (World.drewN _) (Nat.add_assoc _ _ _))⟩); have hcz20_0 : w8.cell? ⟨gb210, 0, none⟩ = some (.int .i64 a0_0) := (blk_cell BK210.out 0).trans rfl; have hcz20_1 : w8.cell? ⟨gb210, 1, none⟩ = some (.int .i64 a0_1) := (blk_cell BK210.out 1).trans rfl; have hcz20_2 : w8.cell? ⟨gb210, 2, none⟩ = some (.int .i64 a0_2) := (blk_cell BK210.out 2).trans rfl; have hcz20_3 : w8.cell? ⟨gb210, 3, none⟩ = some (.int .i64 a0_3) := (blk_cell BK210.out 3).trans rfl; have hcz20_4 : w8.cell? ⟨gb210, 4, none⟩ = some (.bool a0_4) := (blk_cell BK210.out 4).trans rfl; have hcz20_5 : w8.cell? ⟨gb210, 5, none⟩ = some (.int .i64 a0_5) := (blk_cell BK210.out 5).trans rfl; have hcz20_6 : w8.cell? ⟨gb210, 6, none⟩ = some (.int .i64 a0_6) := (blk_cell BK210.out 6).trans rfl; have hcz20_7 : w8.cell? ⟨gb210, 7, none⟩ = some (.int .i64 a0_7) := (blk_cell BK210.out 7).trans rfl; have hcz20_8 : w8.cell? ⟨gb210, 8, none⟩ = some (.slice A0_8 l0_8.length c0_8) := (blk_cell BK210.out 8).trans rfl; have hcz20_9 : w8.cell? ⟨gb210, 9, none⟩ = some (.slice (some ad211) l0_9.length c0_9) := (blk_cell BK210.out 9).trans rfl; have hcz20_10 : w8.cell? ⟨gb210, 10, none⟩ = some (.slice A0_10 l0_10.length c0_10) := (blk_cell BK210.out 10).trans rfl; have hcz20_11 : w8.cell? ⟨gb210, 11, none⟩ = some (.string a0_11) := (blk_cell BK210.out 11).trans rfl; have hcz20_12 : w8.cell? ⟨gb210, 12, none⟩ = some (.slice A0_12 l0_12.length c0_12) := (blk_cell BK210.out 12).trans rfl; have hfz20_0 := blk_frozen BK210.out 0; have hfz20_1 := blk_frozen BK210.out 1; have hfz20_2 := blk_frozen BK210.out 2; have hfz20_3 := blk_frozen BK210.out 3; have hfz20_4 := blk_frozen BK210.out 4; have hfz20_5 := blk_frozen BK210.out 5; have hfz20_6 := blk_frozen BK210.out 6; have hfz20_7 := blk_frozen BK210.out 7; have hfz20_8 := blk_frozen BK210.out 8; have hfz20_9 := blk_frozen BK210.out 9; have hfz20_10 := blk_frozen BK210.out 10; have hfz20_11 := blk_frozen BK210.out 11; have hfz20_12 := blk_frozen BK210.out 12; have p214 : 0 ≤ ((ji14) : Int) := of_decide_eq_true (by first | (with_reducible assumption) | assumption); have q214 : (ji14) < (l0_9.length : Int) := of_decide_eq_true (by first | (with_reducible assumption) | assumption); obtain ⟨ad214, e214, hx214_0, hx214_1, hx214_2⟩ := at_T43 HR0_9.out (ji14) p214 q214; obtain rfl : ad211 = ad214 := (by injection e214); have hn214_0 : ad211.block ≠ gb212 := Nat.ne_of_lt (Nat.lt_of_lt_of_le (by have := World.block_lt_of_cell? _ _ hx214_0; first | rwa [add_block] at this | exact this) GW212.out); have hn214_1 : ad211.block ≠ gb212 := Nat.ne_of_lt (Nat.lt_of_lt_of_le (by have := World.block_lt_of_cell? _ _ hx214_0; first | rwa [add_block] at this | exact this) GW212.out); have hn214_2 : ad211.block ≠ gb212 := Nat.ne_of_lt (Nat.lt_of_lt_of_le (by have := World.block_lt_of_cell? _ _ hx214_0; first | rwa [add_block] at this | exact this) GW212.out); replace hx214_0 := (HB.out.cell (World.block_lt_of_cell? w _ hx214_0)).trans hx214_0; replace hx214_1 := (HB.out.cell (World.block_lt_of_cell? w _ hx214_1)).trans hx214_1; replace hx214_2 := (HB.out.cell (World.block_lt_of_cell? w _ hx214_2)).trans hx214_2; replace hx214_0 := (cell_far (p := ⟨gb212, 0, none⟩) (by first | (rw [add_block]; exact hn214_0) | (show (Addr.add _ _).block ≠ _; rw [add_block]; exact hn214_0) | exact hn214_0) (.int .i64 ((rd_T43 l0_9 x13_1).f0))).trans hx214_0; replace hx214_1 := (cell_far (p := ⟨gb212, 0, none⟩) (by first | (rw [add_block]; exact hn214_0) | (show (Addr.add _ _).block ≠ _; rw [add_block]; exact hn214_0) | exact hn214_0) (.int .i64 ((rd_T43 l0_9 x13_1).f0))).trans hx214_1; replace hx214_2 := (cell_far (p := ⟨gb212, 0, none⟩) (by first | (rw [add_block]; exact hn214_0) | (show (Addr.add _ _).block ≠ _; rw [add_block]; exact hn214_0) | exact hn214_0) (.int .i64 ((rd_T43 l0_9 x13_1).f0))).trans hx214_2; replace hx214_0 := (cell_far (p := ⟨gb212, 1, none⟩) (by first | (rw [add_block]; exact hn214_1) | (show (Addr.add _ _).block ≠ _; rw [add_block]; exact hn214_1) | exact hn214_1) (.int .i64 ((rd_T43 l0_9 x13_1).f1))).trans hx214_0; replace hx214_1 := (cell_far (p := ⟨gb212, 1, none⟩) (by first | (rw [add_block]; exact hn214_1) | (show (Addr.add _ _).block ≠ _; rw [add_block]; exact hn214_1) | exact hn214_1) (.int .i64 ((rd_T43 l0_9 x13_1).f1))).trans hx214_1; replace hx214_2 := (cell_far (p := ⟨gb212, 1, none⟩) (by first | (rw [add_block]; exact hn214_1) | (show (Addr.add _ _).block ≠ _; rw [add_block]; exact hn214_1) | exact hn214_1) (.int .i64 ((rd_T43 l0_9 x13_1).f1))).trans hx214_2; replace hx214_0 := (cell_far (p := ⟨gb212, 2, none⟩) (by first | (rw [add_block]; exact hn214_2) | (show (Addr.add _ _).block ≠ _; rw [add_block]; exact hn214_2) | exact hn214_2) (.int .i64 ((rd_T43 l0_9 x13_1).f2))).trans hx214_0; replace hx214_1 := (cell_far (p := ⟨gb212, 2, none⟩) (by first | (rw [add_block]; exact hn214_2) | (show (Addr.add _ _).block ≠ _; rw [add_block]; exact hn214_2) | exact hn214_2) (.int .i64 ((rd_T43 l0_9 x13_1).f2))).trans hx214_1; replace hx214_2 := (cell_far (p := ⟨gb212, 2, none⟩) (by first | (rw [add_block]; exact hn214_2) | (show (Addr.add _ _).block ≠ _; rw [add_block]; exact hn214_2) | exact hn214_2) (.int .i64 ((rd_T43 l0_9 x13_1).f2))).trans hx214_2; (try have hy214_0 := fun (n_ : Nat) => (show (((((w8.drewN n_).setCell ⟨gb212, 0, none⟩ (.int .i64 ((rd_T43 l0_9 x13_1).f0))).setCell ⟨gb212, 1, none⟩ (.int .i64 ((rd_T43 l0_9 x13_1).f1))).setCell ⟨gb212, 2, none⟩ (.int .i64 ((rd_T43 l0_9 x13_1).f2)))).cell? _ = some _ from hx214_0)); (try have hy214_1 := fun (n_ : Nat) => (show (((((w8.drewN n_).setCell ⟨gb212, 0, none⟩ (.int .i64 ((rd_T43 l0_9 x13_1).f0))).setCell ⟨gb212, 1, none⟩ (.int .i64 ((rd_T43 l0_9 x13_1).f1))).setCell ⟨gb212, 2, none⟩ (.int .i64 ((rd_T43 l0_9 x13_1).f2)))).cell? _ = some _ from hx214_1)); (try have hy214_2 := fun (n_ : Nat) => (show (((((w8.drewN n_).setCell ⟨gb212, 0, none⟩ (.int .i64 ((rd_T43 l0_9 x13_1).f0))).setCell ⟨gb212, 1, none⟩ (.int .i64 ((rd_T43 l0_9 x13_1).f1))).setCell ⟨gb212, 2, none⟩ (.int .i64 ((rd_T43 l0_9 x13_1).f2)))).cell? _ = some _ from hx214_2)); clear hn214_0; clear hn214_1; clear hn214_2; replace p214 := eq_true p214; replace q214 := eq_true q214))
            repeat (go_quiet (first | (go_at_call 51; (with_reducible refine (meeting_within.calls ((rd_T43 l0_9 x13_1).f0) 1 64 true _ A11.out).mono ?_); rintro e w' ⟨rfl, ⟨nd, rfl⟩⟩; (try first | exact ⟨rfl, _, World.drewN_drewN _ _ _⟩ | exact ⟨rfl, _, Eq.trans (World.drewN_drewN _ _ _) (congrArg (World.drewN _) (Nat.add_assoc _ _ _))⟩); have hcz20_0 : w8.cell? ⟨gb210, 0, none⟩ = some (.int .i64 a0_0) := (blk_cell BK210.out 0).trans rfl; have hcz20_1 : w8.cell? ⟨gb210, 1, none⟩ = some (.int .i64 a0_1) := (blk_cell BK210.out 1).trans rfl; have hcz20_2 : w8.cell? ⟨gb210, 2, none⟩ = some (.int .i64 a0_2) := (blk_cell BK210.out 2).trans rfl; have hcz20_3 : w8.cell? ⟨gb210, 3, none⟩ = some (.int .i64 a0_3) := (blk_cell BK210.out 3).trans rfl; have hcz20_4 : w8.cell? ⟨gb210, 4, none⟩ = some (.bool a0_4) := (blk_cell BK210.out 4).trans rfl; have hcz20_5 : w8.cell? ⟨gb210, 5, none⟩ = some (.int .i64 a0_5) := (blk_cell BK210.out 5).trans rfl; have hcz20_6 : w8.cell? ⟨gb210, 6, none⟩ = some (.int .i64 a0_6) := (blk_cell BK210.out 6).trans rfl; have hcz20_7 : w8.cell? ⟨gb210, 7, none⟩ = some (.int .i64 a0_7) := (blk_cell BK210.out 7).trans rfl; have hcz20_8 : w8.cell? ⟨gb210, 8, none⟩ = some (.slice A0_8 l0_8.length c0_8) := (blk_cell BK210.out 8).trans rfl; have hcz20_9 : w8.cell? ⟨gb210, 9, none⟩ = some (.slice (some ad211) l0_9.length c0_9) := (blk_cell BK210.out 9).trans rfl; have hcz20_10 : w8.cell? ⟨gb210, 10, none⟩ = some (.slice A0_10 l0_10.length c0_10) := (blk_cell BK210.out 10).trans rfl; have hcz20_11 : w8.cell? ⟨gb210, 11, none⟩ = some (.string a0_11) := (blk_cell BK210.out 11).trans rfl; have hcz20_12 : w8.cell? ⟨gb210, 12, none⟩ = some (.slice A0_12 l0_12.length c0_12) := (blk_cell BK210.out 12).trans rfl; have hfz20_0 := blk_frozen BK210.out 0; have hfz20_1 := blk_frozen BK210.out 1; have hfz20_2 := blk_frozen BK210.out 2; have hfz20_3 := blk_frozen BK210.out 3; have hfz20_4 := blk_frozen BK210.out 4; have hfz20_5 := blk_frozen BK210.out 5; have hfz20_6 := blk_frozen BK210.out 6; have hfz20_7 := blk_frozen BK210.out 7; have hfz20_8 := blk_frozen BK210.out 8; have hfz20_9 := blk_frozen BK210.out 9; have hfz20_10 := blk_frozen BK210.out 10; have hfz20_11 := blk_frozen BK210.out 11; have hfz20_12 := blk_frozen BK210.out 12; have p214 : 0 ≤ ((ji14) : Int) := of_decide_eq_true (by first | (with_reducible assumption) | assumption); have q214 : (ji14) < (l0_9.length : Int) := of_decide_eq_true (by first | (with_reducible assumption) | assumption); obtain ⟨ad214, e214, hx214_0, hx214_1, hx214_2⟩ := at_T43 HR0_9.out (ji14) p214 q214; obtain rfl : ad211 = ad214 := (by injection e214); have hn214_0 : ad211.block ≠ gb212 := Nat.ne_of_lt (Nat.lt_of_lt_of_le (by have := World.block_lt_of_cell? _ _ hx214_0; first | rwa [add_block] at this | exact this) GW212.out); have hn214_1 : ad211.block ≠ gb212 := Nat.ne_of_lt (Nat.lt_of_lt_of_le (by have := World.block_lt_of_cell? _ _ hx214_0; first | rwa [add_block] at this | exact this) GW212.out); have hn214_2 : ad211.block ≠ gb212 := Nat.ne_of_lt (Nat.lt_of_lt_of_le (by have := World.block_lt_of_cell? _ _ hx214_0; first | rwa [add_block] at this | exact this) GW212.out); replace hx214_0 := (HB.out.cell (World.block_lt_of_cell? w _ hx214_0)).trans hx214_0; replace hx214_1 := (HB.out.cell (World.block_lt_of_cell? w _ hx214_1)).trans hx214_1; replace hx214_2 := (HB.out.cell (World.block_lt_of_cell? w _ hx214_2)).trans hx214_2; replace hx214_0 := (cell_far (p := ⟨gb212, 0, none⟩) (by first | (rw [add_block]; exact hn214_0) | (show (Addr.add _ _).block ≠ _; rw [add_block]; exact hn214_0) | exact hn214_0) (.int .i64 ((rd_T43 l0_9 x13_1).f0))).trans hx214_0; replace hx214_1 := (cell_far (p := ⟨gb212, 0, none⟩) (by first | (rw [add_block]; exact hn214_0) | (show (Addr.add _ _).block ≠ _; rw [add_block]; exact hn214_0) | exact hn214_0) (.int .i64 ((rd_T43 l0_9 x13_1).f0))).trans hx214_1; replace hx214_2 := (cell_far (p := ⟨gb212, 0, none⟩) (by first | (rw [add_block]; exact hn214_0) | (show (Addr.add _ _).block ≠ _; rw [add_block]; exact hn214_0) | exact hn214_0) (.int .i64 ((rd_T43 l0_9 x13_1).f0))).trans hx214_2; replace hx214_0 := (cell_far (p := ⟨gb212, 1, none⟩) (by first | (rw [add_block]; exact hn214_1) | (show (Addr.add _ _).block ≠ _; rw [add_block]; exact hn214_1) | exact hn214_1) (.int .i64 ((rd_T43 l0_9 x13_1).f1))).trans hx214_0; replace hx214_1 := (cell_far (p := ⟨gb212, 1, none⟩) (by first | (rw [add_block]; exact hn214_1) | (show (Addr.add _ _).block ≠ _; rw [add_block]; exact hn214_1) | exact hn214_1) (.int .i64 ((rd_T43 l0_9 x13_1).f1))).trans hx214_1; replace hx214_2 := (cell_far (p := ⟨gb212, 1, none⟩) (by first | (rw [add_block]; exact hn214_1) | (show (Addr.add _ _).block ≠ _; rw [add_block]; exact hn214_1) | exact hn214_1) (.int .i64 ((rd_T43 l0_9 x13_1).f1))).trans hx214_2; replace hx214_0 := (cell_far (p := ⟨gb212, 2, none⟩) (by first | (rw [add_block]; exact hn214_2) | (show (Addr.add _ _).block ≠ _; rw [add_block]; exact hn214_2) | exact hn214_2) (.int .i64 ((rd_T43 l0_9 x13_1).f2))).trans hx214_0; replace hx214_1 := (cell_far (p := ⟨gb212, 2, none⟩) (by first | (rw [add_block]; exact hn214_2) | (show (Addr.add _ _).block ≠ _; rw [add_block]; exact hn214_2) | exact hn214_2) (.int .i64 ((rd_T43 l0_9 x13_1).f2))).trans hx214_1; replace hx214_2 := (cell_far (p := ⟨gb212, 2, none⟩) (by first | (rw [add_block]; exact hn214_2) | (show (Addr.add _ _).block ≠ _; rw [add_block]; exact hn214_2) | exact hn214_2) (.int .i64 ((rd_T43 l0_9 x13_1).f2))).trans hx214_2; (try have hy214_0 := fun (n_ : Nat) => (show (((((w8.drewN n_).setCell ⟨gb212, 0, none⟩ (.int .i64 ((rd_T43 l0_9 x13_1).f0))).setCell ⟨gb212, 1, none⟩ (.int .i64 ((rd_T43 l0_9 x13_1).f1))).setCell ⟨gb212, 2, none⟩ (.int .i64 ((rd_T43 l0_9 x13_1).f2)))).cell? _ = some _ from hx214_0)); (try have hy214_1 := fun (n_ : Nat) => (show (((((w8.drewN n_).setCell ⟨gb212, 0, none⟩ (.int .i64 ((rd_T43 l0_9 x13_1).f0))).setCell ⟨gb212, 1, none⟩ (.int .i64 ((rd_T43 l0_9 x13_1).f1))).setCell ⟨gb212, 2, none⟩ (.int .i64 ((rd_T43 l0_9 x13_1).f2)))).cell? _ = some _ from hx214_1)); (try have hy214_2 := fun (n_ : Nat) => (show (((((w8.drewN n_).setCell ⟨gb212, 0, none⟩ (.int .i64 ((rd_T43 l0_9 x13_1).f0))).setCell ⟨gb212, 1, none⟩ (.int .i64 ((rd_T43 l0_9 x13_1).f1))).setCell ⟨gb212, 2, none⟩ (.int .i64 ((rd_T43 l0_9 x13_1).f2)))).cell? _ = some _ from hx214_2)); clear hn214_0; clear hn214_1; clear hn214_2; replace p214 := eq_true p214; replace q214 := eq_true q214)); try go_wp2_with (first | (go_at_call 51; (with_reducible refine (meeting_within.calls ((rd_T43 l0_9 x13_1).f0) 1 64 true _ A11.out).mono ?_); rintro e w' ⟨rfl, ⟨nd, rfl⟩⟩; (try first | exact ⟨rfl, _, World.drewN_drewN _ _ _⟩ | exact ⟨rfl, _, Eq.trans (World.drewN_drewN _ _ _) (congrArg (World.drewN _) (Nat.add_assoc _ _ _))⟩); have hcz20_0 : w8.cell? ⟨gb210, 0, none⟩ = some (.int .i64 a0_0) := (blk_cell BK210.out 0).trans rfl; have hcz20_1 : w8.cell? ⟨gb210, 1, none⟩ = some (.int .i64 a0_1) := (blk_cell BK210.out 1).trans rfl; have hcz20_2 : w8.cell? ⟨gb210, 2, none⟩ = some (.int .i64 a0_2) := (blk_cell BK210.out 2).trans rfl; have hcz20_3 : w8.cell? ⟨gb210, 3, none⟩ = some (.int .i64 a0_3) := (blk_cell BK210.out 3).trans rfl; have hcz20_4 : w8.cell? ⟨gb210, 4, none⟩ = some (.bool a0_4) := (blk_cell BK210.out 4).trans rfl; have hcz20_5 : w8.cell? ⟨gb210, 5, none⟩ = some (.int .i64 a0_5) := (blk_cell BK210.out 5).trans rfl; have hcz20_6 : w8.cell? ⟨gb210, 6, none⟩ = some (.int .i64 a0_6) := (blk_cell BK210.out 6).trans rfl; have hcz20_7 : w8.cell? ⟨gb210, 7, none⟩ = some (.int .i64 a0_7) := (blk_cell BK210.out 7).trans rfl; have hcz20_8 : w8.cell? ⟨gb210, 8, none⟩ = some (.slice A0_8 l0_8.length c0_8) := (blk_cell BK210.out 8).trans rfl; have hcz20_9 : w8.cell? ⟨gb210, 9, none⟩ = some (.slice (some ad211) l0_9.length c0_9) := (blk_cell BK210.out 9).trans rfl; have hcz20_10 : w8.cell? ⟨gb210, 10, none⟩ = some (.slice A0_10 l0_10.length c0_10) := (blk_cell BK210.out 10).trans rfl; have hcz20_11 : w8.cell? ⟨gb210, 11, none⟩ = some (.string a0_11) := (blk_cell BK210.out 11).trans rfl; have hcz20_12 : w8.cell? ⟨gb210, 12, none⟩ = some (.slice A0_12 l0_12.length c0_12) := (blk_cell BK210.out 12).trans rfl; have hfz20_0 := blk_frozen BK210.out 0; have hfz20_1 := blk_frozen BK210.out 1; have hfz20_2 := blk_frozen BK210.out 2; have hfz20_3 := blk_frozen BK210.out 3; have hfz20_4 := blk_frozen BK210.out 4; have hfz20_5 := blk_frozen BK210.out 5; have hfz20_6 := blk_frozen BK210.out 6; have hfz20_7 := blk_frozen BK210.out 7; have hfz20_8 := blk_frozen BK210.out 8; have hfz20_9 := blk_frozen BK210.out 9; have hfz20_10 := blk_frozen BK210.out 10; have hfz20_11 := blk_frozen BK210.out 11; have hfz20_12 := blk_frozen BK210.out 12; have p214 : 0 ≤ ((ji14) : Int) := of_decide_eq_true (by first | (with_reducible assumption) | assumption); have q214 : (ji14) < (l0_9.length : Int) := of_decide_eq_true (by first | (with_reducible assumption) | assumption); obtain ⟨ad214, e214, hx214_0, hx214_1, hx214_2⟩ := at_T43 HR0_9.out (ji14) p214 q214; obtain rfl : ad211 = ad214 := (by injection e214); have hn214_0 : ad211.block ≠ gb212 := Nat.ne_of_lt (Nat.lt_of_lt_of_le (by have := World.block_lt_of_cell? _ _ hx214_0; first | rwa [add_block] at this | exact this) GW212.out); have hn214_1 : ad211.block ≠ gb212 := Nat.ne_of_lt (Nat.lt_of_lt_of_le (by have := World.block_lt_of_cell? _ _ hx214_0; first | rwa [add_block] at this | exact this) GW212.out); have hn214_2 : ad211.block ≠ gb212 := Nat.ne_of_lt (Nat.lt_of_lt_of_le (by have := World.block_lt_of_cell? _ _ hx214_0; first | rwa [add_block] at this | exact this) GW212.out); replace hx214_0 := (HB.out.cell (World.block_lt_of_cell? w _ hx214_0)).trans hx214_0; replace hx214_1 := (HB.out.cell (World.block_lt_of_cell? w _ hx214_1)).trans hx214_1; replace hx214_2 := (HB.out.cell (World.block_lt_of_cell? w _ hx214_2)).trans hx214_2; replace hx214_0 := (cell_far (p := ⟨gb212, 0, none⟩) (by first | (rw [add_block]; exact hn214_0) | (show (Addr.add _ _).block ≠ _; rw [add_block]; exact hn214_0) | exact hn214_0) (.int .i64 ((rd_T43 l0_9 x13_1).f0))).trans hx214_0; replace hx214_1 := (cell_far (p := ⟨gb212, 0, none⟩) (by first | (rw [add_block]; exact hn214_0) | (show (Addr.add _ _).block ≠ _; rw [add_block]; exact hn214_0) | exact hn214_0) (.int .i64 ((rd_T43 l0_9 x13_1).f0))).trans hx214_1; replace hx214_2 := (cell_far (p := ⟨gb212, 0, none⟩) (by first | (rw [add_block]; exact hn214_0) | (show (Addr.add _ _).block ≠ _; rw [add_block]; exact hn214_0) | exact hn214_0) (.int .i64 ((rd_T43 l0_9 x13_1).f0))).trans hx214_2; replace hx214_0 := (cell_far (p := ⟨gb212, 1, none⟩) (by first | (rw [add_block]; exact hn214_1) | (show (Addr.add _ _).block ≠ _; rw [add_block]; exact hn214_1) | exact hn214_1) (.int .i64 ((rd_T43 l0_9 x13_1).f1))).trans hx214_0; replace hx214_1 := (cell_far (p := ⟨gb212, 1, none⟩) (by first | (rw [add_block]; exact hn214_1) | (show (Addr.add _ _).block ≠ _; rw [add_block]; exact hn214_1) | exact hn214_1) (.int .i64 ((rd_T43 l0_9 x13_1).f1))).trans hx214_1; replace hx214_2 := (cell_far (p := ⟨gb212, 1, none⟩) (by first | (rw [add_block]; exact hn214_1) | (show (Addr.add _ _).block ≠ _; rw [add_block]; exact hn214_1) | exact hn214_1) (.int .i64 ((rd_T43 l0_9 x13_1).f1))).trans hx214_2; replace hx214_0 := (cell_far (p := ⟨gb212, 2, none⟩) (by first | (rw [add_block]; exact hn214_2) | (show (Addr.add _ _).block ≠ _; rw [add_block]; exact hn214_2) | exact hn214_2) (.int .i64 ((rd_T43 l0_9 x13_1).f2))).trans hx214_0; replace hx214_1 := (cell_far (p := ⟨gb212, 2, none⟩) (by first | (rw [add_block]; exact hn214_2) | (show (Addr.add _ _).block ≠ _; rw [add_block]; exact hn214_2) | exact hn214_2) (.int .i64 ((rd_T43 l0_9 x13_1).f2))).trans hx214_1; replace hx214_2 := (cell_far (p := ⟨gb212, 2, none⟩) (by first | (rw [add_block]; exact hn214_2) | (show (Addr.add _ _).block ≠ _; rw [add_block]; exact hn214_2) | exact hn214_2) (.int .i64 ((rd_T43 l0_9 x13_1).f2))).trans hx214_2; (try have hy214_0 := fun (n_ : Nat) => (show (((((w8.drewN n_).setCell ⟨gb212, 0, none⟩ (.int .i64 ((rd_T43 l0_9 x13_1).f0))).setCell ⟨gb212, 1, none⟩ (.int .i64 ((rd_T43 l0_9 x13_1).f1))).setCell ⟨gb212, 2, none⟩ (.int .i64 ((rd_T43 l0_9 x13_1).f2)))).cell? _ = some _ from hx214_0)); (try have hy214_1 := fun (n_ : Nat) => (show (((((w8.drewN n_).setCell ⟨gb212, 0, none⟩ (.int .i64 ((rd_T43 l0_9 x13_1).f0))).setCell ⟨gb212, 1, none⟩ (.int .i64 ((rd_T43 l0_9 x13_1).f1))).setCell ⟨gb212, 2, none⟩ (.int .i64 ((rd_T43 l0_9 x13_1).f2)))).cell? _ = some _ from hx214_1)); (try have hy214_2 := fun (n_ : Nat) => (show (((((w8.drewN n_).setCell ⟨gb212, 0, none⟩ (.int .i64 ((rd_T43 l0_9 x13_1).f0))).setCell ⟨gb212, 1, none⟩ (.int .i64 ((rd_T43 l0_9 x13_1).f1))).setCell ⟨gb212, 2, none⟩ (.int .i64 ((rd_T43 l0_9 x13_1).f2)))).cell? _ = some _ from hx214_2)); clear hn214_0; clear hn214_1; clear hn214_2; replace p214 := eq_true p214; replace q214 := eq_true q214)))
            go_meet
            case rel => exact ⟨_, (true), (by first | rfl | (simp; done) | (simp [*]; done)), H', ⟨by have := HK1.out; first | omega | exact Nat.le_refl _⟩, ⟨by (with_reducible repeat (first | refine blk_drewN ?_ _ | refine blk_drew ?_ | refine blk_alloc ?_ _)); refine blk_far ?_ NB210_212.out _; (with_reducible repeat (first | refine blk_drewN ?_ _ | refine blk_drew ?_ | refine blk_alloc ?_ _)); refine blk_far ?_ NB210_212.out _; (with_reducible repeat (first | refine blk_drewN ?_ _ | refine blk_drew ?_ | refine blk_alloc ?_ _)); refine blk_far ?_ NB210_212.out _; (with_reducible repeat (first | refine blk_drewN ?_ _ | refine blk_drew ?_ | refine blk_alloc ?_ _)); exact BK210.out⟩, ⟨by (with_reducible repeat (first | refine blk_drewN ?_ _ | refine blk_drew ?_ | refine blk_alloc ?_ _)); refine blk_put (cs := #[.int .i64 ((rd_T43 l0_9 x13_1).f0), .int .i64 ((rd_T43 l0_9 x13_1).f1), .int .i64 0]) ?_ 2 _ rfl; (with_reducible repeat (first | refine blk_drewN ?_ _ | refine blk_drew ?_ | refine blk_alloc ?_ _)); refine blk_put (cs := #[.int .i64 ((rd_T43 l0_9 x13_1).f0), .int .i64 0, .int .i64 0]) ?_ 1 _ rfl; (with_reducible repeat (first | refine blk_drewN ?_ _ | refine blk_drew ?_ | refine blk_alloc ?_ _)); refine blk_put (cs := #[.int .i64 0, .int .i64 0, .int .i64 0]) ?_ 0 _ rfl; (with_reducible repeat (first | refine blk_drewN ?_ _ | refine blk_drew ?_ | refine blk_alloc ?_ _)); exact BK212.out⟩, ⟨by repeat (first | (with_reducible first | exact HB.out | apply below_alloc | apply pw_below_drewN | apply below_drew1 | refine below_set ?_ GE210.out | refine below_set ?_ GE212.out) | exact HB.out)⟩⟩
           ·rw [if_neg c17] at H
            have c17b0 : decide (((rd_T43 l0_9 x13_1).f0) ≤ ((rd_T43 l0_9 (ji14)).f0)) = false := decide_eq_false c17
            clear c17
            replace H := Option.bind_eq_some_iff.mp H
            obtain ⟨t215, A210, H⟩ := H
            replace H : (meeting_hall_validVoters.j1 k1 l0_9 (l0_9.length : Int) x13_1 (!t215) a0_0 a0_1 a0_2 a0_3 a0_4 a0_5 a0_6 a0_7 l0_8 l0_9 l0_10 a0_11 l0_12) = some r := H
            have A21 := Aside0.mk A210
            clear A210
            have H' := Aside0.mk H
            clear H
            have hnb22 := NB212_210.out
            have hnc22 := NB210_212.out
            have hcz23_0 : w8.cell? ⟨gb212, 0, none⟩ = some (.int .i64 0) := (blk_cell BK212.out 0).trans rfl
            have hcz23_1 : w8.cell? ⟨gb212, 1, none⟩ = some (.int .i64 0) := (blk_cell BK212.out 1).trans rfl
            have hcz23_2 : w8.cell? ⟨gb212, 2, none⟩ = some (.int .i64 0) := (blk_cell BK212.out 2).trans rfl
            have hfz23_0 := blk_frozen BK212.out 0
            have hfz23_1 := blk_frozen BK212.out 1
            have hfz23_2 := blk_frozen BK212.out 2
            go_wp2_with (first | (go_at_call 51; (with_reducible refine (meeting_within.calls ((rd_T43 l0_9 x13_1).f0) 1 64 true _ A11.out).mono ?_); rintro e w' ⟨rfl, ⟨nd, rfl⟩⟩; (try first | exact ⟨rfl, _, World.drewN_drewN _ _ _⟩ | exact ⟨rfl, _, Eq.trans (World.drewN_drewN _ _ _) (congrArg (World.drewN _) (Nat.add_assoc _ _ _))⟩); have hcz24_0 : w8.cell? ⟨gb210, 0, none⟩ = some (.int .i64 a0_0) := (blk_cell BK210.out 0).trans rfl; have hcz24_1 : w8.cell? ⟨gb210, 1, none⟩ = some (.int .i64 a0_1) := (blk_cell BK210.out 1).trans rfl; have hcz24_2 : w8.cell? ⟨gb210, 2, none⟩ = some (.int .i64 a0_2) := (blk_cell BK210.out 2).trans rfl; have hcz24_3 : w8.cell? ⟨gb210, 3, none⟩ = some (.int .i64 a0_3) := (blk_cell BK210.out 3).trans rfl; have hcz24_4 : w8.cell? ⟨gb210, 4, none⟩ = some (.bool a0_4) := (blk_cell BK210.out 4).trans rfl; have hcz24_5 : w8.cell? ⟨gb210, 5, none⟩ = some (.int .i64 a0_5) := (blk_cell BK210.out 5).trans rfl; have hcz24_6 : w8.cell? ⟨gb210, 6, none⟩ = some (.int .i64 a0_6) := (blk_cell BK210.out 6).trans rfl; have hcz24_7 : w8.cell? ⟨gb210, 7, none⟩ = some (.int .i64 a0_7) := (blk_cell BK210.out 7).trans rfl; have hcz24_8 : w8.cell? ⟨gb210, 8, none⟩ = some (.slice A0_8 l0_8.length c0_8) := (blk_cell BK210.out 8).trans rfl; have hcz24_9 : w8.cell? ⟨gb210, 9, none⟩ = some (.slice (some ad211) l0_9.length c0_9) := (blk_cell BK210.out 9).trans rfl; have hcz24_10 : w8.cell? ⟨gb210, 10, none⟩ = some (.slice A0_10 l0_10.length c0_10) := (blk_cell BK210.out 10).trans rfl; have hcz24_11 : w8.cell? ⟨gb210, 11, none⟩ = some (.string a0_11) := (blk_cell BK210.out 11).trans rfl; have hcz24_12 : w8.cell? ⟨gb210, 12, none⟩ = some (.slice A0_12 l0_12.length c0_12) := (blk_cell BK210.out 12).trans rfl; have hfz24_0 := blk_frozen BK210.out 0; have hfz24_1 := blk_frozen BK210.out 1; have hfz24_2 := blk_frozen BK210.out 2; have hfz24_3 := blk_frozen BK210.out 3; have hfz24_4 := blk_frozen BK210.out 4; have hfz24_5 := blk_frozen BK210.out 5; have hfz24_6 := blk_frozen BK210.out 6; have hfz24_7 := blk_frozen BK210.out 7; have hfz24_8 := blk_frozen BK210.out 8; have hfz24_9 := blk_frozen BK210.out 9; have hfz24_10 := blk_frozen BK210.out 10; have hfz24_11 := blk_frozen BK210.out 11; have hfz24_12 := blk_frozen BK210.out 12; have p214 : 0 ≤ ((ji14) : Int) := of_decide_eq_true (by first | (with_reducible assumption) | assumption); have q214 : (ji14) < (l0_9.length : Int) := of_decide_eq_true (by first | (with_reducible assumption) | assumption); obtain ⟨ad214, e214, hx214_0, hx214_1, hx214_2⟩ := at_T43 HR0_9.out (ji14) p214 q214; obtain rfl : ad211 = ad214 := (by injection e214); have hn214_0 : ad211.block ≠ gb212 := Nat.ne_of_lt (Nat.lt_of_lt_of_le (by have := World.block_lt_of_cell? _ _ hx214_0; first | rwa [add_block] at this | exact this) GW212.out); have hn214_1 : ad211.block ≠ gb212 := Nat.ne_of_lt (Nat.lt_of_lt_of_le (by have := World.block_lt_of_cell? _ _ hx214_0; first | rwa [add_block] at this | exact this) GW212.out); have hn214_2 : ad211.block ≠ gb212 := Nat.ne_of_lt (Nat.lt_of_lt_of_le (by have := World.block_lt_of_cell? _ _ hx214_0; first | rwa [add_block] at this | exact this) GW212.out); replace hx214_0 := (HB.out.cell (World.block_lt_of_cell? w _ hx214_0)).trans hx214_0; replace hx214_1 := (HB.out.cell (World.block_lt_of_cell? w _ hx214_1)).trans hx214_1; replace hx214_2 := (HB.out.cell (World.block_lt_of_cell? w _ hx214_2)).trans hx214_2; replace hx214_0 := (cell_far (p := ⟨gb212, 0, none⟩) (by first | (rw [add_block]; exact hn214_0) | (show (Addr.add _ _).block ≠ _; rw [add_block]; exact hn214_0) | exact hn214_0) (.int .i64 ((rd_T43 l0_9 x13_1).f0))).trans hx214_0; replace hx214_1 := (cell_far (p := ⟨gb212, 0, none⟩) (by first | (rw [add_block]; exact hn214_0) | (show (Addr.add _ _).block ≠ _; rw [add_block]; exact hn214_0) | exact hn214_0) (.int .i64 ((rd_T43 l0_9 x13_1).f0))).trans hx214_1; replace hx214_2 := (cell_far (p := ⟨gb212, 0, none⟩) (by first | (rw [add_block]; exact hn214_0) | (show (Addr.add _ _).block ≠ _; rw [add_block]; exact hn214_0) | exact hn214_0) (.int .i64 ((rd_T43 l0_9 x13_1).f0))).trans hx214_2; replace hx214_0 := (cell_far (p := ⟨gb212, 1, none⟩) (by first | (rw [add_block]; exact hn214_1) | (show (Addr.add _ _).block ≠ _; rw [add_block]; exact hn214_1) | exact hn214_1) (.int .i64 ((rd_T43 l0_9 x13_1).f1))).trans hx214_0; replace hx214_1 := (cell_far (p := ⟨gb212, 1, none⟩) (by first | (rw [add_block]; exact hn214_1) | (show (Addr.add _ _).block ≠ _; rw [add_block]; exact hn214_1) | exact hn214_1) (.int .i64 ((rd_T43 l0_9 x13_1).f1))).trans hx214_1; replace hx214_2 := (cell_far (p := ⟨gb212, 1, none⟩) (by first | (rw [add_block]; exact hn214_1) | (show (Addr.add _ _).block ≠ _; rw [add_block]; exact hn214_1) | exact hn214_1) (.int .i64 ((rd_T43 l0_9 x13_1).f1))).trans hx214_2; replace hx214_0 := (cell_far (p := ⟨gb212, 2, none⟩) (by first | (rw [add_block]; exact hn214_2) | (show (Addr.add _ _).block ≠ _; rw [add_block]; exact hn214_2) | exact hn214_2) (.int .i64 ((rd_T43 l0_9 x13_1).f2))).trans hx214_0; replace hx214_1 := (cell_far (p := ⟨gb212, 2, none⟩) (by first | (rw [add_block]; exact hn214_2) | (show (Addr.add _ _).block ≠ _; rw [add_block]; exact hn214_2) | exact hn214_2) (.int .i64 ((rd_T43 l0_9 x13_1).f2))).trans hx214_1; replace hx214_2 := (cell_far (p := ⟨gb212, 2, none⟩) (by first | (rw [add_block]; exact hn214_2) | (show (Addr.add _ _).block ≠ _; rw [add_block]; exact hn214_2) | exact hn214_2) (.int .i64 ((rd_T43 l0_9 x13_1).f2))).trans hx214_2; (try have hy214_0 := fun (n_ : Nat) => (show (((((w8.drewN n_).setCell ⟨gb212, 0, none⟩ (.int .i64 ((rd_T43 l0_9 x13_1).f0))).setCell ⟨gb212, 1, none⟩ (.int .i64 ((rd_T43 l0_9 x13_1).f1))).setCell ⟨gb212, 2, none⟩ (.int .i64 ((rd_T43 l0_9 x13_1).f2)))).cell? _ = some _ from hx214_0)); (try have hy214_1 := fun (n_ : Nat) => (show (((((w8.drewN n_).setCell ⟨gb212, 0, none⟩ (.int .i64 ((rd_T43 l0_9 x13_1).f0))).setCell ⟨gb212, 1, none⟩ (.int .i64 ((rd_T43 l0_9 x13_1).f1))).setCell ⟨gb212, 2, none⟩ (.int .i64 ((rd_T43 l0_9 x13_1).f2)))).cell? _ = some _ from hx214_1)); (try have hy214_2 := fun (n_ : Nat) => (show (((((w8.drewN n_).setCell ⟨gb212, 0, none⟩ (.int .i64 ((rd_T43 l0_9 x13_1).f0))).setCell ⟨gb212, 1, none⟩ (.int .i64 ((rd_T43 l0_9 x13_1).f1))).setCell ⟨gb212, 2, none⟩ (.int .i64 ((rd_T43 l0_9 x13_1).f2)))).cell? _ = some _ from hx214_2)); clear hn214_0; clear hn214_1; clear hn214_2; replace p214 := eq_true p214; replace q214 := eq_true q214) | (go_at_call 51; (with_reducible refine (meeting_within.calls ((rd_T43 l0_9 x13_1).f1) 0 1000 t215 _ A21.out).mono ?_); rintro e w' ⟨rfl, ⟨nd, rfl⟩⟩; (try first | exact ⟨rfl, _, World.drewN_drewN _ _ _⟩ | exact ⟨rfl, _, Eq.trans (World.drewN_drewN _ _ _) (congrArg (World.drewN _) (Nat.add_assoc _ _ _))⟩)))
            repeat (go_quiet (first | (go_at_call 51; (with_reducible refine (meeting_within.calls ((rd_T43 l0_9 x13_1).f0) 1 64 true _ A11.out).mono ?_); rintro e w' ⟨rfl, ⟨nd, rfl⟩⟩; (try first | exact ⟨rfl, _, World.drewN_drewN _ _ _⟩ | exact ⟨rfl, _, Eq.trans (World.drewN_drewN _ _ _) (congrArg (World.drewN _) (Nat.add_assoc _ _ _))⟩); have hcz24_0 : w8.cell? ⟨gb210, 0, none⟩ = some (.int .i64 a0_0) := (blk_cell BK210.out 0).trans rfl; have hcz24_1 : w8.cell? ⟨gb210, 1, none⟩ = some (.int .i64 a0_1) := (blk_cell BK210.out 1).trans rfl; have hcz24_2 : w8.cell? ⟨gb210, 2, none⟩ = some (.int .i64 a0_2) := (blk_cell BK210.out 2).trans rfl; have hcz24_3 : w8.cell? ⟨gb210, 3, none⟩ = some (.int .i64 a0_3) := (blk_cell BK210.out 3).trans rfl; have hcz24_4 : w8.cell? ⟨gb210, 4, none⟩ = some (.bool a0_4) := (blk_cell BK210.out 4).trans rfl; have hcz24_5 : w8.cell? ⟨gb210, 5, none⟩ = some (.int .i64 a0_5) := (blk_cell BK210.out 5).trans rfl; have hcz24_6 : w8.cell? ⟨gb210, 6, none⟩ = some (.int .i64 a0_6) := (blk_cell BK210.out 6).trans rfl; have hcz24_7 : w8.cell? ⟨gb210, 7, none⟩ = some (.int .i64 a0_7) := (blk_cell BK210.out 7).trans rfl; have hcz24_8 : w8.cell? ⟨gb210, 8, none⟩ = some (.slice A0_8 l0_8.length c0_8) := (blk_cell BK210.out 8).trans rfl; have hcz24_9 : w8.cell? ⟨gb210, 9, none⟩ = some (.slice (some ad211) l0_9.length c0_9) := (blk_cell BK210.out 9).trans rfl; have hcz24_10 : w8.cell? ⟨gb210, 10, none⟩ = some (.slice A0_10 l0_10.length c0_10) := (blk_cell BK210.out 10).trans rfl; have hcz24_11 : w8.cell? ⟨gb210, 11, none⟩ = some (.string a0_11) := (blk_cell BK210.out 11).trans rfl; have hcz24_12 : w8.cell? ⟨gb210, 12, none⟩ = some (.slice A0_12 l0_12.length c0_12) := (blk_cell BK210.out 12).trans rfl; have hfz24_0 := blk_frozen BK210.out 0; have hfz24_1 := blk_frozen BK210.out 1; have hfz24_2 := blk_frozen BK210.out 2; have hfz24_3 := blk_frozen BK210.out 3; have hfz24_4 := blk_frozen BK210.out 4; have hfz24_5 := blk_frozen BK210.out 5; have hfz24_6 := blk_frozen BK210.out 6; have hfz24_7 := blk_frozen BK210.out 7; have hfz24_8 := blk_frozen BK210.out 8; have hfz24_9 := blk_frozen BK210.out 9; have hfz24_10 := blk_frozen BK210.out 10; have hfz24_11 := blk_frozen BK210.out 11; have hfz24_12 := blk_frozen BK210.out 12; have p214 : 0 ≤ ((ji14) : Int) := of_decide_eq_true (by first | (with_reducible assumption) | assumption); have q214 : (ji14) < (l0_9.length : Int) := of_decide_eq_true (by first | (with_reducible assumption) | assumption); obtain ⟨ad214, e214, hx214_0, hx214_1, hx214_2⟩ := at_T43 HR0_9.out (ji14) p214 q214; obtain rfl : ad211 = ad214 := (by injection e214); have hn214_0 : ad211.block ≠ gb212 := Nat.ne_of_lt (Nat.lt_of_lt_of_le (by have := World.block_lt_of_cell? _ _ hx214_0; first | rwa [add_block] at this | exact this) GW212.out); have hn214_1 : ad211.block ≠ gb212 := Nat.ne_of_lt (Nat.lt_of_lt_of_le (by have := World.block_lt_of_cell? _ _ hx214_0; first | rwa [add_block] at this | exact this) GW212.out); have hn214_2 : ad211.block ≠ gb212 := Nat.ne_of_lt (Nat.lt_of_lt_of_le (by have := World.block_lt_of_cell? _ _ hx214_0; first | rwa [add_block] at this | exact this) GW212.out); replace hx214_0 := (HB.out.cell (World.block_lt_of_cell? w _ hx214_0)).trans hx214_0; replace hx214_1 := (HB.out.cell (World.block_lt_of_cell? w _ hx214_1)).trans hx214_1; replace hx214_2 := (HB.out.cell (World.block_lt_of_cell? w _ hx214_2)).trans hx214_2; replace hx214_0 := (cell_far (p := ⟨gb212, 0, none⟩) (by first | (rw [add_block]; exact hn214_0) | (show (Addr.add _ _).block ≠ _; rw [add_block]; exact hn214_0) | exact hn214_0) (.int .i64 ((rd_T43 l0_9 x13_1).f0))).trans hx214_0; replace hx214_1 := (cell_far (p := ⟨gb212, 0, none⟩) (by first | (rw [add_block]; exact hn214_0) | (show (Addr.add _ _).block ≠ _; rw [add_block]; exact hn214_0) | exact hn214_0) (.int .i64 ((rd_T43 l0_9 x13_1).f0))).trans hx214_1; replace hx214_2 := (cell_far (p := ⟨gb212, 0, none⟩) (by first | (rw [add_block]; exact hn214_0) | (show (Addr.add _ _).block ≠ _; rw [add_block]; exact hn214_0) | exact hn214_0) (.int .i64 ((rd_T43 l0_9 x13_1).f0))).trans hx214_2; replace hx214_0 := (cell_far (p := ⟨gb212, 1, none⟩) (by first | (rw [add_block]; exact hn214_1) | (show (Addr.add _ _).block ≠ _; rw [add_block]; exact hn214_1) | exact hn214_1) (.int .i64 ((rd_T43 l0_9 x13_1).f1))).trans hx214_0; replace hx214_1 := (cell_far (p := ⟨gb212, 1, none⟩) (by first | (rw [add_block]; exact hn214_1) | (show (Addr.add _ _).block ≠ _; rw [add_block]; exact hn214_1) | exact hn214_1) (.int .i64 ((rd_T43 l0_9 x13_1).f1))).trans hx214_1; replace hx214_2 := (cell_far (p := ⟨gb212, 1, none⟩) (by first | (rw [add_block]; exact hn214_1) | (show (Addr.add _ _).block ≠ _; rw [add_block]; exact hn214_1) | exact hn214_1) (.int .i64 ((rd_T43 l0_9 x13_1).f1))).trans hx214_2; replace hx214_0 := (cell_far (p := ⟨gb212, 2, none⟩) (by first | (rw [add_block]; exact hn214_2) | (show (Addr.add _ _).block ≠ _; rw [add_block]; exact hn214_2) | exact hn214_2) (.int .i64 ((rd_T43 l0_9 x13_1).f2))).trans hx214_0; replace hx214_1 := (cell_far (p := ⟨gb212, 2, none⟩) (by first | (rw [add_block]; exact hn214_2) | (show (Addr.add _ _).block ≠ _; rw [add_block]; exact hn214_2) | exact hn214_2) (.int .i64 ((rd_T43 l0_9 x13_1).f2))).trans hx214_1; replace hx214_2 := (cell_far (p := ⟨gb212, 2, none⟩) (by first | (rw [add_block]; exact hn214_2) | (show (Addr.add _ _).block ≠ _; rw [add_block]; exact hn214_2) | exact hn214_2) (.int .i64 ((rd_T43 l0_9 x13_1).f2))).trans hx214_2; (try have hy214_0 := fun (n_ : Nat) => (show (((((w8.drewN n_).setCell ⟨gb212, 0, none⟩ (.int .i64 ((rd_T43 l0_9 x13_1).f0))).setCell ⟨gb212, 1, none⟩ (.int .i64 ((rd_T43 l0_9 x13_1).f1))).setCell ⟨gb212, 2, none⟩ (.int .i64 ((rd_T43 l0_9 x13_1).f2)))).cell? _ = some _ from hx214_0)); (try have hy214_1 := fun (n_ : Nat) => (show (((((w8.drewN n_).setCell ⟨gb212, 0, none⟩ (.int .i64 ((rd_T43 l0_9 x13_1).f0))).setCell ⟨gb212, 1, none⟩ (.int .i64 ((rd_T43 l0_9 x13_1).f1))).setCell ⟨gb212, 2, none⟩ (.int .i64 ((rd_T43 l0_9 x13_1).f2)))).cell? _ = some _ from hx214_1)); (try have hy214_2 := fun (n_ : Nat) => (show (((((w8.drewN n_).setCell ⟨gb212, 0, none⟩ (.int .i64 ((rd_T43 l0_9 x13_1).f0))).setCell ⟨gb212, 1, none⟩ (.int .i64 ((rd_T43 l0_9 x13_1).f1))).setCell ⟨gb212, 2, none⟩ (.int .i64 ((rd_T43 l0_9 x13_1).f2)))).cell? _ = some _ from hx214_2)); clear hn214_0; clear hn214_1; clear hn214_2; replace p214 := eq_true p214; replace q214 := eq_true q214) | (go_at_call 51; (with_reducible refine (meeting_within.calls ((rd_T43 l0_9 x13_1).f1) 0 1000 t215 _ A21.out).mono ?_); rintro e w' ⟨rfl, ⟨nd, rfl⟩⟩; (try first | exact ⟨rfl, _, World.drewN_drewN _ _ _⟩ | exact ⟨rfl, _, Eq.trans (World.drewN_drewN _ _ _) (congrArg (World.drewN _) (Nat.add_assoc _ _ _))⟩))); try go_wp2_with (first | (go_at_call 51; (with_reducible refine (meeting_within.calls ((rd_T43 l0_9 x13_1).f0) 1 64 true _ A11.out).mono ?_); rintro e w' ⟨rfl, ⟨nd, rfl⟩⟩; (try first | exact ⟨rfl, _, World.drewN_drewN _ _ _⟩ | exact ⟨rfl, _, Eq.trans (World.drewN_drewN _ _ _) (congrArg (World.drewN _) (Nat.add_assoc _ _ _))⟩); have hcz24_0 : w8.cell? ⟨gb210, 0, none⟩ = some (.int .i64 a0_0) := (blk_cell BK210.out 0).trans rfl; have hcz24_1 : w8.cell? ⟨gb210, 1, none⟩ = some (.int .i64 a0_1) := (blk_cell BK210.out 1).trans rfl; have hcz24_2 : w8.cell? ⟨gb210, 2, none⟩ = some (.int .i64 a0_2) := (blk_cell BK210.out 2).trans rfl; have hcz24_3 : w8.cell? ⟨gb210, 3, none⟩ = some (.int .i64 a0_3) := (blk_cell BK210.out 3).trans rfl; have hcz24_4 : w8.cell? ⟨gb210, 4, none⟩ = some (.bool a0_4) := (blk_cell BK210.out 4).trans rfl; have hcz24_5 : w8.cell? ⟨gb210, 5, none⟩ = some (.int .i64 a0_5) := (blk_cell BK210.out 5).trans rfl; have hcz24_6 : w8.cell? ⟨gb210, 6, none⟩ = some (.int .i64 a0_6) := (blk_cell BK210.out 6).trans rfl; have hcz24_7 : w8.cell? ⟨gb210, 7, none⟩ = some (.int .i64 a0_7) := (blk_cell BK210.out 7).trans rfl; have hcz24_8 : w8.cell? ⟨gb210, 8, none⟩ = some (.slice A0_8 l0_8.length c0_8) := (blk_cell BK210.out 8).trans rfl; have hcz24_9 : w8.cell? ⟨gb210, 9, none⟩ = some (.slice (some ad211) l0_9.length c0_9) := (blk_cell BK210.out 9).trans rfl; have hcz24_10 : w8.cell? ⟨gb210, 10, none⟩ = some (.slice A0_10 l0_10.length c0_10) := (blk_cell BK210.out 10).trans rfl; have hcz24_11 : w8.cell? ⟨gb210, 11, none⟩ = some (.string a0_11) := (blk_cell BK210.out 11).trans rfl; have hcz24_12 : w8.cell? ⟨gb210, 12, none⟩ = some (.slice A0_12 l0_12.length c0_12) := (blk_cell BK210.out 12).trans rfl; have hfz24_0 := blk_frozen BK210.out 0; have hfz24_1 := blk_frozen BK210.out 1; have hfz24_2 := blk_frozen BK210.out 2; have hfz24_3 := blk_frozen BK210.out 3; have hfz24_4 := blk_frozen BK210.out 4; have hfz24_5 := blk_frozen BK210.out 5; have hfz24_6 := blk_frozen BK210.out 6; have hfz24_7 := blk_frozen BK210.out 7; have hfz24_8 := blk_frozen BK210.out 8; have hfz24_9 := blk_frozen BK210.out 9; have hfz24_10 := blk_frozen BK210.out 10; have hfz24_11 := blk_frozen BK210.out 11; have hfz24_12 := blk_frozen BK210.out 12; have p214 : 0 ≤ ((ji14) : Int) := of_decide_eq_true (by first | (with_reducible assumption) | assumption); have q214 : (ji14) < (l0_9.length : Int) := of_decide_eq_true (by first | (with_reducible assumption) | assumption); obtain ⟨ad214, e214, hx214_0, hx214_1, hx214_2⟩ := at_T43 HR0_9.out (ji14) p214 q214; obtain rfl : ad211 = ad214 := (by injection e214); have hn214_0 : ad211.block ≠ gb212 := Nat.ne_of_lt (Nat.lt_of_lt_of_le (by have := World.block_lt_of_cell? _ _ hx214_0; first | rwa [add_block] at this | exact this) GW212.out); have hn214_1 : ad211.block ≠ gb212 := Nat.ne_of_lt (Nat.lt_of_lt_of_le (by have := World.block_lt_of_cell? _ _ hx214_0; first | rwa [add_block] at this | exact this) GW212.out); have hn214_2 : ad211.block ≠ gb212 := Nat.ne_of_lt (Nat.lt_of_lt_of_le (by have := World.block_lt_of_cell? _ _ hx214_0; first | rwa [add_block] at this | exact this) GW212.out); replace hx214_0 := (HB.out.cell (World.block_lt_of_cell? w _ hx214_0)).trans hx214_0; replace hx214_1 := (HB.out.cell (World.block_lt_of_cell? w _ hx214_1)).trans hx214_1; replace hx214_2 := (HB.out.cell (World.block_lt_of_cell? w _ hx214_2)).trans hx214_2; replace hx214_0 := (cell_far (p := ⟨gb212, 0, none⟩) (by first | (rw [add_block]; exact hn214_0) | (show (Addr.add _ _).block ≠ _; rw [add_block]; exact hn214_0) | exact hn214_0) (.int .i64 ((rd_T43 l0_9 x13_1).f0))).trans hx214_0; replace hx214_1 := (cell_far (p := ⟨gb212, 0, none⟩) (by first | (rw [add_block]; exact hn214_0) | (show (Addr.add _ _).block ≠ _; rw [add_block]; exact hn214_0) | exact hn214_0) (.int .i64 ((rd_T43 l0_9 x13_1).f0))).trans hx214_1; replace hx214_2 := (cell_far (p := ⟨gb212, 0, none⟩) (by first | (rw [add_block]; exact hn214_0) | (show (Addr.add _ _).block ≠ _; rw [add_block]; exact hn214_0) | exact hn214_0) (.int .i64 ((rd_T43 l0_9 x13_1).f0))).trans hx214_2; replace hx214_0 := (cell_far (p := ⟨gb212, 1, none⟩) (by first | (rw [add_block]; exact hn214_1) | (show (Addr.add _ _).block ≠ _; rw [add_block]; exact hn214_1) | exact hn214_1) (.int .i64 ((rd_T43 l0_9 x13_1).f1))).trans hx214_0; replace hx214_1 := (cell_far (p := ⟨gb212, 1, none⟩) (by first | (rw [add_block]; exact hn214_1) | (show (Addr.add _ _).block ≠ _; rw [add_block]; exact hn214_1) | exact hn214_1) (.int .i64 ((rd_T43 l0_9 x13_1).f1))).trans hx214_1; replace hx214_2 := (cell_far (p := ⟨gb212, 1, none⟩) (by first | (rw [add_block]; exact hn214_1) | (show (Addr.add _ _).block ≠ _; rw [add_block]; exact hn214_1) | exact hn214_1) (.int .i64 ((rd_T43 l0_9 x13_1).f1))).trans hx214_2; replace hx214_0 := (cell_far (p := ⟨gb212, 2, none⟩) (by first | (rw [add_block]; exact hn214_2) | (show (Addr.add _ _).block ≠ _; rw [add_block]; exact hn214_2) | exact hn214_2) (.int .i64 ((rd_T43 l0_9 x13_1).f2))).trans hx214_0; replace hx214_1 := (cell_far (p := ⟨gb212, 2, none⟩) (by first | (rw [add_block]; exact hn214_2) | (show (Addr.add _ _).block ≠ _; rw [add_block]; exact hn214_2) | exact hn214_2) (.int .i64 ((rd_T43 l0_9 x13_1).f2))).trans hx214_1; replace hx214_2 := (cell_far (p := ⟨gb212, 2, none⟩) (by first | (rw [add_block]; exact hn214_2) | (show (Addr.add _ _).block ≠ _; rw [add_block]; exact hn214_2) | exact hn214_2) (.int .i64 ((rd_T43 l0_9 x13_1).f2))).trans hx214_2; (try have hy214_0 := fun (n_ : Nat) => (show (((((w8.drewN n_).setCell ⟨gb212, 0, none⟩ (.int .i64 ((rd_T43 l0_9 x13_1).f0))).setCell ⟨gb212, 1, none⟩ (.int .i64 ((rd_T43 l0_9 x13_1).f1))).setCell ⟨gb212, 2, none⟩ (.int .i64 ((rd_T43 l0_9 x13_1).f2)))).cell? _ = some _ from hx214_0)); (try have hy214_1 := fun (n_ : Nat) => (show (((((w8.drewN n_).setCell ⟨gb212, 0, none⟩ (.int .i64 ((rd_T43 l0_9 x13_1).f0))).setCell ⟨gb212, 1, none⟩ (.int .i64 ((rd_T43 l0_9 x13_1).f1))).setCell ⟨gb212, 2, none⟩ (.int .i64 ((rd_T43 l0_9 x13_1).f2)))).cell? _ = some _ from hx214_1)); (try have hy214_2 := fun (n_ : Nat) => (show (((((w8.drewN n_).setCell ⟨gb212, 0, none⟩ (.int .i64 ((rd_T43 l0_9 x13_1).f0))).setCell ⟨gb212, 1, none⟩ (.int .i64 ((rd_T43 l0_9 x13_1).f1))).setCell ⟨gb212, 2, none⟩ (.int .i64 ((rd_T43 l0_9 x13_1).f2)))).cell? _ = some _ from hx214_2)); clear hn214_0; clear hn214_1; clear hn214_2; replace p214 := eq_true p214; replace q214 := eq_true q214) | (go_at_call 51; (with_reducible refine (meeting_within.calls ((rd_T43 l0_9 x13_1).f1) 0 1000 t215 _ A21.out).mono ?_); rintro e w' ⟨rfl, ⟨nd, rfl⟩⟩; (try first | exact ⟨rfl, _, World.drewN_drewN _ _ _⟩ | exact ⟨rfl, _, Eq.trans (World.drewN_drewN _ _ _) (congrArg (World.drewN _) (Nat.add_assoc _ _ _))⟩))))
            go_meet
            case rel => exact ⟨_, (!t215), (by first | rfl | (simp; done) | (simp [*]; done)), H', ⟨by have := HK1.out; first | omega | exact Nat.le_refl _⟩, ⟨by (with_reducible repeat (first | refine blk_drewN ?_ _ | refine blk_drew ?_ | refine blk_alloc ?_ _)); refine blk_far ?_ NB210_212.out _; (with_reducible repeat (first | refine blk_drewN ?_ _ | refine blk_drew ?_ | refine blk_alloc ?_ _)); refine blk_far ?_ NB210_212.out _; (with_reducible repeat (first | refine blk_drewN ?_ _ | refine blk_drew ?_ | refine blk_alloc ?_ _)); refine blk_far ?_ NB210_212.out _; (with_reducible repeat (first | refine blk_drewN ?_ _ | refine blk_drew ?_ | refine blk_alloc ?_ _)); exact BK210.out⟩, ⟨by (with_reducible repeat (first | refine blk_drewN ?_ _ | refine blk_drew ?_ | refine blk_alloc ?_ _)); refine blk_put (cs := #[.int .i64 ((rd_T43 l0_9 x13_1).f0), .int .i64 ((rd_T43 l0_9 x13_1).f1), .int .i64 0]) ?_ 2 _ rfl; (with_reducible repeat (first | refine blk_drewN ?_ _ | refine blk_drew ?_ | refine blk_alloc ?_ _)); refine blk_put (cs := #[.int .i64 ((rd_T43 l0_9 x13_1).f0), .int .i64 0, .int .i64 0]) ?_ 1 _ rfl; (with_reducible repeat (first | refine blk_drewN ?_ _ | refine blk_drew ?_ | refine blk_alloc ?_ _)); refine blk_put (cs := #[.int .i64 0, .int .i64 0, .int .i64 0]) ?_ 0 _ rfl; (with_reducible repeat (first | refine blk_drewN ?_ _ | refine blk_drew ?_ | refine blk_alloc ?_ _)); exact BK212.out⟩, ⟨by repeat (first | (with_reducible first | exact HB.out | apply below_alloc | apply pw_below_drewN | apply below_drew1 | refine below_set ?_ GE210.out | refine below_set ?_ GE212.out) | exact HB.out)⟩⟩
          ·rw [if_neg c16] at H
           exact absurd H (by simp)
         ·rw [if_neg c15] at H
          exact absurd H (by simp)
        ·rw [if_neg c13] at H
         have c13b0 : decide (0 < x13_1) = false := decide_eq_false c13
         clear c13
         (first | rw [c13b0] | (simp only [i64_w, i32_w]; rw [c13b0]) | skip)
         replace H := Option.bind_eq_some_iff.mp H
         obtain ⟨t216, A250, H⟩ := H
         replace H : (meeting_hall_validVoters.j1 k1 l0_9 (l0_9.length : Int) x13_1 (!t216) a0_0 a0_1 a0_2 a0_3 a0_4 a0_5 a0_6 a0_7 l0_8 l0_9 l0_10 a0_11 l0_12) = some r := H
         have A25 := Aside0.mk A250
         clear A250
         have H' := Aside0.mk H
         clear H
         have hnb26 := NB212_210.out
         have hnc26 := NB210_212.out
         have hcz27_0 : w8.cell? ⟨gb212, 0, none⟩ = some (.int .i64 0) := (blk_cell BK212.out 0).trans rfl
         have hcz27_1 : w8.cell? ⟨gb212, 1, none⟩ = some (.int .i64 0) := (blk_cell BK212.out 1).trans rfl
         have hcz27_2 : w8.cell? ⟨gb212, 2, none⟩ = some (.int .i64 0) := (blk_cell BK212.out 2).trans rfl
         have hfz27_0 := blk_frozen BK212.out 0
         have hfz27_1 := blk_frozen BK212.out 1
         have hfz27_2 := blk_frozen BK212.out 2
         go_wp2_with (first | (go_at_call 51; (with_reducible refine (meeting_within.calls ((rd_T43 l0_9 x13_1).f0) 1 64 true _ A11.out).mono ?_); rintro e w' ⟨rfl, ⟨nd, rfl⟩⟩; (try first | exact ⟨rfl, _, World.drewN_drewN _ _ _⟩ | exact ⟨rfl, _, Eq.trans (World.drewN_drewN _ _ _) (congrArg (World.drewN _) (Nat.add_assoc _ _ _))⟩)) | (go_at_call 51; (with_reducible refine (meeting_within.calls ((rd_T43 l0_9 x13_1).f1) 0 1000 t216 _ A25.out).mono ?_); rintro e w' ⟨rfl, ⟨nd, rfl⟩⟩; (try first | exact ⟨rfl, _, World.drewN_drewN _ _ _⟩ | exact ⟨rfl, _, Eq.trans (World.drewN_drewN _ _ _) (congrArg (World.drewN _) (Nat.add_assoc _ _ _))⟩)))
         repeat (go_quiet (first | (go_at_call 51; (with_reducible refine (meeting_within.calls ((rd_T43 l0_9 x13_1).f0) 1 64 true _ A11.out).mono ?_); rintro e w' ⟨rfl, ⟨nd, rfl⟩⟩; (try first | exact ⟨rfl, _, World.drewN_drewN _ _ _⟩ | exact ⟨rfl, _, Eq.trans (World.drewN_drewN _ _ _) (congrArg (World.drewN _) (Nat.add_assoc _ _ _))⟩)) | (go_at_call 51; (with_reducible refine (meeting_within.calls ((rd_T43 l0_9 x13_1).f1) 0 1000 t216 _ A25.out).mono ?_); rintro e w' ⟨rfl, ⟨nd, rfl⟩⟩; (try first | exact ⟨rfl, _, World.drewN_drewN _ _ _⟩ | exact ⟨rfl, _, Eq.trans (World.drewN_drewN _ _ _) (congrArg (World.drewN _) (Nat.add_assoc _ _ _))⟩))); try go_wp2_with (first | (go_at_call 51; (with_reducible refine (meeting_within.calls ((rd_T43 l0_9 x13_1).f0) 1 64 true _ A11.out).mono ?_); rintro e w' ⟨rfl, ⟨nd, rfl⟩⟩; (try first | exact ⟨rfl, _, World.drewN_drewN _ _ _⟩ | exact ⟨rfl, _, Eq.trans (World.drewN_drewN _ _ _) (congrArg (World.drewN _) (Nat.add_assoc _ _ _))⟩)) | (go_at_call 51; (with_reducible refine (meeting_within.calls ((rd_T43 l0_9 x13_1).f1) 0 1000 t216 _ A25.out).mono ?_); rintro e w' ⟨rfl, ⟨nd, rfl⟩⟩; (try first | exact ⟨rfl, _, World.drewN_drewN _ _ _⟩ | exact ⟨rfl, _, Eq.trans (World.drewN_drewN _ _ _) (congrArg (World.drewN _) (Nat.add_assoc _ _ _))⟩))))
         go_meet
         case rel => exact ⟨_, (!t216), (by first | rfl | (simp; done) | (simp [*]; done)), H', ⟨by have := HK1.out; first | omega | exact Nat.le_refl _⟩, ⟨by (with_reducible repeat (first | refine blk_drewN ?_ _ | refine blk_drew ?_ | refine blk_alloc ?_ _)); refine blk_far ?_ NB210_212.out _; (with_reducible repeat (first | refine blk_drewN ?_ _ | refine blk_drew ?_ | refine blk_alloc ?_ _)); refine blk_far ?_ NB210_212.out _; (with_reducible repeat (first | refine blk_drewN ?_ _ | refine blk_drew ?_ | refine blk_alloc ?_ _)); refine blk_far ?_ NB210_212.out _; (with_reducible repeat (first | refine blk_drewN ?_ _ | refine blk_drew ?_ | refine blk_alloc ?_ _)); exact BK210.out⟩, ⟨by (with_reducible repeat (first | refine blk_drewN ?_ _ | refine blk_drew ?_ | refine blk_alloc ?_ _)); refine blk_put (cs := #[.int .i64 ((rd_T43 l0_9 x13_1).f0), .int .i64 ((rd_T43 l0_9 x13_1).f1), .int .i64 0]) ?_ 2 _ rfl; (with_reducible repeat (first | refine blk_drewN ?_ _ | refine blk_drew ?_ | refine blk_alloc ?_ _)); refine blk_put (cs := #[.int .i64 ((rd_T43 l0_9 x13_1).f0), .int .i64 0, .int .i64 0]) ?_ 1 _ rfl; (with_reducible repeat (first | refine blk_drewN ?_ _ | refine blk_drew ?_ | refine blk_alloc ?_ _)); refine blk_put (cs := #[.int .i64 0, .int .i64 0, .int .i64 0]) ?_ 0 _ rfl; (with_reducible repeat (first | refine blk_drewN ?_ _ | refine blk_drew ?_ | refine blk_alloc ?_ _)); exact BK212.out⟩, ⟨by repeat (first | (with_reducible first | exact HB.out | apply below_alloc | apply pw_below_drewN | apply below_drew1 | refine below_set ?_ GE210.out | refine below_set ?_ GE212.out) | exact HB.out)⟩⟩
       ·replace c12 := Bool.eq_false_iff.mpr c12
        subst c12
        have H1 : (meeting_hall_validVoters.j1 k1 l0_9 (l0_9.length : Int) x13_1 true a0_0 a0_1 a0_2 a0_3 a0_4 a0_5 a0_6 a0_7 l0_8 l0_9 l0_10 a0_11 l0_12) = some r := by rw [if_neg (show ¬ (false = true) by decide)] at H; exact H
        clear H
        have H := H1
        clear H1
        have H' := Aside0.mk H
        clear H
        have hnb28 := NB212_210.out
        have hnc28 := NB210_212.out
        have hcz29_0 : w8.cell? ⟨gb212, 0, none⟩ = some (.int .i64 0) := (blk_cell BK212.out 0).trans rfl
        have hcz29_1 : w8.cell? ⟨gb212, 1, none⟩ = some (.int .i64 0) := (blk_cell BK212.out 1).trans rfl
        have hcz29_2 : w8.cell? ⟨gb212, 2, none⟩ = some (.int .i64 0) := (blk_cell BK212.out 2).trans rfl
        have hfz29_0 := blk_frozen BK212.out 0
        have hfz29_1 := blk_frozen BK212.out 1
        have hfz29_2 := blk_frozen BK212.out 2
        go_wp2_with (first | (go_at_call 51; (with_reducible refine (meeting_within.calls ((rd_T43 l0_9 x13_1).f0) 1 64 false _ A11.out).mono ?_); rintro e w' ⟨rfl, ⟨nd, rfl⟩⟩; (try first | exact ⟨rfl, _, World.drewN_drewN _ _ _⟩ | exact ⟨rfl, _, Eq.trans (World.drewN_drewN _ _ _) (congrArg (World.drewN _) (Nat.add_assoc _ _ _))⟩)))
        repeat (go_quiet (first | (go_at_call 51; (with_reducible refine (meeting_within.calls ((rd_T43 l0_9 x13_1).f0) 1 64 false _ A11.out).mono ?_); rintro e w' ⟨rfl, ⟨nd, rfl⟩⟩; (try first | exact ⟨rfl, _, World.drewN_drewN _ _ _⟩ | exact ⟨rfl, _, Eq.trans (World.drewN_drewN _ _ _) (congrArg (World.drewN _) (Nat.add_assoc _ _ _))⟩))); try go_wp2_with (first | (go_at_call 51; (with_reducible refine (meeting_within.calls ((rd_T43 l0_9 x13_1).f0) 1 64 false _ A11.out).mono ?_); rintro e w' ⟨rfl, ⟨nd, rfl⟩⟩; (try first | exact ⟨rfl, _, World.drewN_drewN _ _ _⟩ | exact ⟨rfl, _, Eq.trans (World.drewN_drewN _ _ _) (congrArg (World.drewN _) (Nat.add_assoc _ _ _))⟩))))
        go_meet
        case rel => exact ⟨_, (true), (by first | rfl | (simp; done) | (simp [*]; done)), H', ⟨by have := HK1.out; first | omega | exact Nat.le_refl _⟩, ⟨by (with_reducible repeat (first | refine blk_drewN ?_ _ | refine blk_drew ?_ | refine blk_alloc ?_ _)); refine blk_far ?_ NB210_212.out _; (with_reducible repeat (first | refine blk_drewN ?_ _ | refine blk_drew ?_ | refine blk_alloc ?_ _)); refine blk_far ?_ NB210_212.out _; (with_reducible repeat (first | refine blk_drewN ?_ _ | refine blk_drew ?_ | refine blk_alloc ?_ _)); refine blk_far ?_ NB210_212.out _; (with_reducible repeat (first | refine blk_drewN ?_ _ | refine blk_drew ?_ | refine blk_alloc ?_ _)); exact BK210.out⟩, ⟨by (with_reducible repeat (first | refine blk_drewN ?_ _ | refine blk_drew ?_ | refine blk_alloc ?_ _)); refine blk_put (cs := #[.int .i64 ((rd_T43 l0_9 x13_1).f0), .int .i64 ((rd_T43 l0_9 x13_1).f1), .int .i64 0]) ?_ 2 _ rfl; (with_reducible repeat (first | refine blk_drewN ?_ _ | refine blk_drew ?_ | refine blk_alloc ?_ _)); refine blk_put (cs := #[.int .i64 ((rd_T43 l0_9 x13_1).f0), .int .i64 0, .int .i64 0]) ?_ 1 _ rfl; (with_reducible repeat (first | refine blk_drewN ?_ _ | refine blk_drew ?_ | refine blk_alloc ?_ _)); refine blk_put (cs := #[.int .i64 0, .int .i64 0, .int .i64 0]) ?_ 0 _ rfl; (with_reducible repeat (first | refine blk_drewN ?_ _ | refine blk_drew ?_ | refine blk_alloc ?_ _)); exact BK212.out⟩, ⟨by repeat (first | (with_reducible first | exact HB.out | apply below_alloc | apply pw_below_drewN | apply below_drew1 | refine below_set ?_ GE210.out | refine below_set ?_ GE212.out) | exact HB.out)⟩⟩
      case rest =>
       clear HC7
       try clear c1
       try clear c2
       try clear p2
       try clear q2
       try clear hx2
       try clear c4
       try clear c4b0
       try clear c5
       try clear c5b0
       try clear c6
       try clear c6b0
       try clear p6
       try clear c9
       try clear c12
       try clear c13
       try clear c13b0
       try clear c15
       try clear c15b0
       try clear c16
       try clear c16b0
       try clear c17
       try clear c17b0
       try clear c18
       try clear p21
       try clear q21
       try clear hx21
       try clear c22
       try clear c26
       try clear c28
       try clear hcz10_0
       try clear hcz10_1
       try clear hcz10_2
       try clear hcz19_0
       try clear hcz19_1
       try clear hcz19_2
       try clear hcz20_0
       try clear hcz20_1
       try clear hcz20_10
       try clear hcz20_11
       try clear hcz20_12
       try clear hcz20_2
       try clear hcz20_3
       try clear hcz20_4
       try clear hcz20_5
       try clear hcz20_6
       try clear hcz20_7
       try clear hcz20_8
       try clear hcz20_9
       try clear hcz23_0
       try clear hcz23_1
       try clear hcz23_2
       try clear hcz24_0
       try clear hcz24_1
       try clear hcz24_10
       try clear hcz24_11
       try clear hcz24_12
       try clear hcz24_2
       try clear hcz24_3
       try clear hcz24_4
       try clear hcz24_5
       try clear hcz24_6
       try clear hcz24_7
       try clear hcz24_8
       try clear hcz24_9
       try clear hcz27_0
       try clear hcz27_1
       try clear hcz27_2
       try clear hcz29_0
       try clear hcz29_1
       try clear hcz29_2
       try clear hcz3_0
       try clear hcz3_1
       try clear hcz3_10
       try clear hcz3_11
       try clear hcz3_12
       try clear hcz3_2
       try clear hcz3_3
       try clear hcz3_4
       try clear hcz3_5
       try clear hcz3_6
       try clear hcz3_7
       try clear hcz3_8
       try clear hcz3_9
       try clear hfz10_0
       try clear hfz10_1
       try clear hfz10_2
       try clear hfz19_0
       try clear hfz19_1
       try clear hfz19_2
       try clear hfz20_0
       try clear hfz20_1
       try clear hfz20_10
       try clear hfz20_11
       try clear hfz20_12
       try clear hfz20_2
       try clear hfz20_3
       try clear hfz20_4
       try clear hfz20_5
       try clear hfz20_6
       try clear hfz20_7
       try clear hfz20_8
       try clear hfz20_9
       try clear hfz23_0
       try clear hfz23_1
       try clear hfz23_2
       try clear hfz24_0
       try clear hfz24_1
       try clear hfz24_10
       try clear hfz24_11
       try clear hfz24_12
       try clear hfz24_2
       try clear hfz24_3
       try clear hfz24_4
       try clear hfz24_5
       try clear hfz24_6
       try clear hfz24_7
       try clear hfz24_8
       try clear hfz24_9
       try clear hfz27_0
       try clear hfz27_1
       try clear hfz27_2
       try clear hfz29_0
       try clear hfz29_1
       try clear hfz29_2
       try clear hfz3_0
       try clear hfz3_1
       try clear hfz3_10
       try clear hfz3_11
       try clear hfz3_12
       try clear hfz3_2
       try clear hfz3_3
       try clear hfz3_4
       try clear hfz3_5
       try clear hfz3_6
       try clear hfz3_7
       try clear hfz3_8
       try clear hfz3_9
       try clear hx211_0
       try clear hx211_1
       try clear hx211_2
       try clear hx214_0
       try clear hx214_1
       try clear hx214_2
       try clear p2
       try clear p211
       try clear p214
       try clear q211
       try clear q214
       obtain ⟨kq, x44_6, rfl, HA, HJ6, BK210, BK212, HB⟩ := hcut
       cases kq with
       | zero => exact absurd HA.out (by simp [meeting_hall_validVoters.j1])
       | succ kj6 =>
        have H := HA.out
        clear HA
        simp only [meeting_hall_validVoters.j1] at H
        by_cases c30 : x44_6 = true
        ·subst c30
         have H1 : (some false) = some r := by rw [if_pos rfl] at H; exact H
         clear H
         have H := H1
         clear H1
         obtain rfl := Option.some.inj H
         go_wp2
         repeat (go_quiet (fail); try go_wp2)
         go_ret
         exact ⟨by first | rfl | (simp [errW_none, errW_some] <;> rfl) | (simp [*, errW_none, errW_some] <;> rfl), by repeat (first | (with_reducible first | exact HB.out | apply below_alloc | apply pw_below_drewN | apply below_drew1 | refine below_set ?_ GE210.out | refine below_set ?_ GE212.out) | exact HB.out)⟩
        ·replace c30 := Bool.eq_false_iff.mpr c30
         subst c30
         have H1 : (meeting_hall_validVoters.l0 kj6 l0_9 (l0_9.length : Int) (wrap64 (x13_1 + 1)) a0_0 a0_1 a0_2 a0_3 a0_4 a0_5 a0_6 a0_7 l0_8 l0_9 l0_10 a0_11 l0_12) = some r := by rw [if_neg (show ¬ (false = true) by decide)] at H; exact H
         clear H
         have H := H1
         clear H1
         have H' := Aside0.mk H
         clear H
         go_wp2
         repeat (go_quiet (fail); try go_wp2)
         go_roundg kj6
         case measure => have := HK1.out; have := HJ6.out; omega
         case rel => exact ⟨(wrap64 (x13_1 + 1)), (by first | rfl | (simp; done) | (simp [*]; done)), H', ⟨by have := HK1.out; have := HJ6.out; omega⟩, ⟨by (with_reducible repeat (first | refine blk_drewN ?_ _ | refine blk_drew ?_ | refine blk_alloc ?_ _)); exact BK210.out⟩, ⟨by repeat (first | (with_reducible first | exact HB.out | apply below_alloc | apply pw_below_drewN | apply below_drew1 | refine below_set ?_ GE210.out | refine below_set ?_ GE212.out) | exact HB.out)⟩⟩
     ·rw [if_neg c6] at H
      exact absurd H (by simp)
    ·rw [if_neg c5] at H
     exact absurd H (by simp)
   ·rw [if_neg c4] at H
    have c4b0 : decide (x13_1 < (l0_9.length : Int)) = false := decide_eq_false c4
    clear c4
    have H' := Aside0.mk H
    clear H
    have hcz31_0 : wr.cell? ⟨gb210, 0, none⟩ = some (.int .i64 a0_0) := (blk_cell BK210.out 0).trans rfl
    have hcz31_1 : wr.cell? ⟨gb210, 1, none⟩ = some (.int .i64 a0_1) := (blk_cell BK210.out 1).trans rfl
    have hcz31_2 : wr.cell? ⟨gb210, 2, none⟩ = some (.int .i64 a0_2) := (blk_cell BK210.out 2).trans rfl
    have hcz31_3 : wr.cell? ⟨gb210, 3, none⟩ = some (.int .i64 a0_3) := (blk_cell BK210.out 3).trans rfl
    have hcz31_4 : wr.cell? ⟨gb210, 4, none⟩ = some (.bool a0_4) := (blk_cell BK210.out 4).trans rfl
    have hcz31_5 : wr.cell? ⟨gb210, 5, none⟩ = some (.int .i64 a0_5) := (blk_cell BK210.out 5).trans rfl
    have hcz31_6 : wr.cell? ⟨gb210, 6, none⟩ = some (.int .i64 a0_6) := (blk_cell BK210.out 6).trans rfl
    have hcz31_7 : wr.cell? ⟨gb210, 7, none⟩ = some (.int .i64 a0_7) := (blk_cell BK210.out 7).trans rfl
    have hcz31_8 : wr.cell? ⟨gb210, 8, none⟩ = some (.slice A0_8 l0_8.length c0_8) := (blk_cell BK210.out 8).trans rfl
    have hcz31_9 : wr.cell? ⟨gb210, 9, none⟩ = some (.slice A0_9 l0_9.length c0_9) := (blk_cell BK210.out 9).trans rfl
    have hcz31_10 : wr.cell? ⟨gb210, 10, none⟩ = some (.slice A0_10 l0_10.length c0_10) := (blk_cell BK210.out 10).trans rfl
    have hcz31_11 : wr.cell? ⟨gb210, 11, none⟩ = some (.string a0_11) := (blk_cell BK210.out 11).trans rfl
    have hcz31_12 : wr.cell? ⟨gb210, 12, none⟩ = some (.slice A0_12 l0_12.length c0_12) := (blk_cell BK210.out 12).trans rfl
    have hfz31_0 := blk_frozen BK210.out 0
    have hfz31_1 := blk_frozen BK210.out 1
    have hfz31_2 := blk_frozen BK210.out 2
    have hfz31_3 := blk_frozen BK210.out 3
    have hfz31_4 := blk_frozen BK210.out 4
    have hfz31_5 := blk_frozen BK210.out 5
    have hfz31_6 := blk_frozen BK210.out 6
    have hfz31_7 := blk_frozen BK210.out 7
    have hfz31_8 := blk_frozen BK210.out 8
    have hfz31_9 := blk_frozen BK210.out 9
    have hfz31_10 := blk_frozen BK210.out 10
    have hfz31_11 := blk_frozen BK210.out 11
    have hfz31_12 := blk_frozen BK210.out 12
    go_wp2
    repeat (go_quiet (fail); try go_wp2)
    go_loopg [50] k1 (fun kq v50 w' => ∃ (x50_2 : Int), v50 = .int .i64 x50_2 ∧ Aside0 (meeting_hall_validVoters.l1 kq l0_9 (l0_9.length : Int) x50_2 a0_0 a0_1 a0_2 a0_3 a0_4 a0_5 a0_6 a0_7 l0_8 l0_9 l0_10 a0_11 l0_12 = some r) ∧ Aside0 (kq ≤ k1) ∧ Aside0 (w'.heap[gb210]? = some (.cells #[.int .i64 a0_0, .int .i64 a0_1, .int .i64 a0_2, .int .i64 a0_3, .bool a0_4, .int .i64 a0_5, .int .i64 a0_6, .int .i64 a0_7, (.slice A0_8 l0_8.length c0_8), (.slice A0_9 l0_9.length c0_9), (.slice A0_10 l0_10.length c0_10), .string a0_11, (.slice A0_12 l0_12.length c0_12)] 62 (0, 0))) ∧ Aside0 (Below w.heap.size w w'))
    case atStart => exact ⟨(0), (by first | rfl | (simp; done) | (simp [*]; done)), H', ⟨Nat.le_refl _⟩, ⟨by (with_reducible repeat (first | refine blk_drewN ?_ _ | refine blk_drew ?_ | refine blk_alloc ?_ _)); exact BK210.out⟩, ⟨by repeat (first | (with_reducible first | exact HB.out | apply below_alloc | apply pw_below_drewN | apply below_drew1 | refine below_set ?_ GE210.out) | exact HB.out)⟩⟩
    case round =>
     clear H'
     try clear c1
     try clear c2
     try clear p2
     try clear q2
     try clear hx2
     try clear c3
     try clear c4
     try clear c4b0
     try clear c5
     try clear c5b0
     try clear c6
     try clear c6b0
     try clear p6
     try clear c9
     try clear c12
     try clear c13
     try clear c13b0
     try clear c15
     try clear c15b0
     try clear c16
     try clear c16b0
     try clear c17
     try clear c17b0
     try clear c18
     try clear p21
     try clear q21
     try clear hx21
     try clear c22
     try clear c26
     try clear c28
     try clear c30
     try clear hcz10_0
     try clear hcz10_1
     try clear hcz10_2
     try clear hcz19_0
     try clear hcz19_1
     try clear hcz19_2
     try clear hcz20_0
     try clear hcz20_1
     try clear hcz20_10
     try clear hcz20_11
     try clear hcz20_12
     try clear hcz20_2
     try clear hcz20_3
     try clear hcz20_4
     try clear hcz20_5
     try clear hcz20_6
     try clear hcz20_7
     try clear hcz20_8
     try clear hcz20_9
     try clear hcz23_0
     try clear hcz23_1
     try clear hcz23_2
     try clear hcz24_0
     try clear hcz24_1
     try clear hcz24_10
     try clear hcz24_11
     try clear hcz24_12
     try clear hcz24_2
     try clear hcz24_3
     try clear hcz24_4
     try clear hcz24_5
     try clear hcz24_6
     try clear hcz24_7
     try clear hcz24_8
     try clear hcz24_9
     try clear hcz27_0
     try clear hcz27_1
     try clear hcz27_2
     try clear hcz29_0
     try clear hcz29_1
     try clear hcz29_2
     try clear hcz31_0
     try clear hcz31_1
     try clear hcz31_10
     try clear hcz31_11
     try clear hcz31_12
     try clear hcz31_2
     try clear hcz31_3
     try clear hcz31_4
     try clear hcz31_5
     try clear hcz31_6
     try clear hcz31_7
     try clear hcz31_8
     try clear hcz31_9
     try clear hcz3_0
     try clear hcz3_1
     try clear hcz3_10
     try clear hcz3_11
     try clear hcz3_12
     try clear hcz3_2
     try clear hcz3_3
     try clear hcz3_4
     try clear hcz3_5
     try clear hcz3_6
     try clear hcz3_7
     try clear hcz3_8
     try clear hcz3_9
     try clear hfz10_0
     try clear hfz10_1
     try clear hfz10_2
     try clear hfz19_0
     try clear hfz19_1
     try clear hfz19_2
     try clear hfz20_0
     try clear hfz20_1
     try clear hfz20_10
     try clear hfz20_11
     try clear hfz20_12
     try clear hfz20_2
     try clear hfz20_3
     try clear hfz20_4
     try clear hfz20_5
     try clear hfz20_6
     try clear hfz20_7
     try clear hfz20_8
     try clear hfz20_9
     try clear hfz23_0
     try clear hfz23_1
     try clear hfz23_2
     try clear hfz24_0
     try clear hfz24_1
     try clear hfz24_10
     try clear hfz24_11
     try clear hfz24_12
     try clear hfz24_2
     try clear hfz24_3
     try clear hfz24_4
     try clear hfz24_5
     try clear hfz24_6
     try clear hfz24_7
     try clear hfz24_8
     try clear hfz24_9
     try clear hfz27_0
     try clear hfz27_1
     try clear hfz27_2
     try clear hfz29_0
     try clear hfz29_1
     try clear hfz29_2
     try clear hfz31_0
     try clear hfz31_1
     try clear hfz31_10
     try clear hfz31_11
     try clear hfz31_12
     try clear hfz31_2
     try clear hfz31_3
     try clear hfz31_4
     try clear hfz31_5
     try clear hfz31_6
     try clear hfz31_7
     try clear hfz31_8
     try clear hfz31_9
     try clear hfz3_0
     try clear hfz3_1
     try clear hfz3_10
     try clear hfz3_11
     try clear hfz3_12
     try clear hfz3_2
     try clear hfz3_3
     try clear hfz3_4
     try clear hfz3_5
     try clear hfz3_6
     try clear hfz3_7
     try clear hfz3_8
     try clear hfz3_9
     try clear hx211_0
     try clear hx211_1
     try clear hx211_2
     try clear hx214_0
     try clear hx214_1
     try clear hx214_2
     try clear p2
     try clear p21
     try clear p211
     try clear p214
     try clear p6
     try clear q2
     try clear q21
     try clear q211
     try clear q214
     obtain ⟨x50_2, rfl, HA, HK2, BK210, HB⟩ := hrel
     cases gk with
     | zero => exact absurd HA.out (by simp [meeting_hall_validVoters.l1])
     | succ k2 =>
      have H := HA.out
      clear HA
      simp only [meeting_hall_validVoters.l1] at H
      by_cases c32 : x50_2 < (l0_9.length : Int)
      ·rw [if_pos c32] at H
       have c32b0 : decide (x50_2 < (l0_9.length : Int)) = true := decide_eq_true c32
       clear c32
       by_cases c33 : 0 ≤ x50_2
       ·rw [if_pos c33] at H
        have c33b0 : decide (0 ≤ x50_2) = true := decide_eq_true c33
        clear c33
        by_cases c34 : x50_2 < (l0_9.length : Int)
        ·rw [if_pos c34] at H
         have c34b0 : decide (x50_2 < (l0_9.length : Int)) = true := decide_eq_true c34
         clear c34
         replace H := Option.bind_eq_some_iff.mp H
         obtain ⟨⟨t219, t220⟩, A350, H⟩ := H
         replace H : (if ((rd_T43 l0_9 x50_2).f2) = 0 then (meeting_hall_validVoters.j3 k2 l0_9 (l0_9.length : Int) x50_2 false a0_0 a0_1 a0_2 a0_3 a0_4 a0_5 a0_6 a0_7 l0_8 l0_9 l0_10 a0_11 l0_12) else (if t220 = true then (meeting_hall_validVoters.j3 k2 l0_9 (l0_9.length : Int) x50_2 (((rd_T43 l0_9 x50_2).f2) == ((rd_T43 l0_9 x50_2).f0)) a0_0 a0_1 a0_2 a0_3 a0_4 a0_5 a0_6 a0_7 l0_8 l0_9 l0_10 a0_11 l0_12) else (meeting_hall_validVoters.j3 k2 l0_9 (l0_9.length : Int) x50_2 true a0_0 a0_1 a0_2 a0_3 a0_4 a0_5 a0_6 a0_7 l0_8 l0_9 l0_10 a0_11 l0_12))) = some r := H
         have A35 := Aside0.mk A350
         clear A350
         have HC36 := Aside0.mk H
         clear H
         have p217 : 0 ≤ (x50_2 : Int) := of_decide_eq_true (by first | (with_reducible assumption) | assumption)
         have q217 : x50_2 < (l0_9.length : Int) := of_decide_eq_true (by first | (with_reducible assumption) | assumption)
         obtain ⟨ad217, e217, hx217_0, hx217_1, hx217_2⟩ := at_T43 HR0_9.out x50_2 p217 q217
         cases e217
         replace hx217_0 := (HB.out.cell (World.block_lt_of_cell? w _ hx217_0)).trans hx217_0
         replace hx217_1 := (HB.out.cell (World.block_lt_of_cell? w _ hx217_1)).trans hx217_1
         replace hx217_2 := (HB.out.cell (World.block_lt_of_cell? w _ hx217_2)).trans hx217_2
         replace p217 := eq_true p217
         replace q217 := eq_true q217
         go_upto_region 11 with (first | ((with_reducible refine gate_dst (N := 6) rfl ?_); refine box_event ?hg (N := 6) ?hd (cs := #[.int .i64 0, .int .i64 0, .int .i64 0]) (t := 43) ?hr ?_; (case hd => rfl); (case hg => rfl); (case hr => first | (go_simp; done) | (go_simp; rfl)); intro gb218 hg w37 hbox hb; have n0_ := Aside0.mk (blk_below (g := gb210) (o := .cells #[.int .i64 a0_0, .int .i64 a0_1, .int .i64 a0_2, .int .i64 a0_3, .bool a0_4, .int .i64 a0_5, .int .i64 a0_6, .int .i64 a0_7, .slice A0_8 l0_8.length c0_8, .slice (some ad217) l0_9.length c0_9, .slice A0_10 l0_10.length c0_10, .string a0_11, .slice A0_12 l0_12.length c0_12] 62 (0, 0)) (by (with_reducible repeat (first | refine blk_drewN ?_ _ | refine blk_drew ?_ | refine blk_alloc ?_ _)); exact BK210.out) hb); have n1_ := Aside0.mk (below_step (by repeat (first | (with_reducible first | exact HB.out | apply below_alloc | apply pw_below_drewN | apply below_drew1 | refine below_set ?_ GE210.out) | exact HB.out)) hb); have n2_ := Aside0.mk (hbox); have n3_ := Aside0.mk ((by rw [hg]; exact (below_size (by repeat (first | (with_reducible first | exact HB.out | apply below_alloc | apply pw_below_drewN | apply below_drew1 | refine below_set ?_ GE210.out) | exact HB.out))) : w.heap.size ≤ gb218)); have n4_ := Aside0.mk ((by rw [hg]; exact (below_size (by repeat (first | (with_reducible first | exact HB.out | apply below_alloc | apply pw_below_drewN | apply below_drew1 | refine below_set ?_ GE210.out) | exact HB.out))) : w.heap.size ≤ gb218)); have n5_ := Aside0.mk ((by rw [hg]; exact Nat.ne_of_lt (blk_lt (g := gb210) (o := .cells #[.int .i64 a0_0, .int .i64 a0_1, .int .i64 a0_2, .int .i64 a0_3, .bool a0_4, .int .i64 a0_5, .int .i64 a0_6, .int .i64 a0_7, .slice A0_8 l0_8.length c0_8, .slice (some ad217) l0_9.length c0_9, .slice A0_10 l0_10.length c0_10, .string a0_11, .slice A0_12 l0_12.length c0_12] 62 (0, 0)) (by (with_reducible repeat (first | refine blk_drewN ?_ _ | refine blk_drew ?_ | refine blk_alloc ?_ _)); exact BK210.out)) : gb210 ≠ gb218)); have n6_ := Aside0.mk ((by rw [hg]; exact Nat.ne_of_gt (blk_lt (g := gb210) (o := .cells #[.int .i64 a0_0, .int .i64 a0_1, .int .i64 a0_2, .int .i64 a0_3, .bool a0_4, .int .i64 a0_5, .int .i64 a0_6, .int .i64 a0_7, .slice A0_8 l0_8.length c0_8, .slice (some ad217) l0_9.length c0_9, .slice A0_10 l0_10.length c0_10, .string a0_11, .slice A0_12 l0_12.length c0_12] 62 (0, 0)) (by (with_reducible repeat (first | refine blk_drewN ?_ _ | refine blk_drew ?_ | refine blk_alloc ?_ _)); exact BK210.out)) : gb218 ≠ gb210)); clear BK210; clear HB; have BK210 := n0_; have HB := n1_; have BK218 := n2_; have GW218 := n3_; have GE218 := n4_; have NB210_218 := n5_; have NB218_210 := n6_; clear n0_ n1_ n2_ n3_ n4_ n5_ n6_; clear hb hbox hg; have hnb38 := NB218_210.out; have hnc38 := NB210_218.out; have hcz39_0 : w37.cell? ⟨gb218, 0, none⟩ = some (.int .i64 0) := (blk_cell BK218.out 0).trans rfl; have hcz39_1 : w37.cell? ⟨gb218, 1, none⟩ = some (.int .i64 0) := (blk_cell BK218.out 1).trans rfl; have hcz39_2 : w37.cell? ⟨gb218, 2, none⟩ = some (.int .i64 0) := (blk_cell BK218.out 2).trans rfl; have hfz39_0 := blk_frozen BK218.out 0; have hfz39_1 := blk_frozen BK218.out 1; have hfz39_2 := blk_frozen BK218.out 2; have hcz40_0 : w37.cell? ⟨gb210, 0, none⟩ = some (.int .i64 a0_0) := (blk_cell BK210.out 0).trans rfl; have hcz40_1 : w37.cell? ⟨gb210, 1, none⟩ = some (.int .i64 a0_1) := (blk_cell BK210.out 1).trans rfl; have hcz40_2 : w37.cell? ⟨gb210, 2, none⟩ = some (.int .i64 a0_2) := (blk_cell BK210.out 2).trans rfl; have hcz40_3 : w37.cell? ⟨gb210, 3, none⟩ = some (.int .i64 a0_3) := (blk_cell BK210.out 3).trans rfl; have hcz40_4 : w37.cell? ⟨gb210, 4, none⟩ = some (.bool a0_4) := (blk_cell BK210.out 4).trans rfl; have hcz40_5 : w37.cell? ⟨gb210, 5, none⟩ = some (.int .i64 a0_5) := (blk_cell BK210.out 5).trans rfl; have hcz40_6 : w37.cell? ⟨gb210, 6, none⟩ = some (.int .i64 a0_6) := (blk_cell BK210.out 6).trans rfl; have hcz40_7 : w37.cell? ⟨gb210, 7, none⟩ = some (.int .i64 a0_7) := (blk_cell BK210.out 7).trans rfl; have hcz40_8 : w37.cell? ⟨gb210, 8, none⟩ = some (.slice A0_8 l0_8.length c0_8) := (blk_cell BK210.out 8).trans rfl; have hcz40_9 : w37.cell? ⟨gb210, 9, none⟩ = some (.slice (some ad217) l0_9.length c0_9) := (blk_cell BK210.out 9).trans rfl; have hcz40_10 : w37.cell? ⟨gb210, 10, none⟩ = some (.slice A0_10 l0_10.length c0_10) := (blk_cell BK210.out 10).trans rfl; have hcz40_11 : w37.cell? ⟨gb210, 11, none⟩ = some (.string a0_11) := (blk_cell BK210.out 11).trans rfl; have hcz40_12 : w37.cell? ⟨gb210, 12, none⟩ = some (.slice A0_12 l0_12.length c0_12) := (blk_cell BK210.out 12).trans rfl; have hfz40_0 := blk_frozen BK210.out 0; have hfz40_1 := blk_frozen BK210.out 1; have hfz40_2 := blk_frozen BK210.out 2; have hfz40_3 := blk_frozen BK210.out 3; have hfz40_4 := blk_frozen BK210.out 4; have hfz40_5 := blk_frozen BK210.out 5; have hfz40_6 := blk_frozen BK210.out 6; have hfz40_7 := blk_frozen BK210.out 7; have hfz40_8 := blk_frozen BK210.out 8; have hfz40_9 := blk_frozen BK210.out 9; have hfz40_10 := blk_frozen BK210.out 10; have hfz40_11 := blk_frozen BK210.out 11; have hfz40_12 := blk_frozen BK210.out 12) | (go_at_call 56; (with_reducible refine (meeting_hall_find.calls k2 a0_0 a0_1 a0_2 a0_3 a0_4 a0_5 a0_6 a0_7 _ _ l0_8 _ _ l0_9 _ _ l0_10 a0_11 _ _ l0_12 ((rd_T43 l0_9 x50_2).f2) t219 t220 _ ?side1 ?side2 ?side3 ?side4 ?side5 ?side6 ?side7 ?side8 A35.out).mono ?_); (case side1 => exact Kd.C_below HR0_8.out (by repeat (first | (with_reducible first | exact HB.out | apply below_alloc | apply pw_below_drewN | apply below_drew1 | refine below_set ?_ GE210.out | refine below_set ?_ GE218.out) | exact HB.out))); (case side2 => exact HC0_8.out); (case side3 => exact Kd.C_below HR0_9.out (by repeat (first | (with_reducible first | exact HB.out | apply below_alloc | apply pw_below_drewN | apply below_drew1 | refine below_set ?_ GE210.out | refine below_set ?_ GE218.out) | exact HB.out))); (case side4 => exact HC0_9.out); (case side5 => exact Kd.C_below HR0_10.out (by repeat (first | (with_reducible first | exact HB.out | apply below_alloc | apply pw_below_drewN | apply below_drew1 | refine below_set ?_ GE210.out | refine below_set ?_ GE218.out) | exact HB.out))); (case side6 => exact HC0_10.out); (case side7 => exact Kd.C_below HR0_12.out (by repeat (first | (with_reducible first | exact HB.out | apply below_alloc | apply pw_below_drewN | apply below_drew1 | refine below_set ?_ GE210.out | refine below_set ?_ GE218.out) | exact HB.out))); (case side8 => exact HC0_12.out); rintro e w41 ⟨rfl, hb⟩; have n0_ := Aside0.mk (blk_below (g := gb210) (o := .cells #[.int .i64 a0_0, .int .i64 a0_1, .int .i64 a0_2, .int .i64 a0_3, .bool a0_4, .int .i64 a0_5, .int .i64 a0_6, .int .i64 a0_7, .slice A0_8 l0_8.length c0_8, .slice (some ad217) l0_9.length c0_9, .slice A0_10 l0_10.length c0_10, .string a0_11, .slice A0_12 l0_12.length c0_12] 62 (0, 0)) (by (with_reducible repeat (first | refine blk_drewN ?_ _ | refine blk_drew ?_ | refine blk_alloc ?_ _)); refine blk_far ?_ NB210_218.out _; (with_reducible repeat (first | refine blk_drewN ?_ _ | refine blk_drew ?_ | refine blk_alloc ?_ _)); refine blk_far ?_ NB210_218.out _; (with_reducible repeat (first | refine blk_drewN ?_ _ | refine blk_drew ?_ | refine blk_alloc ?_ _)); refine blk_far ?_ NB210_218.out _; (with_reducible repeat (first | refine blk_drewN ?_ _ | refine blk_drew ?_ | refine blk_alloc ?_ _)); exact BK210.out) hb); have n1_ := Aside0.mk (blk_below (g := gb218) (o := .cells #[.int .i64 ((rd_T43 l0_9 x50_2).f0), .int .i64 ((rd_T43 l0_9 x50_2).f1), .int .i64 ((rd_T43 l0_9 x50_2).f2)] 43 (0, 0)) (by (with_reducible repeat (first | refine blk_drewN ?_ _ | refine blk_drew ?_ | refine blk_alloc ?_ _)); refine blk_put (cs := #[.int .i64 ((rd_T43 l0_9 x50_2).f0), .int .i64 ((rd_T43 l0_9 x50_2).f1), .int .i64 0]) ?_ 2 _ rfl; (with_reducible repeat (first | refine blk_drewN ?_ _ | refine blk_drew ?_ | refine blk_alloc ?_ _)); refine blk_put (cs := #[.int .i64 ((rd_T43 l0_9 x50_2).f0), .int .i64 0, .int .i64 0]) ?_ 1 _ rfl; (with_reducible repeat (first | refine blk_drewN ?_ _ | refine blk_drew ?_ | refine blk_alloc ?_ _)); refine blk_put (cs := #[.int .i64 0, .int .i64 0, .int .i64 0]) ?_ 0 _ rfl; (with_reducible repeat (first | refine blk_drewN ?_ _ | refine blk_drew ?_ | refine blk_alloc ?_ _)); exact BK218.out) hb); have n2_ := Aside0.mk (below_step (by repeat (first | (with_reducible first | exact HB.out | apply below_alloc | apply pw_below_drewN | apply below_drew1 | refine below_set ?_ GE210.out | refine below_set ?_ GE218.out) | exact HB.out)) hb); clear BK210; clear BK218; clear HB; have BK210 := n0_; have BK218 := n1_; have HB := n2_; clear n0_ n1_ n2_; (try clear hb); (try clear hb2); (try clear hk); (try clear hi)))
         repeat (go_quiet (first | ((with_reducible refine gate_dst (N := 6) rfl ?_); refine box_event ?hg (N := 6) ?hd (cs := #[.int .i64 0, .int .i64 0, .int .i64 0]) (t := 43) ?hr ?_; (case hd => rfl); (case hg => rfl); (case hr => first | (go_simp; done) | (go_simp; rfl)); intro gb218 hg w37 hbox hb; have n0_ := Aside0.mk (blk_below (g := gb210) (o := .cells #[.int .i64 a0_0, .int .i64 a0_1, .int .i64 a0_2, .int .i64 a0_3, .bool a0_4, .int .i64 a0_5, .int .i64 a0_6, .int .i64 a0_7, .slice A0_8 l0_8.length c0_8, .slice (some ad217) l0_9.length c0_9, .slice A0_10 l0_10.length c0_10, .string a0_11, .slice A0_12 l0_12.length c0_12] 62 (0, 0)) (by (with_reducible repeat (first | refine blk_drewN ?_ _ | refine blk_drew ?_ | refine blk_alloc ?_ _)); exact BK210.out) hb); have n1_ := Aside0.mk (below_step (by repeat (first | (with_reducible first | exact HB.out | apply below_alloc | apply pw_below_drewN | apply below_drew1 | refine below_set ?_ GE210.out) | exact HB.out)) hb); have n2_ := Aside0.mk (hbox); have n3_ := Aside0.mk ((by rw [hg]; exact (below_size (by repeat (first | (with_reducible first | exact HB.out | apply below_alloc | apply pw_below_drewN | apply below_drew1 | refine below_set ?_ GE210.out) | exact HB.out))) : w.heap.size ≤ gb218)); have n4_ := Aside0.mk ((by rw [hg]; exact (below_size (by repeat (first | (with_reducible first | exact HB.out | apply below_alloc | apply pw_below_drewN | apply below_drew1 | refine below_set ?_ GE210.out) | exact HB.out))) : w.heap.size ≤ gb218)); have n5_ := Aside0.mk ((by rw [hg]; exact Nat.ne_of_lt (blk_lt (g := gb210) (o := .cells #[.int .i64 a0_0, .int .i64 a0_1, .int .i64 a0_2, .int .i64 a0_3, .bool a0_4, .int .i64 a0_5, .int .i64 a0_6, .int .i64 a0_7, .slice A0_8 l0_8.length c0_8, .slice (some ad217) l0_9.length c0_9, .slice A0_10 l0_10.length c0_10, .string a0_11, .slice A0_12 l0_12.length c0_12] 62 (0, 0)) (by (with_reducible repeat (first | refine blk_drewN ?_ _ | refine blk_drew ?_ | refine blk_alloc ?_ _)); exact BK210.out)) : gb210 ≠ gb218)); have n6_ := Aside0.mk ((by rw [hg]; exact Nat.ne_of_gt (blk_lt (g := gb210) (o := .cells #[.int .i64 a0_0, .int .i64 a0_1, .int .i64 a0_2, .int .i64 a0_3, .bool a0_4, .int .i64 a0_5, .int .i64 a0_6, .int .i64 a0_7, .slice A0_8 l0_8.length c0_8, .slice (some ad217) l0_9.length c0_9, .slice A0_10 l0_10.length c0_10, .string a0_11, .slice A0_12 l0_12.length c0_12] 62 (0, 0)) (by (with_reducible repeat (first | refine blk_drewN ?_ _ | refine blk_drew ?_ | refine blk_alloc ?_ _)); exact BK210.out)) : gb218 ≠ gb210)); clear BK210; clear HB; have BK210 := n0_; have HB := n1_; have BK218 := n2_; have GW218 := n3_; have GE218 := n4_; have NB210_218 := n5_; have NB218_210 := n6_; clear n0_ n1_ n2_ n3_ n4_ n5_ n6_; clear hb hbox hg; have hnb38 := NB218_210.out; have hnc38 := NB210_218.out; have hcz39_0 : w37.cell? ⟨gb218, 0, none⟩ = some (.int .i64 0) := (blk_cell BK218.out 0).trans rfl; have hcz39_1 : w37.cell? ⟨gb218, 1, none⟩ = some (.int .i64 0) := (blk_cell BK218.out 1).trans rfl; have hcz39_2 : w37.cell? ⟨gb218, 2, none⟩ = some (.int .i64 0) := (blk_cell BK218.out 2).trans rfl; have hfz39_0 := blk_frozen BK218.out 0; have hfz39_1 := blk_frozen BK218.out 1; have hfz39_2 := blk_frozen BK218.out 2; have hcz40_0 : w37.cell? ⟨gb210, 0, none⟩ = some (.int .i64 a0_0) := (blk_cell BK210.out 0).trans rfl; have hcz40_1 : w37.cell? ⟨gb210, 1, none⟩ = some (.int .i64 a0_1) := (blk_cell BK210.out 1).trans rfl; have hcz40_2 : w37.cell? ⟨gb210, 2, none⟩ = some (.int .i64 a0_2) := (blk_cell BK210.out 2).trans rfl; have hcz40_3 : w37.cell? ⟨gb210, 3, none⟩ = some (.int .i64 a0_3) := (blk_cell BK210.out 3).trans rfl; have hcz40_4 : w37.cell? ⟨gb210, 4, none⟩ = some (.bool a0_4) := (blk_cell BK210.out 4).trans rfl; have hcz40_5 : w37.cell? ⟨gb210, 5, none⟩ = some (.int .i64 a0_5) := (blk_cell BK210.out 5).trans rfl; have hcz40_6 : w37.cell? ⟨gb210, 6, none⟩ = some (.int .i64 a0_6) := (blk_cell BK210.out 6).trans rfl; have hcz40_7 : w37.cell? ⟨gb210, 7, none⟩ = some (.int .i64 a0_7) := (blk_cell BK210.out 7).trans rfl; have hcz40_8 : w37.cell? ⟨gb210, 8, none⟩ = some (.slice A0_8 l0_8.length c0_8) := (blk_cell BK210.out 8).trans rfl; have hcz40_9 : w37.cell? ⟨gb210, 9, none⟩ = some (.slice (some ad217) l0_9.length c0_9) := (blk_cell BK210.out 9).trans rfl; have hcz40_10 : w37.cell? ⟨gb210, 10, none⟩ = some (.slice A0_10 l0_10.length c0_10) := (blk_cell BK210.out 10).trans rfl; have hcz40_11 : w37.cell? ⟨gb210, 11, none⟩ = some (.string a0_11) := (blk_cell BK210.out 11).trans rfl; have hcz40_12 : w37.cell? ⟨gb210, 12, none⟩ = some (.slice A0_12 l0_12.length c0_12) := (blk_cell BK210.out 12).trans rfl; have hfz40_0 := blk_frozen BK210.out 0; have hfz40_1 := blk_frozen BK210.out 1; have hfz40_2 := blk_frozen BK210.out 2; have hfz40_3 := blk_frozen BK210.out 3; have hfz40_4 := blk_frozen BK210.out 4; have hfz40_5 := blk_frozen BK210.out 5; have hfz40_6 := blk_frozen BK210.out 6; have hfz40_7 := blk_frozen BK210.out 7; have hfz40_8 := blk_frozen BK210.out 8; have hfz40_9 := blk_frozen BK210.out 9; have hfz40_10 := blk_frozen BK210.out 10; have hfz40_11 := blk_frozen BK210.out 11; have hfz40_12 := blk_frozen BK210.out 12) | (go_at_call 56; (with_reducible refine (meeting_hall_find.calls k2 a0_0 a0_1 a0_2 a0_3 a0_4 a0_5 a0_6 a0_7 _ _ l0_8 _ _ l0_9 _ _ l0_10 a0_11 _ _ l0_12 ((rd_T43 l0_9 x50_2).f2) t219 t220 _ ?side1 ?side2 ?side3 ?side4 ?side5 ?side6 ?side7 ?side8 A35.out).mono ?_); (case side1 => exact Kd.C_below HR0_8.out (by repeat (first | (with_reducible first | exact HB.out | apply below_alloc | apply pw_below_drewN | apply below_drew1 | refine below_set ?_ GE210.out | refine below_set ?_ GE218.out) | exact HB.out))); (case side2 => exact HC0_8.out); (case side3 => exact Kd.C_below HR0_9.out (by repeat (first | (with_reducible first | exact HB.out | apply below_alloc | apply pw_below_drewN | apply below_drew1 | refine below_set ?_ GE210.out | refine below_set ?_ GE218.out) | exact HB.out))); (case side4 => exact HC0_9.out); (case side5 => exact Kd.C_below HR0_10.out (by repeat (first | (with_reducible first | exact HB.out | apply below_alloc | apply pw_below_drewN | apply below_drew1 | refine below_set ?_ GE210.out | refine below_set ?_ GE218.out) | exact HB.out))); (case side6 => exact HC0_10.out); (case side7 => exact Kd.C_below HR0_12.out (by repeat (first | (with_reducible first | exact HB.out | apply below_alloc | apply pw_below_drewN | apply below_drew1 | refine below_set ?_ GE210.out | refine below_set ?_ GE218.out) | exact HB.out))); (case side8 => exact HC0_12.out); rintro e w41 ⟨rfl, hb⟩; have n0_ := Aside0.mk (blk_below (g := gb210) (o := .cells #[.int .i64 a0_0, .int .i64 a0_1, .int .i64 a0_2, .int .i64 a0_3, .bool a0_4, .int .i64 a0_5, .int .i64 a0_6, .int .i64 a0_7, .slice A0_8 l0_8.length c0_8, .slice (some ad217) l0_9.length c0_9, .slice A0_10 l0_10.length c0_10, .string a0_11, .slice A0_12 l0_12.length c0_12] 62 (0, 0)) (by (with_reducible repeat (first | refine blk_drewN ?_ _ | refine blk_drew ?_ | refine blk_alloc ?_ _)); refine blk_far ?_ NB210_218.out _; (with_reducible repeat (first | refine blk_drewN ?_ _ | refine blk_drew ?_ | refine blk_alloc ?_ _)); refine blk_far ?_ NB210_218.out _; (with_reducible repeat (first | refine blk_drewN ?_ _ | refine blk_drew ?_ | refine blk_alloc ?_ _)); refine blk_far ?_ NB210_218.out _; (with_reducible repeat (first | refine blk_drewN ?_ _ | refine blk_drew ?_ | refine blk_alloc ?_ _)); exact BK210.out) hb); have n1_ := Aside0.mk (blk_below (g := gb218) (o := .cells #[.int .i64 ((rd_T43 l0_9 x50_2).f0), .int .i64 ((rd_T43 l0_9 x50_2).f1), .int .i64 ((rd_T43 l0_9 x50_2).f2)] 43 (0, 0)) (by (with_reducible repeat (first | refine blk_drewN ?_ _ | refine blk_drew ?_ | refine blk_alloc ?_ _)); refine blk_put (cs := #[.int .i64 ((rd_T43 l0_9 x50_2).f0), .int .i64 ((rd_T43 l0_9 x50_2).f1), .int .i64 0]) ?_ 2 _ rfl; (with_reducible repeat (first | refine blk_drewN ?_ _ | refine blk_drew ?_ | refine blk_alloc ?_ _)); refine blk_put (cs := #[.int .i64 ((rd_T43 l0_9 x50_2).f0), .int .i64 0, .int .i64 0]) ?_ 1 _ rfl; (with_reducible repeat (first | refine blk_drewN ?_ _ | refine blk_drew ?_ | refine blk_alloc ?_ _)); refine blk_put (cs := #[.int .i64 0, .int .i64 0, .int .i64 0]) ?_ 0 _ rfl; (with_reducible repeat (first | refine blk_drewN ?_ _ | refine blk_drew ?_ | refine blk_alloc ?_ _)); exact BK218.out) hb); have n2_ := Aside0.mk (below_step (by repeat (first | (with_reducible first | exact HB.out | apply below_alloc | apply pw_below_drewN | apply below_drew1 | refine below_set ?_ GE210.out | refine below_set ?_ GE218.out) | exact HB.out)) hb); clear BK210; clear BK218; clear HB; have BK210 := n0_; have BK218 := n1_; have HB := n2_; clear n0_ n1_ n2_; (try clear hb); (try clear hb2); (try clear hk); (try clear hi))); go_upto_region 11 with (first | ((with_reducible refine gate_dst (N := 6) rfl ?_); refine box_event ?hg (N := 6) ?hd (cs := #[.int .i64 0, .int .i64 0, .int .i64 0]) (t := 43) ?hr ?_; (case hd => rfl); (case hg => rfl); (case hr => first | (go_simp; done) | (go_simp; rfl)); intro gb218 hg w37 hbox hb; have n0_ := Aside0.mk (blk_below (g := gb210) (o := .cells #[.int .i64 a0_0, .int .i64 a0_1, .int .i64 a0_2, .int .i64 a0_3, .bool a0_4, .int .i64 a0_5, .int .i64 a0_6, .int .i64 a0_7, .slice A0_8 l0_8.length c0_8, .slice (some ad217) l0_9.length c0_9, .slice A0_10 l0_10.length c0_10, .string a0_11, .slice A0_12 l0_12.length c0_12] 62 (0, 0)) (by (with_reducible repeat (first | refine blk_drewN ?_ _ | refine blk_drew ?_ | refine blk_alloc ?_ _)); exact BK210.out) hb); have n1_ := Aside0.mk (below_step (by repeat (first | (with_reducible first | exact HB.out | apply below_alloc | apply pw_below_drewN | apply below_drew1 | refine below_set ?_ GE210.out) | exact HB.out)) hb); have n2_ := Aside0.mk (hbox); have n3_ := Aside0.mk ((by rw [hg]; exact (below_size (by repeat (first | (with_reducible first | exact HB.out | apply below_alloc | apply pw_below_drewN | apply below_drew1 | refine below_set ?_ GE210.out) | exact HB.out))) : w.heap.size ≤ gb218)); have n4_ := Aside0.mk ((by rw [hg]; exact (below_size (by repeat (first | (with_reducible first | exact HB.out | apply below_alloc | apply pw_below_drewN | apply below_drew1 | refine below_set ?_ GE210.out) | exact HB.out))) : w.heap.size ≤ gb218)); have n5_ := Aside0.mk ((by rw [hg]; exact Nat.ne_of_lt (blk_lt (g := gb210) (o := .cells #[.int .i64 a0_0, .int .i64 a0_1, .int .i64 a0_2, .int .i64 a0_3, .bool a0_4, .int .i64 a0_5, .int .i64 a0_6, .int .i64 a0_7, .slice A0_8 l0_8.length c0_8, .slice (some ad217) l0_9.length c0_9, .slice A0_10 l0_10.length c0_10, .string a0_11, .slice A0_12 l0_12.length c0_12] 62 (0, 0)) (by (with_reducible repeat (first | refine blk_drewN ?_ _ | refine blk_drew ?_ | refine blk_alloc ?_ _)); exact BK210.out)) : gb210 ≠ gb218)); have n6_ := Aside0.mk ((by rw [hg]; exact Nat.ne_of_gt (blk_lt (g := gb210) (o := .cells #[.int .i64 a0_0, .int .i64 a0_1, .int .i64 a0_2, .int .i64 a0_3, .bool a0_4, .int .i64 a0_5, .int .i64 a0_6, .int .i64 a0_7, .slice A0_8 l0_8.length c0_8, .slice (some ad217) l0_9.length c0_9, .slice A0_10 l0_10.length c0_10, .string a0_11, .slice A0_12 l0_12.length c0_12] 62 (0, 0)) (by (with_reducible repeat (first | refine blk_drewN ?_ _ | refine blk_drew ?_ | refine blk_alloc ?_ _)); exact BK210.out)) : gb218 ≠ gb210)); clear BK210; clear HB; have BK210 := n0_; have HB := n1_; have BK218 := n2_; have GW218 := n3_; have GE218 := n4_; have NB210_218 := n5_; have NB218_210 := n6_; clear n0_ n1_ n2_ n3_ n4_ n5_ n6_; clear hb hbox hg; have hnb38 := NB218_210.out; have hnc38 := NB210_218.out; have hcz39_0 : w37.cell? ⟨gb218, 0, none⟩ = some (.int .i64 0) := (blk_cell BK218.out 0).trans rfl; have hcz39_1 : w37.cell? ⟨gb218, 1, none⟩ = some (.int .i64 0) := (blk_cell BK218.out 1).trans rfl; have hcz39_2 : w37.cell? ⟨gb218, 2, none⟩ = some (.int .i64 0) := (blk_cell BK218.out 2).trans rfl; have hfz39_0 := blk_frozen BK218.out 0; have hfz39_1 := blk_frozen BK218.out 1; have hfz39_2 := blk_frozen BK218.out 2; have hcz40_0 : w37.cell? ⟨gb210, 0, none⟩ = some (.int .i64 a0_0) := (blk_cell BK210.out 0).trans rfl; have hcz40_1 : w37.cell? ⟨gb210, 1, none⟩ = some (.int .i64 a0_1) := (blk_cell BK210.out 1).trans rfl; have hcz40_2 : w37.cell? ⟨gb210, 2, none⟩ = some (.int .i64 a0_2) := (blk_cell BK210.out 2).trans rfl; have hcz40_3 : w37.cell? ⟨gb210, 3, none⟩ = some (.int .i64 a0_3) := (blk_cell BK210.out 3).trans rfl; have hcz40_4 : w37.cell? ⟨gb210, 4, none⟩ = some (.bool a0_4) := (blk_cell BK210.out 4).trans rfl; have hcz40_5 : w37.cell? ⟨gb210, 5, none⟩ = some (.int .i64 a0_5) := (blk_cell BK210.out 5).trans rfl; have hcz40_6 : w37.cell? ⟨gb210, 6, none⟩ = some (.int .i64 a0_6) := (blk_cell BK210.out 6).trans rfl; have hcz40_7 : w37.cell? ⟨gb210, 7, none⟩ = some (.int .i64 a0_7) := (blk_cell BK210.out 7).trans rfl; have hcz40_8 : w37.cell? ⟨gb210, 8, none⟩ = some (.slice A0_8 l0_8.length c0_8) := (blk_cell BK210.out 8).trans rfl; have hcz40_9 : w37.cell? ⟨gb210, 9, none⟩ = some (.slice (some ad217) l0_9.length c0_9) := (blk_cell BK210.out 9).trans rfl; have hcz40_10 : w37.cell? ⟨gb210, 10, none⟩ = some (.slice A0_10 l0_10.length c0_10) := (blk_cell BK210.out 10).trans rfl; have hcz40_11 : w37.cell? ⟨gb210, 11, none⟩ = some (.string a0_11) := (blk_cell BK210.out 11).trans rfl; have hcz40_12 : w37.cell? ⟨gb210, 12, none⟩ = some (.slice A0_12 l0_12.length c0_12) := (blk_cell BK210.out 12).trans rfl; have hfz40_0 := blk_frozen BK210.out 0; have hfz40_1 := blk_frozen BK210.out 1; have hfz40_2 := blk_frozen BK210.out 2; have hfz40_3 := blk_frozen BK210.out 3; have hfz40_4 := blk_frozen BK210.out 4; have hfz40_5 := blk_frozen BK210.out 5; have hfz40_6 := blk_frozen BK210.out 6; have hfz40_7 := blk_frozen BK210.out 7; have hfz40_8 := blk_frozen BK210.out 8; have hfz40_9 := blk_frozen BK210.out 9; have hfz40_10 := blk_frozen BK210.out 10; have hfz40_11 := blk_frozen BK210.out 11; have hfz40_12 := blk_frozen BK210.out 12) | (go_at_call 56; (with_reducible refine (meeting_hall_find.calls k2 a0_0 a0_1 a0_2 a0_3 a0_4 a0_5 a0_6 a0_7 _ _ l0_8 _ _ l0_9 _ _ l0_10 a0_11 _ _ l0_12 ((rd_T43 l0_9 x50_2).f2) t219 t220 _ ?side1 ?side2 ?side3 ?side4 ?side5 ?side6 ?side7 ?side8 A35.out).mono ?_); (case side1 => exact Kd.C_below HR0_8.out (by repeat (first | (with_reducible first | exact HB.out | apply below_alloc | apply pw_below_drewN | apply below_drew1 | refine below_set ?_ GE210.out | refine below_set ?_ GE218.out) | exact HB.out))); (case side2 => exact HC0_8.out); (case side3 => exact Kd.C_below HR0_9.out (by repeat (first | (with_reducible first | exact HB.out | apply below_alloc | apply pw_below_drewN | apply below_drew1 | refine below_set ?_ GE210.out | refine below_set ?_ GE218.out) | exact HB.out))); (case side4 => exact HC0_9.out); (case side5 => exact Kd.C_below HR0_10.out (by repeat (first | (with_reducible first | exact HB.out | apply below_alloc | apply pw_below_drewN | apply below_drew1 | refine below_set ?_ GE210.out | refine below_set ?_ GE218.out) | exact HB.out))); (case side6 => exact HC0_10.out); (case side7 => exact Kd.C_below HR0_12.out (by repeat (first | (with_reducible first | exact HB.out | apply below_alloc | apply pw_below_drewN | apply below_drew1 | refine below_set ?_ GE210.out | refine below_set ?_ GE218.out) | exact HB.out))); (case side8 => exact HC0_12.out); rintro e w41 ⟨rfl, hb⟩; have n0_ := Aside0.mk (blk_below (g := gb210) (o := .cells #[.int .i64 a0_0, .int .i64 a0_1, .int .i64 a0_2, .int .i64 a0_3, .bool a0_4, .int .i64 a0_5, .int .i64 a0_6, .int .i64 a0_7, .slice A0_8 l0_8.length c0_8, .slice (some ad217) l0_9.length c0_9, .slice A0_10 l0_10.length c0_10, .string a0_11, .slice A0_12 l0_12.length c0_12] 62 (0, 0)) (by (with_reducible repeat (first | refine blk_drewN ?_ _ | refine blk_drew ?_ | refine blk_alloc ?_ _)); refine blk_far ?_ NB210_218.out _; (with_reducible repeat (first | refine blk_drewN ?_ _ | refine blk_drew ?_ | refine blk_alloc ?_ _)); refine blk_far ?_ NB210_218.out _; (with_reducible repeat (first | refine blk_drewN ?_ _ | refine blk_drew ?_ | refine blk_alloc ?_ _)); refine blk_far ?_ NB210_218.out _; (with_reducible repeat (first | refine blk_drewN ?_ _ | refine blk_drew ?_ | refine blk_alloc ?_ _)); exact BK210.out) hb); have n1_ := Aside0.mk (blk_below (g := gb218) (o := .cells #[.int .i64 ((rd_T43 l0_9 x50_2).f0), .int .i64 ((rd_T43 l0_9 x50_2).f1), .int .i64 ((rd_T43 l0_9 x50_2).f2)] 43 (0, 0)) (by (with_reducible repeat (first | refine blk_drewN ?_ _ | refine blk_drew ?_ | refine blk_alloc ?_ _)); refine blk_put (cs := #[.int .i64 ((rd_T43 l0_9 x50_2).f0), .int .i64 ((rd_T43 l0_9 x50_2).f1), .int .i64 0]) ?_ 2 _ rfl; (with_reducible repeat (first | refine blk_drewN ?_ _ | refine blk_drew ?_ | refine blk_alloc ?_ _)); refine blk_put (cs := #[.int .i64 ((rd_T43 l0_9 x50_2).f0), .int .i64 0, .int .i64 0]) ?_ 1 _ rfl; (with_reducible repeat (first | refine blk_drewN ?_ _ | refine blk_drew ?_ | refine blk_alloc ?_ _)); refine blk_put (cs := #[.int .i64 0, .int .i64 0, .int .i64 0]) ?_ 0 _ rfl; (with_reducible repeat (first | refine blk_drewN ?_ _ | refine blk_drew ?_ | refine blk_alloc ?_ _)); exact BK218.out) hb); have n2_ := Aside0.mk (below_step (by repeat (first | (with_reducible first | exact HB.out | apply below_alloc | apply pw_below_drewN | apply below_drew1 | refine below_set ?_ GE210.out | refine below_set ?_ GE218.out) | exact HB.out)) hb); clear BK210; clear BK218; clear HB; have BK210 := n0_; have BK218 := n1_; have HB := n2_; clear n0_ n1_ n2_; (try clear hb); (try clear hb2); (try clear hk); (try clear hi))))
         (try simp only [Act.put, List.setIfInBounds_toArray, List.set_cons_zero, List.set_cons_succ])
         go_cut [74] (fun v74 wc => ∃ (kq : Nat) (x74_35 : Bool), v74 = .bool x74_35 ∧ Aside0 (meeting_hall_validVoters.j3 kq l0_9 (l0_9.length : Int) x50_2 x74_35 a0_0 a0_1 a0_2 a0_3 a0_4 a0_5 a0_6 a0_7 l0_8 l0_9 l0_10 a0_11 l0_12 = some r) ∧ Aside0 (kq ≤ k2) ∧ Aside0 (wc.heap[gb210]? = some (.cells #[.int .i64 a0_0, .int .i64 a0_1, .int .i64 a0_2, .int .i64 a0_3, .bool a0_4, .int .i64 a0_5, .int .i64 a0_6, .int .i64 a0_7, (.slice A0_8 l0_8.length c0_8), (.slice (some ad217) l0_9.length c0_9), (.slice A0_10 l0_10.length c0_10), .string a0_11, (.slice A0_12 l0_12.length c0_12)] 62 (0, 0))) ∧ Aside0 (wc.heap[gb218]? = some (.cells #[.int .i64 ((rd_T43 l0_9 x50_2).f0), .int .i64 ((rd_T43 l0_9 x50_2).f1), .int .i64 ((rd_T43 l0_9 x50_2).f2)] 43 (0, 0))) ∧ Aside0 (Below w.heap.size w wc))
         case first =>
          have H := HC36.out
          clear HC36
          by_cases c42 : ((rd_T43 l0_9 x50_2).f2) = 0
          ·rw [if_pos c42] at H
           have c42b0 : (((rd_T43 l0_9 x50_2).f2) == 0) = true := beq_iff_eq.mpr c42
           have c42b1 : (((rd_T43 l0_9 x50_2).f2) != 0) = false := bne_eq_false_iff_eq.mpr c42
           clear c42
           (first | rw [c42b0] | (simp only [i64_w, i32_w]; rw [c42b0]) | skip)
           have H' := Aside0.mk H
           clear H
           have hnb43 := NB218_210.out
           have hnc43 := NB210_218.out
           have hcz44_0 : w41.cell? ⟨gb218, 0, none⟩ = some (.int .i64 ((rd_T43 l0_9 x50_2).f0)) := (blk_cell BK218.out 0).trans rfl
           have hcz44_1 : w41.cell? ⟨gb218, 1, none⟩ = some (.int .i64 ((rd_T43 l0_9 x50_2).f1)) := (blk_cell BK218.out 1).trans rfl
           have hcz44_2 : w41.cell? ⟨gb218, 2, none⟩ = some (.int .i64 ((rd_T43 l0_9 x50_2).f2)) := (blk_cell BK218.out 2).trans rfl
           have hfz44_0 := blk_frozen BK218.out 0
           have hfz44_1 := blk_frozen BK218.out 1
           have hfz44_2 := blk_frozen BK218.out 2
           go_wp2
           repeat (go_quiet (fail); try go_wp2)
           go_meet
           case rel => exact ⟨_, (false), (by first | rfl | (simp; done) | (simp [*]; done)), H', ⟨by have := HK1.out; have := HK2.out; first | omega | exact Nat.le_refl _⟩, ⟨by (with_reducible repeat (first | refine blk_drewN ?_ _ | refine blk_drew ?_ | refine blk_alloc ?_ _)); exact BK210.out⟩, ⟨by (with_reducible repeat (first | refine blk_drewN ?_ _ | refine blk_drew ?_ | refine blk_alloc ?_ _)); exact BK218.out⟩, ⟨by repeat (first | (with_reducible first | exact HB.out | apply below_alloc | apply pw_below_drewN | apply below_drew1 | refine below_set ?_ GE210.out | refine below_set ?_ GE218.out) | exact HB.out)⟩⟩
          ·rw [if_neg c42] at H
           have c42b0 : (((rd_T43 l0_9 x50_2).f2) == 0) = false := beq_eq_false_iff_ne.mpr c42
           have c42b1 : (((rd_T43 l0_9 x50_2).f2) != 0) = true := bne_iff_ne.mpr c42
           (first | rw [c42b0] | (simp only [i64_w, i32_w]; rw [c42b0]) | skip)
           by_cases c45 : t220 = true
           ·subst c45
            have H1 : (meeting_hall_validVoters.j3 k2 l0_9 (l0_9.length : Int) x50_2 (((rd_T43 l0_9 x50_2).f2) == ((rd_T43 l0_9 x50_2).f0)) a0_0 a0_1 a0_2 a0_3 a0_4 a0_5 a0_6 a0_7 l0_8 l0_9 l0_10 a0_11 l0_12) = some r := by rw [if_pos rfl] at H; exact H
            clear H
            have H := H1
            clear H1
            have H' := Aside0.mk H
            clear H
            have hnb46 := NB218_210.out
            have hnc46 := NB210_218.out
            have hcz47_0 : w41.cell? ⟨gb218, 0, none⟩ = some (.int .i64 ((rd_T43 l0_9 x50_2).f0)) := (blk_cell BK218.out 0).trans rfl
            have hcz47_1 : w41.cell? ⟨gb218, 1, none⟩ = some (.int .i64 ((rd_T43 l0_9 x50_2).f1)) := (blk_cell BK218.out 1).trans rfl
            have hcz47_2 : w41.cell? ⟨gb218, 2, none⟩ = some (.int .i64 ((rd_T43 l0_9 x50_2).f2)) := (blk_cell BK218.out 2).trans rfl
            have hfz47_0 := blk_frozen BK218.out 0
            have hfz47_1 := blk_frozen BK218.out 1
            have hfz47_2 := blk_frozen BK218.out 2
            go_wp2
            repeat (go_quiet (fail); try go_wp2)
            go_meet
            case rel => exact ⟨_, ((((rd_T43 l0_9 x50_2).f2) == ((rd_T43 l0_9 x50_2).f0))), (by first | rfl | (simp; done) | (simp [*]; done)), H', ⟨by have := HK1.out; have := HK2.out; first | omega | exact Nat.le_refl _⟩, ⟨by (with_reducible repeat (first | refine blk_drewN ?_ _ | refine blk_drew ?_ | refine blk_alloc ?_ _)); exact BK210.out⟩, ⟨by (with_reducible repeat (first | refine blk_drewN ?_ _ | refine blk_drew ?_ | refine blk_alloc ?_ _)); exact BK218.out⟩, ⟨by repeat (first | (with_reducible first | exact HB.out | apply below_alloc | apply pw_below_drewN | apply below_drew1 | refine below_set ?_ GE210.out | refine below_set ?_ GE218.out) | exact HB.out)⟩⟩
           ·replace c45 := Bool.eq_false_iff.mpr c45
            subst c45
            have H1 : (meeting_hall_validVoters.j3 k2 l0_9 (l0_9.length : Int) x50_2 true a0_0 a0_1 a0_2 a0_3 a0_4 a0_5 a0_6 a0_7 l0_8 l0_9 l0_10 a0_11 l0_12) = some r := by rw [if_neg (show ¬ (false = true) by decide)] at H; exact H
            clear H
            have H := H1
            clear H1
            have H' := Aside0.mk H
            clear H
            have hnb48 := NB218_210.out
            have hnc48 := NB210_218.out
            have hcz49_0 : w41.cell? ⟨gb218, 0, none⟩ = some (.int .i64 ((rd_T43 l0_9 x50_2).f0)) := (blk_cell BK218.out 0).trans rfl
            have hcz49_1 : w41.cell? ⟨gb218, 1, none⟩ = some (.int .i64 ((rd_T43 l0_9 x50_2).f1)) := (blk_cell BK218.out 1).trans rfl
            have hcz49_2 : w41.cell? ⟨gb218, 2, none⟩ = some (.int .i64 ((rd_T43 l0_9 x50_2).f2)) := (blk_cell BK218.out 2).trans rfl
            have hfz49_0 := blk_frozen BK218.out 0
            have hfz49_1 := blk_frozen BK218.out 1
            have hfz49_2 := blk_frozen BK218.out 2
            go_wp2
            repeat (go_quiet (fail); try go_wp2)
            go_meet
            case rel => exact ⟨_, (true), (by first | rfl | (simp; done) | (simp [*]; done)), H', ⟨by have := HK1.out; have := HK2.out; first | omega | exact Nat.le_refl _⟩, ⟨by (with_reducible repeat (first | refine blk_drewN ?_ _ | refine blk_drew ?_ | refine blk_alloc ?_ _)); exact BK210.out⟩, ⟨by (with_reducible repeat (first | refine blk_drewN ?_ _ | refine blk_drew ?_ | refine blk_alloc ?_ _)); exact BK218.out⟩, ⟨by repeat (first | (with_reducible first | exact HB.out | apply below_alloc | apply pw_below_drewN | apply below_drew1 | refine below_set ?_ GE210.out | refine below_set ?_ GE218.out) | exact HB.out)⟩⟩
         case rest =>
          clear HC36
          try clear c1
          try clear c2
          try clear p2
          try clear q2
          try clear hx2
          try clear c3
          try clear c4
          try clear c4b0
          try clear c5
          try clear c5b0
          try clear c6
          try clear c6b0
          try clear p6
          try clear c9
          try clear c12
          try clear c13
          try clear c13b0
          try clear c15
          try clear c15b0
          try clear c16
          try clear c16b0
          try clear c17
          try clear c17b0
          try clear c18
          try clear p21
          try clear q21
          try clear hx21
          try clear c22
          try clear c26
          try clear c28
          try clear c30
          try clear c32
          try clear c32b0
          try clear c33
          try clear c33b0
          try clear c34
          try clear c34b0
          try clear c38
          try clear c42
          try clear c42b0
          try clear c42b1
          try clear c43
          try clear c45
          try clear c46
          try clear c48
          try clear hcz10_0
          try clear hcz10_1
          try clear hcz10_2
          try clear hcz19_0
          try clear hcz19_1
          try clear hcz19_2
          try clear hcz20_0
          try clear hcz20_1
          try clear hcz20_10
          try clear hcz20_11
          try clear hcz20_12
          try clear hcz20_2
          try clear hcz20_3
          try clear hcz20_4
          try clear hcz20_5
          try clear hcz20_6
          try clear hcz20_7
          try clear hcz20_8
          try clear hcz20_9
          try clear hcz23_0
          try clear hcz23_1
          try clear hcz23_2
          try clear hcz24_0
          try clear hcz24_1
          try clear hcz24_10
          try clear hcz24_11
          try clear hcz24_12
          try clear hcz24_2
          try clear hcz24_3
          try clear hcz24_4
          try clear hcz24_5
          try clear hcz24_6
          try clear hcz24_7
          try clear hcz24_8
          try clear hcz24_9
          try clear hcz27_0
          try clear hcz27_1
          try clear hcz27_2
          try clear hcz29_0
          try clear hcz29_1
          try clear hcz29_2
          try clear hcz31_0
          try clear hcz31_1
          try clear hcz31_10
          try clear hcz31_11
          try clear hcz31_12
          try clear hcz31_2
          try clear hcz31_3
          try clear hcz31_4
          try clear hcz31_5
          try clear hcz31_6
          try clear hcz31_7
          try clear hcz31_8
          try clear hcz31_9
          try clear hcz39_0
          try clear hcz39_1
          try clear hcz39_2
          try clear hcz3_0
          try clear hcz3_1
          try clear hcz3_10
          try clear hcz3_11
          try clear hcz3_12
          try clear hcz3_2
          try clear hcz3_3
          try clear hcz3_4
          try clear hcz3_5
          try clear hcz3_6
          try clear hcz3_7
          try clear hcz3_8
          try clear hcz3_9
          try clear hcz40_0
          try clear hcz40_1
          try clear hcz40_10
          try clear hcz40_11
          try clear hcz40_12
          try clear hcz40_2
          try clear hcz40_3
          try clear hcz40_4
          try clear hcz40_5
          try clear hcz40_6
          try clear hcz40_7
          try clear hcz40_8
          try clear hcz40_9
          try clear hcz44_0
          try clear hcz44_1
          try clear hcz44_2
          try clear hcz47_0
          try clear hcz47_1
          try clear hcz47_2
          try clear hcz49_0
          try clear hcz49_1
          try clear hcz49_2
          try clear hfz10_0
          try clear hfz10_1
          try clear hfz10_2
          try clear hfz19_0
          try clear hfz19_1
          try clear hfz19_2
          try clear hfz20_0
          try clear hfz20_1
          try clear hfz20_10
          try clear hfz20_11
          try clear hfz20_12
          try clear hfz20_2
          try clear hfz20_3
          try clear hfz20_4
          try clear hfz20_5
          try clear hfz20_6
          try clear hfz20_7
          try clear hfz20_8
          try clear hfz20_9
          try clear hfz23_0
          try clear hfz23_1
          try clear hfz23_2
          try clear hfz24_0
          try clear hfz24_1
          try clear hfz24_10
          try clear hfz24_11
          try clear hfz24_12
          try clear hfz24_2
          try clear hfz24_3
          try clear hfz24_4
          try clear hfz24_5
          try clear hfz24_6
          try clear hfz24_7
          try clear hfz24_8
          try clear hfz24_9
          try clear hfz27_0
          try clear hfz27_1
          try clear hfz27_2
          try clear hfz29_0
          try clear hfz29_1
          try clear hfz29_2
          try clear hfz31_0
          try clear hfz31_1
          try clear hfz31_10
          try clear hfz31_11
          try clear hfz31_12
          try clear hfz31_2
          try clear hfz31_3
          try clear hfz31_4
          try clear hfz31_5
          try clear hfz31_6
          try clear hfz31_7
          try clear hfz31_8
          try clear hfz31_9
          try clear hfz39_0
          try clear hfz39_1
          try clear hfz39_2
          try clear hfz3_0
          try clear hfz3_1
          try clear hfz3_10
          try clear hfz3_11
          try clear hfz3_12
          try clear hfz3_2
          try clear hfz3_3
          try clear hfz3_4
          try clear hfz3_5
          try clear hfz3_6
          try clear hfz3_7
          try clear hfz3_8
          try clear hfz3_9
          try clear hfz40_0
          try clear hfz40_1
          try clear hfz40_10
          try clear hfz40_11
          try clear hfz40_12
          try clear hfz40_2
          try clear hfz40_3
          try clear hfz40_4
          try clear hfz40_5
          try clear hfz40_6
          try clear hfz40_7
          try clear hfz40_8
          try clear hfz40_9
          try clear hfz44_0
          try clear hfz44_1
          try clear hfz44_2
          try clear hfz47_0
          try clear hfz47_1
          try clear hfz47_2
          try clear hfz49_0
          try clear hfz49_1
          try clear hfz49_2
          try clear hx211_0
          try clear hx211_1
          try clear hx211_2
          try clear hx214_0
          try clear hx214_1
          try clear hx214_2
          try clear hx217_0
          try clear hx217_1
          try clear hx217_2
          try clear p2
          try clear p21
          try clear p211
          try clear p214
          try clear p217
          try clear p6
          try clear q2
          try clear q21
          try clear q211
          try clear q214
          try clear q217
          obtain ⟨kq, x74_35, rfl, HA, HJ35, BK210, BK218, HB⟩ := hcut
          cases kq with
          | zero => exact absurd HA.out (by simp [meeting_hall_validVoters.j3])
          | succ kj35 =>
           have H := HA.out
           clear HA
           simp only [meeting_hall_validVoters.j3] at H
           by_cases c50 : x74_35 = true
           ·subst c50
            have H1 : (some false) = some r := by rw [if_pos rfl] at H; exact H
            clear H
            have H := H1
            clear H1
            obtain rfl := Option.some.inj H
            go_wp2
            repeat (go_quiet (fail); try go_wp2)
            go_ret
            exact ⟨by first | rfl | (simp [errW_none, errW_some] <;> rfl) | (simp [*, errW_none, errW_some] <;> rfl), by repeat (first | (with_reducible first | exact HB.out | apply below_alloc | apply pw_below_drewN | apply below_drew1 | refine below_set ?_ GE210.out | refine below_set ?_ GE218.out) | exact HB.out)⟩
           ·replace c50 := Bool.eq_false_iff.mpr c50
            subst c50
            have H1 : (meeting_hall_validVoters.l1 kj35 l0_9 (l0_9.length : Int) (wrap64 (x50_2 + 1)) a0_0 a0_1 a0_2 a0_3 a0_4 a0_5 a0_6 a0_7 l0_8 l0_9 l0_10 a0_11 l0_12) = some r := by rw [if_neg (show ¬ (false = true) by decide)] at H; exact H
            clear H
            have H := H1
            clear H1
            have H' := Aside0.mk H
            clear H
            go_wp2
            repeat (go_quiet (fail); try go_wp2)
            go_roundg kj35
            case measure => have := HK1.out; have := HK2.out; have := HJ35.out; omega
            case rel => exact ⟨(wrap64 (x50_2 + 1)), (by first | rfl | (simp; done) | (simp [*]; done)), H', ⟨by have := HK1.out; have := HK2.out; have := HJ35.out; omega⟩, ⟨by (with_reducible repeat (first | refine blk_drewN ?_ _ | refine blk_drew ?_ | refine blk_alloc ?_ _)); exact BK210.out⟩, ⟨by repeat (first | (with_reducible first | exact HB.out | apply below_alloc | apply pw_below_drewN | apply below_drew1 | refine below_set ?_ GE210.out | refine below_set ?_ GE218.out) | exact HB.out)⟩⟩
        ·rw [if_neg c34] at H
         exact absurd H (by simp)
       ·rw [if_neg c33] at H
        exact absurd H (by simp)
      ·rw [if_neg c32] at H
       have c32b0 : decide (x50_2 < (l0_9.length : Int)) = false := decide_eq_false c32
       clear c32
       obtain rfl := Option.some.inj H
       have hcz51_0 : wr.cell? ⟨gb210, 0, none⟩ = some (.int .i64 a0_0) := (blk_cell BK210.out 0).trans rfl
       have hcz51_1 : wr.cell? ⟨gb210, 1, none⟩ = some (.int .i64 a0_1) := (blk_cell BK210.out 1).trans rfl
       have hcz51_2 : wr.cell? ⟨gb210, 2, none⟩ = some (.int .i64 a0_2) := (blk_cell BK210.out 2).trans rfl
       have hcz51_3 : wr.cell? ⟨gb210, 3, none⟩ = some (.int .i64 a0_3) := (blk_cell BK210.out 3).trans rfl
       have hcz51_4 : wr.cell? ⟨gb210, 4, none⟩ = some (.bool a0_4) := (blk_cell BK210.out 4).trans rfl
       have hcz51_5 : wr.cell? ⟨gb210, 5, none⟩ = some (.int .i64 a0_5) := (blk_cell BK210.out 5).trans rfl
       have hcz51_6 : wr.cell? ⟨gb210, 6, none⟩ = some (.int .i64 a0_6) := (blk_cell BK210.out 6).trans rfl
       have hcz51_7 : wr.cell? ⟨gb210, 7, none⟩ = some (.int .i64 a0_7) := (blk_cell BK210.out 7).trans rfl
       have hcz51_8 : wr.cell? ⟨gb210, 8, none⟩ = some (.slice A0_8 l0_8.length c0_8) := (blk_cell BK210.out 8).trans rfl
       have hcz51_9 : wr.cell? ⟨gb210, 9, none⟩ = some (.slice A0_9 l0_9.length c0_9) := (blk_cell BK210.out 9).trans rfl
       have hcz51_10 : wr.cell? ⟨gb210, 10, none⟩ = some (.slice A0_10 l0_10.length c0_10) := (blk_cell BK210.out 10).trans rfl
       have hcz51_11 : wr.cell? ⟨gb210, 11, none⟩ = some (.string a0_11) := (blk_cell BK210.out 11).trans rfl
       have hcz51_12 : wr.cell? ⟨gb210, 12, none⟩ = some (.slice A0_12 l0_12.length c0_12) := (blk_cell BK210.out 12).trans rfl
       have hfz51_0 := blk_frozen BK210.out 0
       have hfz51_1 := blk_frozen BK210.out 1
       have hfz51_2 := blk_frozen BK210.out 2
       have hfz51_3 := blk_frozen BK210.out 3
       have hfz51_4 := blk_frozen BK210.out 4
       have hfz51_5 := blk_frozen BK210.out 5
       have hfz51_6 := blk_frozen BK210.out 6
       have hfz51_7 := blk_frozen BK210.out 7
       have hfz51_8 := blk_frozen BK210.out 8
       have hfz51_9 := blk_frozen BK210.out 9
       have hfz51_10 := blk_frozen BK210.out 10
       have hfz51_11 := blk_frozen BK210.out 11
       have hfz51_12 := blk_frozen BK210.out 12
       go_wp2
       repeat (go_quiet (fail); try go_wp2)
       go_ret
       exact ⟨by first | rfl | (simp [errW_none, errW_some] <;> rfl) | (simp [*, errW_none, errW_some] <;> rfl), by repeat (first | (with_reducible first | exact HB.out | apply below_alloc | apply pw_below_drewN | apply below_drew1 | refine below_set ?_ GE210.out) | exact HB.out)⟩
end Go.Proofs.Ytemnlgefngjliaa.Px
