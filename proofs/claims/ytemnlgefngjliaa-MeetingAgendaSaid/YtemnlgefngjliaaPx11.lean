/- Contracts of Go functions, written by a program of this session's own (wip/tools/myprint.py) out of the translation: each Go function does what the Lean function of its name says. Conditions: as each theorem states. -/
import Derived.Test.YtemnlgefngjliaaPx0
import Derived.Test.YtemnlgefngjliaaPx4
import Derived.Test.YtemnlgefngjliaaPx8
namespace Go.Proofs.Ytemnlgefngjliaa.Px
open Go.Proofs.Ytemnlgefngjliaa.Given
open Go.RowKit Go.Proofs.YtemnlgefngjliaaW.PrintWords Go.Proofs.YtemnlgefngjliaaW.PrintLast Go.Proofs.YtemnlgefngjliaaW.PrintMore
attribute [local go_sem] max2_int min2_int max_two min_two max_three min_three max_four min_four   -- for this text's walks alone
set_option linter.unusedVariables false
set_option linter.unusedSimpArgs false
/-! ### meeting_hall_validVoters: function 55 -/
mutual
def meeting_hall_validVoters.l0 : Nat → List (S43) → Int → Int → Int → Int → Int → Int → Bool → Int → Int → Int → List ByteArray → List (S43) → List Int → ByteArray → List Int → Option (Bool)
 | 0, _, _, _, _, _, _, _, _, _, _, _, _, _, _, _, _ => none
 | k + 1, x11, x12, x13, x211000, x211001, x211002, x211003, x211004, x211005, x211006, x211007, x211008, x211009, x211010, x211011, x211012 => if x13 < x12 then (if 0 ≤ x13 then (if x13 < (x11.length : Int) then ((meeting_within.f ((rd_T43 x11 x13).f0) 1 64).bind fun t213 => (if t213 = true then (if x13 > 0 then (if 0 ≤ (wrap64 (x13 - 1)) then (if (wrap64 (x13 - 1)) < (x211009.length : Int) then (if ((rd_T43 x11 x13).f0) ≤ ((rd_T43 x211009 (wrap64 (x13 - 1))).f0) then (meeting_hall_validVoters.j1 k x11 x12 x13 true x211000 x211001 x211002 x211003 x211004 x211005 x211006 x211007 x211008 x211009 x211010 x211011 x211012) else ((meeting_within.f ((rd_T43 x11 x13).f1) 0 1000).bind fun t215 => (meeting_hall_validVoters.j1 k x11 x12 x13 (!t215) x211000 x211001 x211002 x211003 x211004 x211005 x211006 x211007 x211008 x211009 x211010 x211011 x211012))) else (none)) else (none)) else ((meeting_within.f ((rd_T43 x11 x13).f1) 0 1000).bind fun t216 => (meeting_hall_validVoters.j1 k x11 x12 x13 (!t216) x211000 x211001 x211002 x211003 x211004 x211005 x211006 x211007 x211008 x211009 x211010 x211011 x211012))) else (meeting_hall_validVoters.j1 k x11 x12 x13 true x211000 x211001 x211002 x211003 x211004 x211005 x211006 x211007 x211008 x211009 x211010 x211011 x211012))) else (none)) else (none)) else (meeting_hall_validVoters.l1 k x211009 (x211009.length : Int) 0 x211000 x211001 x211002 x211003 x211004 x211005 x211006 x211007 x211008 x211009 x211010 x211011 x211012)
def meeting_hall_validVoters.j1 : Nat → List (S43) → Int → Int → Bool → Int → Int → Int → Int → Bool → Int → Int → Int → List ByteArray → List (S43) → List Int → ByteArray → List Int → Option (Bool)
 | 0, _, _, _, _, _, _, _, _, _, _, _, _, _, _, _, _, _ => none
 | k + 1, x11, x12, x13, x44, x211000, x211001, x211002, x211003, x211004, x211005, x211006, x211007, x211008, x211009, x211010, x211011, x211012 => if x44 = true then (some false) else (meeting_hall_validVoters.l0 k x11 x12 (wrap64 (x13 + 1)) x211000 x211001 x211002 x211003 x211004 x211005 x211006 x211007 x211008 x211009 x211010 x211011 x211012)
def meeting_hall_validVoters.l1 : Nat → List (S43) → Int → Int → Int → Int → Int → Int → Bool → Int → Int → Int → List ByteArray → List (S43) → List Int → ByteArray → List Int → Option (Bool)
 | 0, _, _, _, _, _, _, _, _, _, _, _, _, _, _, _, _ => none
 | k + 1, x48, x49, x50, x211000, x211001, x211002, x211003, x211004, x211005, x211006, x211007, x211008, x211009, x211010, x211011, x211012 => if x50 < x49 then (if 0 ≤ x50 then (if x50 < (x48.length : Int) then ((meeting_hall_find.f k x211000 x211001 x211002 x211003 x211004 x211005 x211006 x211007 x211008 x211009 x211010 x211011 x211012 ((rd_T43 x48 x50).f2)).bind fun bt219 => (if ((rd_T43 x48 x50).f2) = 0 then (meeting_hall_validVoters.j3 k x48 x49 x50 false x211000 x211001 x211002 x211003 x211004 x211005 x211006 x211007 x211008 x211009 x211010 x211011 x211012) else (if bt219.2 = true then (meeting_hall_validVoters.j3 k x48 x49 x50 (((rd_T43 x48 x50).f2) == ((rd_T43 x48 x50).f0)) x211000 x211001 x211002 x211003 x211004 x211005 x211006 x211007 x211008 x211009 x211010 x211011 x211012) else (meeting_hall_validVoters.j3 k x48 x49 x50 true x211000 x211001 x211002 x211003 x211004 x211005 x211006 x211007 x211008 x211009 x211010 x211011 x211012)))) else (none)) else (none)) else (some (decide ((x211009.length : Int) ≤ 64)))
def meeting_hall_validVoters.j3 : Nat → List (S43) → Int → Int → Bool → Int → Int → Int → Int → Bool → Int → Int → Int → List ByteArray → List (S43) → List Int → ByteArray → List Int → Option (Bool)
 | 0, _, _, _, _, _, _, _, _, _, _, _, _, _, _, _, _, _ => none
 | k + 1, x48, x49, x50, x74, x211000, x211001, x211002, x211003, x211004, x211005, x211006, x211007, x211008, x211009, x211010, x211011, x211012 => if x74 = true then (some false) else (meeting_hall_validVoters.l1 k x48 x49 (wrap64 (x50 + 1)) x211000 x211001 x211002 x211003 x211004 x211005 x211006 x211007 x211008 x211009 x211010 x211011 x211012)
end
def meeting_hall_validVoters.f (k : Nat) (a0_0 : Int) (a0_1 : Int) (a0_2 : Int) (a0_3 : Int) (a0_4 : Bool) (a0_5 : Int) (a0_6 : Int) (a0_7 : Int) (l0_8 : List ByteArray) (l0_9 : List (S43)) (l0_10 : List Int) (a0_11 : ByteArray) (l0_12 : List Int) : Option (Bool) := meeting_hall_validVoters.l0 k l0_9 (l0_9.length : Int) 0 a0_0 a0_1 a0_2 a0_3 a0_4 a0_5 a0_6 a0_7 l0_8 l0_9 l0_10 a0_11 l0_12
theorem meeting_hall_validVoters.mono_l : ∀ k, (∀ y0 y1 y2 y3 y4 y5 y6 y7 y8 y9 y10 y11 y12 y13 y14 y15, LeO (meeting_hall_validVoters.l0 k y0 y1 y2 y3 y4 y5 y6 y7 y8 y9 y10 y11 y12 y13 y14 y15) (meeting_hall_validVoters.l0 (k + 1) y0 y1 y2 y3 y4 y5 y6 y7 y8 y9 y10 y11 y12 y13 y14 y15)) ∧ (∀ y0 y1 y2 y3 y4 y5 y6 y7 y8 y9 y10 y11 y12 y13 y14 y15 y16, LeO (meeting_hall_validVoters.j1 k y0 y1 y2 y3 y4 y5 y6 y7 y8 y9 y10 y11 y12 y13 y14 y15 y16) (meeting_hall_validVoters.j1 (k + 1) y0 y1 y2 y3 y4 y5 y6 y7 y8 y9 y10 y11 y12 y13 y14 y15 y16)) ∧ (∀ y0 y1 y2 y3 y4 y5 y6 y7 y8 y9 y10 y11 y12 y13 y14 y15, LeO (meeting_hall_validVoters.l1 k y0 y1 y2 y3 y4 y5 y6 y7 y8 y9 y10 y11 y12 y13 y14 y15) (meeting_hall_validVoters.l1 (k + 1) y0 y1 y2 y3 y4 y5 y6 y7 y8 y9 y10 y11 y12 y13 y14 y15)) ∧ (∀ y0 y1 y2 y3 y4 y5 y6 y7 y8 y9 y10 y11 y12 y13 y14 y15 y16, LeO (meeting_hall_validVoters.j3 k y0 y1 y2 y3 y4 y5 y6 y7 y8 y9 y10 y11 y12 y13 y14 y15 y16) (meeting_hall_validVoters.j3 (k + 1) y0 y1 y2 y3 y4 y5 y6 y7 y8 y9 y10 y11 y12 y13 y14 y15 y16))
 | 0 => ⟨fun _ _ _ _ _ _ _ _ _ _ _ _ _ _ _ _ r h => by simp [meeting_hall_validVoters.l0] at h, fun _ _ _ _ _ _ _ _ _ _ _ _ _ _ _ _ _ r h => by simp [meeting_hall_validVoters.j1] at h, fun _ _ _ _ _ _ _ _ _ _ _ _ _ _ _ _ r h => by simp [meeting_hall_validVoters.l1] at h, fun _ _ _ _ _ _ _ _ _ _ _ _ _ _ _ _ _ r h => by simp [meeting_hall_validVoters.j3] at h⟩
 | k + 1 => by
  obtain ⟨ih0, ih1, ih2, ih3⟩ := meeting_hall_validVoters.mono_l k
  refine ⟨?_, ?_, ?_, ?_⟩
  ·intro y0 y1 y2 y3 y4 y5 y6 y7 y8 y9 y10 y11 y12 y13 y14 y15
   unfold meeting_hall_validVoters.l0
   repeat' first
   | (with_reducible exact ih0 _ _ _ _ _ _ _ _ _ _ _ _ _ _ _ _)
   | (with_reducible exact ih1 _ _ _ _ _ _ _ _ _ _ _ _ _ _ _ _ _)
   | (with_reducible exact ih2 _ _ _ _ _ _ _ _ _ _ _ _ _ _ _ _)
   | (with_reducible exact ih3 _ _ _ _ _ _ _ _ _ _ _ _ _ _ _ _ _)
   | (with_reducible exact meeting_hall_find.mono _ _ _ _ _ _ _ _ _ _ _ _ _ _ _)
   | (with_reducible exact LeO.refl _)
   | (with_reducible exact LeO.none _)
   | (with_reducible refine LeO.ite ?_ ?_)
   | (with_reducible refine LeO.bind ?_ (fun _ => ?_))
   | exact ih0 _ _ _ _ _ _ _ _ _ _ _ _ _ _ _ _
   | exact ih1 _ _ _ _ _ _ _ _ _ _ _ _ _ _ _ _ _
   | exact ih2 _ _ _ _ _ _ _ _ _ _ _ _ _ _ _ _
   | exact ih3 _ _ _ _ _ _ _ _ _ _ _ _ _ _ _ _ _
   | exact meeting_hall_find.mono _ _ _ _ _ _ _ _ _ _ _ _ _ _ _
   | exact LeO.none _
   | refine LeO.ite ?_ ?_
   | refine LeO.bind ?_ (fun _ => ?_)
  ·intro y0 y1 y2 y3 y4 y5 y6 y7 y8 y9 y10 y11 y12 y13 y14 y15 y16
   unfold meeting_hall_validVoters.j1
   repeat' first
   | (with_reducible exact ih0 _ _ _ _ _ _ _ _ _ _ _ _ _ _ _ _)
   | (with_reducible exact ih1 _ _ _ _ _ _ _ _ _ _ _ _ _ _ _ _ _)
   | (with_reducible exact ih2 _ _ _ _ _ _ _ _ _ _ _ _ _ _ _ _)
   | (with_reducible exact ih3 _ _ _ _ _ _ _ _ _ _ _ _ _ _ _ _ _)
   | (with_reducible exact meeting_hall_find.mono _ _ _ _ _ _ _ _ _ _ _ _ _ _ _)
   | (with_reducible exact LeO.refl _)
   | (with_reducible exact LeO.none _)
   | (with_reducible refine LeO.ite ?_ ?_)
   | (with_reducible refine LeO.bind ?_ (fun _ => ?_))
   | exact ih0 _ _ _ _ _ _ _ _ _ _ _ _ _ _ _ _
   | exact ih1 _ _ _ _ _ _ _ _ _ _ _ _ _ _ _ _ _
   | exact ih2 _ _ _ _ _ _ _ _ _ _ _ _ _ _ _ _
   | exact ih3 _ _ _ _ _ _ _ _ _ _ _ _ _ _ _ _ _
   | exact meeting_hall_find.mono _ _ _ _ _ _ _ _ _ _ _ _ _ _ _
   | exact LeO.none _
   | refine LeO.ite ?_ ?_
   | refine LeO.bind ?_ (fun _ => ?_)
  ·intro y0 y1 y2 y3 y4 y5 y6 y7 y8 y9 y10 y11 y12 y13 y14 y15
   unfold meeting_hall_validVoters.l1
   repeat' first
   | (with_reducible exact ih0 _ _ _ _ _ _ _ _ _ _ _ _ _ _ _ _)
   | (with_reducible exact ih1 _ _ _ _ _ _ _ _ _ _ _ _ _ _ _ _ _)
   | (with_reducible exact ih2 _ _ _ _ _ _ _ _ _ _ _ _ _ _ _ _)
   | (with_reducible exact ih3 _ _ _ _ _ _ _ _ _ _ _ _ _ _ _ _ _)
   | (with_reducible exact meeting_hall_find.mono _ _ _ _ _ _ _ _ _ _ _ _ _ _ _)
   | (with_reducible exact LeO.refl _)
   | (with_reducible exact LeO.none _)
   | (with_reducible refine LeO.ite ?_ ?_)
   | (with_reducible refine LeO.bind ?_ (fun _ => ?_))
   | exact ih0 _ _ _ _ _ _ _ _ _ _ _ _ _ _ _ _
   | exact ih1 _ _ _ _ _ _ _ _ _ _ _ _ _ _ _ _ _
   | exact ih2 _ _ _ _ _ _ _ _ _ _ _ _ _ _ _ _
   | exact ih3 _ _ _ _ _ _ _ _ _ _ _ _ _ _ _ _ _
   | exact meeting_hall_find.mono _ _ _ _ _ _ _ _ _ _ _ _ _ _ _
   | exact LeO.none _
   | refine LeO.ite ?_ ?_
   | refine LeO.bind ?_ (fun _ => ?_)
  ·intro y0 y1 y2 y3 y4 y5 y6 y7 y8 y9 y10 y11 y12 y13 y14 y15 y16
   unfold meeting_hall_validVoters.j3
   repeat' first
   | (with_reducible exact ih0 _ _ _ _ _ _ _ _ _ _ _ _ _ _ _ _)
   | (with_reducible exact ih1 _ _ _ _ _ _ _ _ _ _ _ _ _ _ _ _ _)
   | (with_reducible exact ih2 _ _ _ _ _ _ _ _ _ _ _ _ _ _ _ _)
   | (with_reducible exact ih3 _ _ _ _ _ _ _ _ _ _ _ _ _ _ _ _ _)
   | (with_reducible exact meeting_hall_find.mono _ _ _ _ _ _ _ _ _ _ _ _ _ _ _)
   | (with_reducible exact LeO.refl _)
   | (with_reducible exact LeO.none _)
   | (with_reducible refine LeO.ite ?_ ?_)
   | (with_reducible refine LeO.bind ?_ (fun _ => ?_))
   | exact ih0 _ _ _ _ _ _ _ _ _ _ _ _ _ _ _ _
   | exact ih1 _ _ _ _ _ _ _ _ _ _ _ _ _ _ _ _ _
   | exact ih2 _ _ _ _ _ _ _ _ _ _ _ _ _ _ _ _
   | exact ih3 _ _ _ _ _ _ _ _ _ _ _ _ _ _ _ _ _
   | exact meeting_hall_find.mono _ _ _ _ _ _ _ _ _ _ _ _ _ _ _
   | exact LeO.none _
   | refine LeO.ite ?_ ?_
   | refine LeO.bind ?_ (fun _ => ?_)
theorem meeting_hall_validVoters.mono : ∀ a0 a1 a2 a3 a4 a5 a6 a7 a8 a9 a10 a11 a12 k, LeO (meeting_hall_validVoters.f k a0 a1 a2 a3 a4 a5 a6 a7 a8 a9 a10 a11 a12) (meeting_hall_validVoters.f (k + 1) a0 a1 a2 a3 a4 a5 a6 a7 a8 a9 a10 a11 a12) := by
 intro a0 a1 a2 a3 a4 a5 a6 a7 a8 a9 a10 a11 a12 k
 obtain ⟨ih0, ih1, ih2, ih3⟩ := meeting_hall_validVoters.mono_l k
 unfold meeting_hall_validVoters.f
 repeat' first
   | (with_reducible exact ih0 _ _ _ _ _ _ _ _ _ _ _ _ _ _ _ _)
   | (with_reducible exact ih1 _ _ _ _ _ _ _ _ _ _ _ _ _ _ _ _ _)
   | (with_reducible exact ih2 _ _ _ _ _ _ _ _ _ _ _ _ _ _ _ _)
   | (with_reducible exact ih3 _ _ _ _ _ _ _ _ _ _ _ _ _ _ _ _ _)
   | (with_reducible exact meeting_hall_find.mono _ _ _ _ _ _ _ _ _ _ _ _ _ _ _)
   | (with_reducible exact LeO.refl _)
   | (with_reducible exact LeO.none _)
   | (with_reducible refine LeO.ite ?_ ?_)
   | (with_reducible refine LeO.bind ?_ (fun _ => ?_))
   | exact ih0 _ _ _ _ _ _ _ _ _ _ _ _ _ _ _ _
   | exact ih1 _ _ _ _ _ _ _ _ _ _ _ _ _ _ _ _ _
   | exact ih2 _ _ _ _ _ _ _ _ _ _ _ _ _ _ _ _
   | exact ih3 _ _ _ _ _ _ _ _ _ _ _ _ _ _ _ _ _
   | exact meeting_hall_find.mono _ _ _ _ _ _ _ _ _ _ _ _ _ _ _
   | exact LeO.none _
   | refine LeO.ite ?_ ?_
   | refine LeO.bind ?_ (fun _ => ?_)
set_option maxHeartbeats 8000000 in
set_option maxRecDepth 100000 in
theorem meeting_hall_validVoters.calls (k : Nat) (a0_0 : Int) (a0_1 : Int) (a0_2 : Int) (a0_3 : Int) (a0_4 : Bool) (a0_5 : Int) (a0_6 : Int) (a0_7 : Int) (A0_8 : Option Addr) (c0_8 : Nat) (l0_8 : List ByteArray) (A0_9 : Option Addr) (c0_9 : Nat) (l0_9 : List (S43)) (A0_10 : Option Addr) (c0_10 : Nat) (l0_10 : List Int) (a0_11 : ByteArray) (A0_12 : Option Addr) (c0_12 : Nat) (l0_12 : List Int) (r : Bool) (w : World) (hr0_8 : Kd.C Kd.string w A0_8 l0_8.length l0_8) (hc0_8 : l0_8.length ≤ c0_8) (hr0_9 : Kd.C k43 w A0_9 l0_9.length l0_9) (hc0_9 : l0_9.length ≤ c0_9) (hr0_10 : Kd.C (Kd.int .i64) w A0_10 l0_10.length l0_10) (hc0_10 : l0_10.length ≤ c0_10) (hr0_12 : Kd.C (Kd.int .i64) w A0_12 l0_12.length l0_12) (hc0_12 : l0_12.length ≤ c0_12) (h : meeting_hall_validVoters.f k a0_0 a0_1 a0_2 a0_3 a0_4 a0_5 a0_6 a0_7 l0_8 l0_9 l0_10 a0_11 l0_12 = some r) :
  Calls Try.prog 55 #[.agg #[.int .i64 a0_0, .int .i64 a0_1, .int .i64 a0_2, .int .i64 a0_3, .bool a0_4, .int .i64 a0_5, .int .i64 a0_6, .int .i64 a0_7, .slice A0_8 l0_8.length c0_8, .slice A0_9 l0_9.length c0_9, .slice A0_10 l0_10.length c0_10, .string a0_11, .slice A0_12 l0_12.length c0_12]] w fun e w' => e = .returned (.bool r) ∧ Below w.heap.size w w' := by
 have hu62 := Try.underlying62
 have hu43 := Try.underlying43
 have HR0_8 := Aside0.mk hr0_8
 have HC0_8 := Aside0.mk hc0_8
 clear hr0_8 hc0_8
 have HR0_9 := Aside0.mk hr0_9
 have HC0_9 := Aside0.mk hc0_9
 clear hr0_9 hc0_9
 have HR0_10 := Aside0.mk hr0_10
 have HC0_10 := Aside0.mk hc0_10
 clear hr0_10 hc0_10
 have HR0_12 := Aside0.mk hr0_12
 have HC0_12 := Aside0.mk hc0_12
 clear hr0_12 hc0_12
 have HB := Aside0.mk (Below.refl w.heap.size w)
 have H : (meeting_hall_validVoters.l0 k l0_9 (l0_9.length : Int) 0 a0_0 a0_1 a0_2 a0_3 a0_4 a0_5 a0_6 a0_7 l0_8 l0_9 l0_10 a0_11 l0_12) = some r := h
 clear h
 have H' := Aside0.mk H
 clear H
 go_enter Try.func55, Try.ntmps55
 go_wp2_with (first | ((with_reducible refine gate_dst (N := 1) rfl ?_); refine box_event ?hg (N := 1) ?hd (cs := #[.int .i64 a0_0, .int .i64 a0_1, .int .i64 a0_2, .int .i64 a0_3, .bool a0_4, .int .i64 a0_5, .int .i64 a0_6, .int .i64 a0_7, .slice A0_8 l0_8.length c0_8, .slice A0_9 l0_9.length c0_9, .slice A0_10 l0_10.length c0_10, .string a0_11, .slice A0_12 l0_12.length c0_12]) (t := 62) ?hr ?_; (case hd => rfl); (case hg => rfl); (case hr => first | (go_simp; done) | (go_simp; rfl)); intro gb210 hg w2 hbox hb; have n0_ := qbs_ hb; have n1_ := Aside0.mk (hbox); have n2_ := Aside0.mk ((qg_ hg : w.heap.size ≤ gb210)); have n3_ := Aside0.mk ((qg_ hg : w.heap.size ≤ gb210)); clear HB; have HB := n0_; have BK210 := n1_; have GW210 := n2_; have GE210 := n3_; clear n0_ n1_ n2_ n3_ hb hbox hg; obtain ⟨hcz3_0, hcz3_1, hcz3_2, hcz3_3, hcz3_4, hcz3_5, hcz3_6, hcz3_7, hcz3_8, hcz3_9, hcz3_10, hcz3_11, hcz3_12⟩ := qz13_ BK210; obtain ⟨hfz3_0, hfz3_1, hfz3_2, hfz3_3, hfz3_4, hfz3_5, hfz3_6, hfz3_7, hfz3_8, hfz3_9, hfz3_10, hfz3_11, hfz3_12⟩ := qf13_ BK210))
 repeat (go_quiet (first | ((with_reducible refine gate_dst (N := 1) rfl ?_); refine box_event ?hg (N := 1) ?hd (cs := #[.int .i64 a0_0, .int .i64 a0_1, .int .i64 a0_2, .int .i64 a0_3, .bool a0_4, .int .i64 a0_5, .int .i64 a0_6, .int .i64 a0_7, .slice A0_8 l0_8.length c0_8, .slice A0_9 l0_9.length c0_9, .slice A0_10 l0_10.length c0_10, .string a0_11, .slice A0_12 l0_12.length c0_12]) (t := 62) ?hr ?_; (case hd => rfl); (case hg => rfl); (case hr => first | (go_simp; done) | (go_simp; rfl)); intro gb210 hg w2 hbox hb; have n0_ := qbs_ hb; have n1_ := Aside0.mk (hbox); have n2_ := Aside0.mk ((qg_ hg : w.heap.size ≤ gb210)); have n3_ := Aside0.mk ((qg_ hg : w.heap.size ≤ gb210)); clear HB; have HB := n0_; have BK210 := n1_; have GW210 := n2_; have GE210 := n3_; clear n0_ n1_ n2_ n3_ hb hbox hg; obtain ⟨hcz3_0, hcz3_1, hcz3_2, hcz3_3, hcz3_4, hcz3_5, hcz3_6, hcz3_7, hcz3_8, hcz3_9, hcz3_10, hcz3_11, hcz3_12⟩ := qz13_ BK210; obtain ⟨hfz3_0, hfz3_1, hfz3_2, hfz3_3, hfz3_4, hfz3_5, hfz3_6, hfz3_7, hfz3_8, hfz3_9, hfz3_10, hfz3_11, hfz3_12⟩ := qf13_ BK210)); try go_wp2_with (first | ((with_reducible refine gate_dst (N := 1) rfl ?_); refine box_event ?hg (N := 1) ?hd (cs := #[.int .i64 a0_0, .int .i64 a0_1, .int .i64 a0_2, .int .i64 a0_3, .bool a0_4, .int .i64 a0_5, .int .i64 a0_6, .int .i64 a0_7, .slice A0_8 l0_8.length c0_8, .slice A0_9 l0_9.length c0_9, .slice A0_10 l0_10.length c0_10, .string a0_11, .slice A0_12 l0_12.length c0_12]) (t := 62) ?hr ?_; (case hd => rfl); (case hg => rfl); (case hr => first | (go_simp; done) | (go_simp; rfl)); intro gb210 hg w2 hbox hb; have n0_ := qbs_ hb; have n1_ := Aside0.mk (hbox); have n2_ := Aside0.mk ((qg_ hg : w.heap.size ≤ gb210)); have n3_ := Aside0.mk ((qg_ hg : w.heap.size ≤ gb210)); clear HB; have HB := n0_; have BK210 := n1_; have GW210 := n2_; have GE210 := n3_; clear n0_ n1_ n2_ n3_ hb hbox hg; obtain ⟨hcz3_0, hcz3_1, hcz3_2, hcz3_3, hcz3_4, hcz3_5, hcz3_6, hcz3_7, hcz3_8, hcz3_9, hcz3_10, hcz3_11, hcz3_12⟩ := qz13_ BK210; obtain ⟨hfz3_0, hfz3_1, hfz3_2, hfz3_3, hfz3_4, hfz3_5, hfz3_6, hfz3_7, hfz3_8, hfz3_9, hfz3_10, hfz3_11, hfz3_12⟩ := qf13_ BK210)))
 go_loopg [13] k (fun kq v13 w' => ∃ (x13_1 : Int), v13 = .int .i64 x13_1 ∧ Aside0 (meeting_hall_validVoters.l0 kq l0_9 (l0_9.length : Int) x13_1 a0_0 a0_1 a0_2 a0_3 a0_4 a0_5 a0_6 a0_7 l0_8 l0_9 l0_10 a0_11 l0_12 = some r) ∧ Aside0 (kq ≤ k) ∧ Aside0 (w'.heap[gb210]? = some (.cells #[.int .i64 a0_0, .int .i64 a0_1, .int .i64 a0_2, .int .i64 a0_3, .bool a0_4, .int .i64 a0_5, .int .i64 a0_6, .int .i64 a0_7, (.slice A0_8 l0_8.length c0_8), (.slice A0_9 l0_9.length c0_9), (.slice A0_10 l0_10.length c0_10), .string a0_11, (.slice A0_12 l0_12.length c0_12)] 62 (0, 0))) ∧ Aside0 (Below w.heap.size w w'))
 case atStart => exact ⟨(0), qs_, H', ⟨Nat.le_refl _⟩, ⟨qk_ BK210⟩, ⟨qb_⟩⟩
 case round =>
  clear H'
  try clear p2
  try clear hcz3_0 hcz3_1 hcz3_10 hcz3_11 hcz3_12 hcz3_2 hcz3_3 hcz3_4 hcz3_5 hcz3_6 hcz3_7 hcz3_8 hcz3_9
  try clear hfz3_0 hfz3_1 hfz3_10 hfz3_11 hfz3_12 hfz3_2 hfz3_3 hfz3_4 hfz3_5 hfz3_6 hfz3_7 hfz3_8 hfz3_9
  obtain ⟨x13_1, rfl, HA, HK1, BK210, HB⟩ := hrel
  cases gk with
  | zero => exact absurd HA.out (by simp [meeting_hall_validVoters.l0])
  | succ k1 =>
   have H := HA.out
   clear HA
   simp only [meeting_hall_validVoters.l0] at H
   by_cases c4 : x13_1 < (l0_9.length : Int)
   ·rw [if_pos c4] at H
    have c4b0 : decide (x13_1 < (l0_9.length : Int)) = true := decide_eq_true c4
    clear c4
    by_cases c5 : 0 ≤ x13_1
    ·rw [if_pos c5] at H
     have c5b0 : decide (0 ≤ x13_1) = true := decide_eq_true c5
     clear c5
     by_cases c6 : x13_1 < (l0_9.length : Int)
     ·rw [if_pos c6] at H
      have c6b0 : decide (x13_1 < (l0_9.length : Int)) = true := decide_eq_true c6
      clear c6
      have HC7 := Aside0.mk H
      clear H
      have p211 : 0 ≤ (x13_1 : Int) := of_decide_eq_true qa_
      have q211 : x13_1 < (l0_9.length : Int) := of_decide_eq_true qa_
      obtain ⟨ad211, e211, hx211_0, hx211_1, hx211_2⟩ := at_T43 HR0_9.out x13_1 p211 q211
      cases e211
      replace hx211_0 := (HB.out.cell (World.block_lt_of_cell? w _ hx211_0)).trans hx211_0
      replace hx211_1 := (HB.out.cell (World.block_lt_of_cell? w _ hx211_1)).trans hx211_1
      replace hx211_2 := (HB.out.cell (World.block_lt_of_cell? w _ hx211_2)).trans hx211_2
      replace p211 := eq_true p211
      replace q211 := eq_true q211
      go_upto_region 4 with (first | ((with_reducible refine gate_dst (N := 4) rfl ?_); refine box_event ?hg (N := 4) ?hd (cs := #[.int .i64 0, .int .i64 0, .int .i64 0]) (t := 43) ?hr ?_; (case hd => rfl); (case hg => rfl); (case hr => first | (go_simp; done) | (go_simp; rfl)); intro gb212 hg w8 hbox hb; have n0_ := qkb_ BK210 hb; have n1_ := qbs_ hb; have n2_ := Aside0.mk (hbox); have n3_ := Aside0.mk ((qg_ hg : w.heap.size ≤ gb212)); have n4_ := Aside0.mk ((qg_ hg : w.heap.size ≤ gb212)); have n5_ := Aside0.mk ((by rw [hg]; exact Nat.ne_of_lt (blk_lt (qk_ BK210)) : gb210 ≠ gb212)); have n6_ := Aside0.mk ((by rw [hg]; exact Nat.ne_of_gt (blk_lt (qk_ BK210)) : gb212 ≠ gb210)); clear BK210 HB; have BK210 := n0_; have HB := n1_; have BK212 := n2_; have GW212 := n3_; have GE212 := n4_; have NB210_212 := n5_; have NB212_210 := n6_; clear n0_ n1_ n2_ n3_ n4_ n5_ n6_ hb hbox hg; have hnb9 := NB212_210.out; have hnc9 := NB210_212.out; obtain ⟨hcz10_0, hcz10_1, hcz10_2⟩ := qz3_ BK212; obtain ⟨hfz10_0, hfz10_1, hfz10_2⟩ := qf3_ BK212))
      repeat (go_quiet (first | ((with_reducible refine gate_dst (N := 4) rfl ?_); refine box_event ?hg (N := 4) ?hd (cs := #[.int .i64 0, .int .i64 0, .int .i64 0]) (t := 43) ?hr ?_; (case hd => rfl); (case hg => rfl); (case hr => first | (go_simp; done) | (go_simp; rfl)); intro gb212 hg w8 hbox hb; have n0_ := qkb_ BK210 hb; have n1_ := qbs_ hb; have n2_ := Aside0.mk (hbox); have n3_ := Aside0.mk ((qg_ hg : w.heap.size ≤ gb212)); have n4_ := Aside0.mk ((qg_ hg : w.heap.size ≤ gb212)); have n5_ := Aside0.mk ((by rw [hg]; exact Nat.ne_of_lt (blk_lt (qk_ BK210)) : gb210 ≠ gb212)); have n6_ := Aside0.mk ((by rw [hg]; exact Nat.ne_of_gt (blk_lt (qk_ BK210)) : gb212 ≠ gb210)); clear BK210 HB; have BK210 := n0_; have HB := n1_; have BK212 := n2_; have GW212 := n3_; have GE212 := n4_; have NB210_212 := n5_; have NB212_210 := n6_; clear n0_ n1_ n2_ n3_ n4_ n5_ n6_ hb hbox hg; have hnb9 := NB212_210.out; have hnc9 := NB210_212.out; obtain ⟨hcz10_0, hcz10_1, hcz10_2⟩ := qz3_ BK212; obtain ⟨hfz10_0, hfz10_1, hfz10_2⟩ := qf3_ BK212)); go_upto_region 4 with (first | ((with_reducible refine gate_dst (N := 4) rfl ?_); refine box_event ?hg (N := 4) ?hd (cs := #[.int .i64 0, .int .i64 0, .int .i64 0]) (t := 43) ?hr ?_; (case hd => rfl); (case hg => rfl); (case hr => first | (go_simp; done) | (go_simp; rfl)); intro gb212 hg w8 hbox hb; have n0_ := qkb_ BK210 hb; have n1_ := qbs_ hb; have n2_ := Aside0.mk (hbox); have n3_ := Aside0.mk ((qg_ hg : w.heap.size ≤ gb212)); have n4_ := Aside0.mk ((qg_ hg : w.heap.size ≤ gb212)); have n5_ := Aside0.mk ((by rw [hg]; exact Nat.ne_of_lt (blk_lt (qk_ BK210)) : gb210 ≠ gb212)); have n6_ := Aside0.mk ((by rw [hg]; exact Nat.ne_of_gt (blk_lt (qk_ BK210)) : gb212 ≠ gb210)); clear BK210 HB; have BK210 := n0_; have HB := n1_; have BK212 := n2_; have GW212 := n3_; have GE212 := n4_; have NB210_212 := n5_; have NB212_210 := n6_; clear n0_ n1_ n2_ n3_ n4_ n5_ n6_ hb hbox hg; have hnb9 := NB212_210.out; have hnc9 := NB210_212.out; obtain ⟨hcz10_0, hcz10_1, hcz10_2⟩ := qz3_ BK212; obtain ⟨hfz10_0, hfz10_1, hfz10_2⟩ := qf3_ BK212)))
      (try simp only [Act.put, List.setIfInBounds_toArray, List.set_cons_zero, List.set_cons_succ])
      go_cut [44] (fun v44 wc => ∃ (kq : Nat) (x44_6 : Bool), v44 = .bool x44_6 ∧ Aside0 (meeting_hall_validVoters.j1 kq l0_9 (l0_9.length : Int) x13_1 x44_6 a0_0 a0_1 a0_2 a0_3 a0_4 a0_5 a0_6 a0_7 l0_8 l0_9 l0_10 a0_11 l0_12 = some r) ∧ Aside0 (kq ≤ k1) ∧ Aside0 (wc.heap[gb210]? = some (.cells #[.int .i64 a0_0, .int .i64 a0_1, .int .i64 a0_2, .int .i64 a0_3, .bool a0_4, .int .i64 a0_5, .int .i64 a0_6, .int .i64 a0_7, (.slice A0_8 l0_8.length c0_8), (.slice (some ad211) l0_9.length c0_9), (.slice A0_10 l0_10.length c0_10), .string a0_11, (.slice A0_12 l0_12.length c0_12)] 62 (0, 0))) ∧ Aside0 (wc.heap[gb212]? = some (.cells #[.int .i64 ((rd_T43 l0_9 x13_1).f0), .int .i64 ((rd_T43 l0_9 x13_1).f1), .int .i64 ((rd_T43 l0_9 x13_1).f2)] 43 (0, 0))) ∧ Aside0 (Below w.heap.size w wc))
      case first =>
       have H := HC7.out
       clear HC7
       replace H := Option.bind_eq_some_iff.mp H
       obtain ⟨t213, A110, H⟩ := H
       replace H : (if t213 = true then (if x13_1 > 0 then (if 0 ≤ (wrap64 (x13_1 - 1)) then (if (wrap64 (x13_1 - 1)) < (l0_9.length : Int) then (if ((rd_T43 l0_9 x13_1).f0) ≤ ((rd_T43 l0_9 (wrap64 (x13_1 - 1))).f0) then (meeting_hall_validVoters.j1 k1 l0_9 (l0_9.length : Int) x13_1 true a0_0 a0_1 a0_2 a0_3 a0_4 a0_5 a0_6 a0_7 l0_8 l0_9 l0_10 a0_11 l0_12) else ((meeting_within.f ((rd_T43 l0_9 x13_1).f1) 0 1000).bind fun t215 => (meeting_hall_validVoters.j1 k1 l0_9 (l0_9.length : Int) x13_1 (!t215) a0_0 a0_1 a0_2 a0_3 a0_4 a0_5 a0_6 a0_7 l0_8 l0_9 l0_10 a0_11 l0_12))) else (none)) else (none)) else ((meeting_within.f ((rd_T43 l0_9 x13_1).f1) 0 1000).bind fun t216 => (meeting_hall_validVoters.j1 k1 l0_9 (l0_9.length : Int) x13_1 (!t216) a0_0 a0_1 a0_2 a0_3 a0_4 a0_5 a0_6 a0_7 l0_8 l0_9 l0_10 a0_11 l0_12))) else (meeting_hall_validVoters.j1 k1 l0_9 (l0_9.length : Int) x13_1 true a0_0 a0_1 a0_2 a0_3 a0_4 a0_5 a0_6 a0_7 l0_8 l0_9 l0_10 a0_11 l0_12)) = some r := H
       have A11 := Aside0.mk A110
       clear A110
       by_cases c12 : t213 = true
       ·subst c12
        have H1 : (if x13_1 > 0 then (if 0 ≤ (wrap64 (x13_1 - 1)) then (if (wrap64 (x13_1 - 1)) < (l0_9.length : Int) then (if ((rd_T43 l0_9 x13_1).f0) ≤ ((rd_T43 l0_9 (wrap64 (x13_1 - 1))).f0) then (meeting_hall_validVoters.j1 k1 l0_9 (l0_9.length : Int) x13_1 true a0_0 a0_1 a0_2 a0_3 a0_4 a0_5 a0_6 a0_7 l0_8 l0_9 l0_10 a0_11 l0_12) else ((meeting_within.f ((rd_T43 l0_9 x13_1).f1) 0 1000).bind fun t215 => (meeting_hall_validVoters.j1 k1 l0_9 (l0_9.length : Int) x13_1 (!t215) a0_0 a0_1 a0_2 a0_3 a0_4 a0_5 a0_6 a0_7 l0_8 l0_9 l0_10 a0_11 l0_12))) else (none)) else (none)) else ((meeting_within.f ((rd_T43 l0_9 x13_1).f1) 0 1000).bind fun t216 => (meeting_hall_validVoters.j1 k1 l0_9 (l0_9.length : Int) x13_1 (!t216) a0_0 a0_1 a0_2 a0_3 a0_4 a0_5 a0_6 a0_7 l0_8 l0_9 l0_10 a0_11 l0_12))) = some r := by rw [if_pos rfl] at H; exact H
        clear H
        have H := H1
        clear H1
        by_cases c13 : x13_1 > 0
        ·rw [if_pos c13] at H
         have c13b0 : decide (0 < x13_1) = true := decide_eq_true c13
         clear c13
         (first | rw [c13b0] | (simp only [i64_w, i32_w]; rw [c13b0]) | skip)
         obtain ⟨ji14, hji14⟩ : ∃ j_ : Int, (wrap64 (x13_1 - 1)) = j_ := ⟨_, rfl⟩
         replace H : (if 0 ≤ (ji14) then (if (ji14) < (l0_9.length : Int) then (if ((rd_T43 l0_9 x13_1).f0) ≤ ((rd_T43 l0_9 (ji14)).f0) then (meeting_hall_validVoters.j1 k1 l0_9 (l0_9.length : Int) x13_1 true a0_0 a0_1 a0_2 a0_3 a0_4 a0_5 a0_6 a0_7 l0_8 l0_9 l0_10 a0_11 l0_12) else ((meeting_within.f ((rd_T43 l0_9 x13_1).f1) 0 1000).bind fun t215 => (meeting_hall_validVoters.j1 k1 l0_9 (l0_9.length : Int) x13_1 (!t215) a0_0 a0_1 a0_2 a0_3 a0_4 a0_5 a0_6 a0_7 l0_8 l0_9 l0_10 a0_11 l0_12))) else (none)) else (none)) = some r := by first | (rw [hji14] at H; exact H) | (simp only [hji14] at H ⊢; exact H)
         (try rw [hji14] at A11)
         have hji14w : (IntKind.i64.wrap (x13_1 - 1)) = ji14 := (i64_w _).trans hji14
         by_cases c15 : 0 ≤ (ji14)
         ·rw [if_pos c15] at H
          have c15b0 : decide (0 ≤ (ji14)) = true := decide_eq_true c15
          clear c15
          by_cases c16 : (ji14) < (l0_9.length : Int)
          ·rw [if_pos c16] at H
           have c16b0 : decide ((ji14) < (l0_9.length : Int)) = true := decide_eq_true c16
           clear c16
           by_cases c17 : ((rd_T43 l0_9 x13_1).f0) ≤ ((rd_T43 l0_9 (ji14)).f0)
           ·rw [if_pos c17] at H
            have c17b0 : decide (((rd_T43 l0_9 x13_1).f0) ≤ ((rd_T43 l0_9 (ji14)).f0)) = true := decide_eq_true c17
            clear c17
            have H' := Aside0.mk H
            clear H
            have hnb18 := NB212_210.out
            have hnc18 := NB210_212.out
            obtain ⟨hcz19_0, hcz19_1, hcz19_2⟩ := qz3_ BK212; obtain ⟨hfz19_0, hfz19_1, hfz19_2⟩ := qf3_ BK212
            go_wp2_with (first | (go_at_call 51; (with_reducible refine (meeting_within.calls ((rd_T43 l0_9 x13_1).f0) 1 64 true _ A11.out).mono ?_); rintro e w' ⟨rfl, ⟨nd, rfl⟩⟩; (try exact qw_); obtain ⟨hcz20_0, hcz20_1, hcz20_2, hcz20_3, hcz20_4, hcz20_5, hcz20_6, hcz20_7, hcz20_8, hcz20_9, hcz20_10, hcz20_11, hcz20_12⟩ := qz13_ BK210; obtain ⟨hfz20_0, hfz20_1, hfz20_2, hfz20_3, hfz20_4, hfz20_5, hfz20_6, hfz20_7, hfz20_8, hfz20_9, hfz20_10, hfz20_11, hfz20_12⟩ := qf13_ BK210; have p214 : 0 ≤ ((ji14) : Int) := of_decide_eq_true qa_; have q214 : (ji14) < (l0_9.length : Int) := of_decide_eq_true qa_; obtain ⟨ad214, e214, hx214_0, hx214_1, hx214_2⟩ := at_T43 HR0_9.out (ji14) p214 q214; obtain rfl : ad211 = ad214 := (by injection e214); have hn214_0 : ad211.block ≠ gb212 := Nat.ne_of_lt (Nat.lt_of_lt_of_le (by have := World.block_lt_of_cell? _ _ hx214_0; first | rwa [add_block] at this | exact this) GW212.out); have hn214_1 : ad211.block ≠ gb212 := Nat.ne_of_lt (Nat.lt_of_lt_of_le (by have := World.block_lt_of_cell? _ _ hx214_0; first | rwa [add_block] at this | exact this) GW212.out); have hn214_2 : ad211.block ≠ gb212 := Nat.ne_of_lt (Nat.lt_of_lt_of_le (by have := World.block_lt_of_cell? _ _ hx214_0; first | rwa [add_block] at this | exact this) GW212.out); replace hx214_0 := (HB.out.cell (World.block_lt_of_cell? w _ hx214_0)).trans hx214_0; replace hx214_1 := (HB.out.cell (World.block_lt_of_cell? w _ hx214_1)).trans hx214_1; replace hx214_2 := (HB.out.cell (World.block_lt_of_cell? w _ hx214_2)).trans hx214_2; replace hx214_0 := (cell_far (p := ⟨gb212, 0, none⟩) (qn_ hn214_0) (.int .i64 ((rd_T43 l0_9 x13_1).f0))).trans hx214_0; replace hx214_1 := (cell_far (p := ⟨gb212, 0, none⟩) (qn_ hn214_0) (.int .i64 ((rd_T43 l0_9 x13_1).f0))).trans hx214_1; replace hx214_2 := (cell_far (p := ⟨gb212, 0, none⟩) (qn_ hn214_0) (.int .i64 ((rd_T43 l0_9 x13_1).f0))).trans hx214_2; replace hx214_0 := (cell_far (p := ⟨gb212, 1, none⟩) (qn_ hn214_1) (.int .i64 ((rd_T43 l0_9 x13_1).f1))).trans hx214_0; replace hx214_1 := (cell_far (p := ⟨gb212, 1, none⟩) (qn_ hn214_1) (.int .i64 ((rd_T43 l0_9 x13_1).f1))).trans hx214_1; replace hx214_2 := (cell_far (p := ⟨gb212, 1, none⟩) (qn_ hn214_1) (.int .i64 ((rd_T43 l0_9 x13_1).f1))).trans hx214_2; replace hx214_0 := (cell_far (p := ⟨gb212, 2, none⟩) (qn_ hn214_2) (.int .i64 ((rd_T43 l0_9 x13_1).f2))).trans hx214_0; replace hx214_1 := (cell_far (p := ⟨gb212, 2, none⟩) (qn_ hn214_2) (.int .i64 ((rd_T43 l0_9 x13_1).f2))).trans hx214_1; replace hx214_2 := (cell_far (p := ⟨gb212, 2, none⟩) (qn_ hn214_2) (.int .i64 ((rd_T43 l0_9 x13_1).f2))).trans hx214_2; (try have hy214_0 := fun (n_ : Nat) => (show (((((w8.drewN n_).setCell ⟨gb212, 0, none⟩ (.int .i64 ((rd_T43 l0_9 x13_1).f0))).setCell ⟨gb212, 1, none⟩ (.int .i64 ((rd_T43 l0_9 x13_1).f1))).setCell ⟨gb212, 2, none⟩ (.int .i64 ((rd_T43 l0_9 x13_1).f2)))).cell? _ = some _ from hx214_0)); (try have hy214_1 := fun (n_ : Nat) => (show (((((w8.drewN n_).setCell ⟨gb212, 0, none⟩ (.int .i64 ((rd_T43 l0_9 x13_1).f0))).setCell ⟨gb212, 1, none⟩ (.int .i64 ((rd_T43 l0_9 x13_1).f1))).setCell ⟨gb212, 2, none⟩ (.int .i64 ((rd_T43 l0_9 x13_1).f2)))).cell? _ = some _ from hx214_1)); (try have hy214_2 := fun (n_ : Nat) => (show (((((w8.drewN n_).setCell ⟨gb212, 0, none⟩ (.int .i64 ((rd_T43 l0_9 x13_1).f0))).setCell ⟨gb212, 1, none⟩ (.int .i64 ((rd_T43 l0_9 x13_1).f1))).setCell ⟨gb212, 2, none⟩ (.int .i64 ((rd_T43 l0_9 x13_1).f2)))).cell? _ = some _ from hx214_2)); clear hn214_0 hn214_1 hn214_2; replace p214 := eq_true p214; replace q214 := eq_true q214))
            repeat (go_quiet (first | (go_at_call 51; (with_reducible refine (meeting_within.calls ((rd_T43 l0_9 x13_1).f0) 1 64 true _ A11.out).mono ?_); rintro e w' ⟨rfl, ⟨nd, rfl⟩⟩; (try exact qw_); obtain ⟨hcz20_0, hcz20_1, hcz20_2, hcz20_3, hcz20_4, hcz20_5, hcz20_6, hcz20_7, hcz20_8, hcz20_9, hcz20_10, hcz20_11, hcz20_12⟩ := qz13_ BK210; obtain ⟨hfz20_0, hfz20_1, hfz20_2, hfz20_3, hfz20_4, hfz20_5, hfz20_6, hfz20_7, hfz20_8, hfz20_9, hfz20_10, hfz20_11, hfz20_12⟩ := qf13_ BK210; have p214 : 0 ≤ ((ji14) : Int) := of_decide_eq_true qa_; have q214 : (ji14) < (l0_9.length : Int) := of_decide_eq_true qa_; obtain ⟨ad214, e214, hx214_0, hx214_1, hx214_2⟩ := at_T43 HR0_9.out (ji14) p214 q214; obtain rfl : ad211 = ad214 := (by injection e214); have hn214_0 : ad211.block ≠ gb212 := Nat.ne_of_lt (Nat.lt_of_lt_of_le (by have := World.block_lt_of_cell? _ _ hx214_0; first | rwa [add_block] at this | exact this) GW212.out); have hn214_1 : ad211.block ≠ gb212 := Nat.ne_of_lt (Nat.lt_of_lt_of_le (by have := World.block_lt_of_cell? _ _ hx214_0; first | rwa [add_block] at this | exact this) GW212.out); have hn214_2 : ad211.block ≠ gb212 := Nat.ne_of_lt (Nat.lt_of_lt_of_le (by have := World.block_lt_of_cell? _ _ hx214_0; first | rwa [add_block] at this | exact this) GW212.out); replace hx214_0 := (HB.out.cell (World.block_lt_of_cell? w _ hx214_0)).trans hx214_0; replace hx214_1 := (HB.out.cell (World.block_lt_of_cell? w _ hx214_1)).trans hx214_1; replace hx214_2 := (HB.out.cell (World.block_lt_of_cell? w _ hx214_2)).trans hx214_2; replace hx214_0 := (cell_far (p := ⟨gb212, 0, none⟩) (qn_ hn214_0) (.int .i64 ((rd_T43 l0_9 x13_1).f0))).trans hx214_0; replace hx214_1 := (cell_far (p := ⟨gb212, 0, none⟩) (qn_ hn214_0) (.int .i64 ((rd_T43 l0_9 x13_1).f0))).trans hx214_1; replace hx214_2 := (cell_far (p := ⟨gb212, 0, none⟩) (qn_ hn214_0) (.int .i64 ((rd_T43 l0_9 x13_1).f0))).trans hx214_2; replace hx214_0 := (cell_far (p := ⟨gb212, 1, none⟩) (qn_ hn214_1) (.int .i64 ((rd_T43 l0_9 x13_1).f1))).trans hx214_0; replace hx214_1 := (cell_far (p := ⟨gb212, 1, none⟩) (qn_ hn214_1) (.int .i64 ((rd_T43 l0_9 x13_1).f1))).trans hx214_1; replace hx214_2 := (cell_far (p := ⟨gb212, 1, none⟩) (qn_ hn214_1) (.int .i64 ((rd_T43 l0_9 x13_1).f1))).trans hx214_2; replace hx214_0 := (cell_far (p := ⟨gb212, 2, none⟩) (qn_ hn214_2) (.int .i64 ((rd_T43 l0_9 x13_1).f2))).trans hx214_0; replace hx214_1 := (cell_far (p := ⟨gb212, 2, none⟩) (qn_ hn214_2) (.int .i64 ((rd_T43 l0_9 x13_1).f2))).trans hx214_1; replace hx214_2 := (cell_far (p := ⟨gb212, 2, none⟩) (qn_ hn214_2) (.int .i64 ((rd_T43 l0_9 x13_1).f2))).trans hx214_2; (try have hy214_0 := fun (n_ : Nat) => (show (((((w8.drewN n_).setCell ⟨gb212, 0, none⟩ (.int .i64 ((rd_T43 l0_9 x13_1).f0))).setCell ⟨gb212, 1, none⟩ (.int .i64 ((rd_T43 l0_9 x13_1).f1))).setCell ⟨gb212, 2, none⟩ (.int .i64 ((rd_T43 l0_9 x13_1).f2)))).cell? _ = some _ from hx214_0)); (try have hy214_1 := fun (n_ : Nat) => (show (((((w8.drewN n_).setCell ⟨gb212, 0, none⟩ (.int .i64 ((rd_T43 l0_9 x13_1).f0))).setCell ⟨gb212, 1, none⟩ (.int .i64 ((rd_T43 l0_9 x13_1).f1))).setCell ⟨gb212, 2, none⟩ (.int .i64 ((rd_T43 l0_9 x13_1).f2)))).cell? _ = some _ from hx214_1)); (try have hy214_2 := fun (n_ : Nat) => (show (((((w8.drewN n_).setCell ⟨gb212, 0, none⟩ (.int .i64 ((rd_T43 l0_9 x13_1).f0))).setCell ⟨gb212, 1, none⟩ (.int .i64 ((rd_T43 l0_9 x13_1).f1))).setCell ⟨gb212, 2, none⟩ (.int .i64 ((rd_T43 l0_9 x13_1).f2)))).cell? _ = some _ from hx214_2)); clear hn214_0 hn214_1 hn214_2; replace p214 := eq_true p214; replace q214 := eq_true q214)); try go_wp2_with (first | (go_at_call 51; (with_reducible refine (meeting_within.calls ((rd_T43 l0_9 x13_1).f0) 1 64 true _ A11.out).mono ?_); rintro e w' ⟨rfl, ⟨nd, rfl⟩⟩; (try exact qw_); obtain ⟨hcz20_0, hcz20_1, hcz20_2, hcz20_3, hcz20_4, hcz20_5, hcz20_6, hcz20_7, hcz20_8, hcz20_9, hcz20_10, hcz20_11, hcz20_12⟩ := qz13_ BK210; obtain ⟨hfz20_0, hfz20_1, hfz20_2, hfz20_3, hfz20_4, hfz20_5, hfz20_6, hfz20_7, hfz20_8, hfz20_9, hfz20_10, hfz20_11, hfz20_12⟩ := qf13_ BK210; have p214 : 0 ≤ ((ji14) : Int) := of_decide_eq_true qa_; have q214 : (ji14) < (l0_9.length : Int) := of_decide_eq_true qa_; obtain ⟨ad214, e214, hx214_0, hx214_1, hx214_2⟩ := at_T43 HR0_9.out (ji14) p214 q214; obtain rfl : ad211 = ad214 := (by injection e214); have hn214_0 : ad211.block ≠ gb212 := Nat.ne_of_lt (Nat.lt_of_lt_of_le (by have := World.block_lt_of_cell? _ _ hx214_0; first | rwa [add_block] at this | exact this) GW212.out); have hn214_1 : ad211.block ≠ gb212 := Nat.ne_of_lt (Nat.lt_of_lt_of_le (by have := World.block_lt_of_cell? _ _ hx214_0; first | rwa [add_block] at this | exact this) GW212.out); have hn214_2 : ad211.block ≠ gb212 := Nat.ne_of_lt (Nat.lt_of_lt_of_le (by have := World.block_lt_of_cell? _ _ hx214_0; first | rwa [add_block] at this | exact this) GW212.out); replace hx214_0 := (HB.out.cell (World.block_lt_of_cell? w _ hx214_0)).trans hx214_0; replace hx214_1 := (HB.out.cell (World.block_lt_of_cell? w _ hx214_1)).trans hx214_1; replace hx214_2 := (HB.out.cell (World.block_lt_of_cell? w _ hx214_2)).trans hx214_2; replace hx214_0 := (cell_far (p := ⟨gb212, 0, none⟩) (qn_ hn214_0) (.int .i64 ((rd_T43 l0_9 x13_1).f0))).trans hx214_0; replace hx214_1 := (cell_far (p := ⟨gb212, 0, none⟩) (qn_ hn214_0) (.int .i64 ((rd_T43 l0_9 x13_1).f0))).trans hx214_1; replace hx214_2 := (cell_far (p := ⟨gb212, 0, none⟩) (qn_ hn214_0) (.int .i64 ((rd_T43 l0_9 x13_1).f0))).trans hx214_2; replace hx214_0 := (cell_far (p := ⟨gb212, 1, none⟩) (qn_ hn214_1) (.int .i64 ((rd_T43 l0_9 x13_1).f1))).trans hx214_0; replace hx214_1 := (cell_far (p := ⟨gb212, 1, none⟩) (qn_ hn214_1) (.int .i64 ((rd_T43 l0_9 x13_1).f1))).trans hx214_1; replace hx214_2 := (cell_far (p := ⟨gb212, 1, none⟩) (qn_ hn214_1) (.int .i64 ((rd_T43 l0_9 x13_1).f1))).trans hx214_2; replace hx214_0 := (cell_far (p := ⟨gb212, 2, none⟩) (qn_ hn214_2) (.int .i64 ((rd_T43 l0_9 x13_1).f2))).trans hx214_0; replace hx214_1 := (cell_far (p := ⟨gb212, 2, none⟩) (qn_ hn214_2) (.int .i64 ((rd_T43 l0_9 x13_1).f2))).trans hx214_1; replace hx214_2 := (cell_far (p := ⟨gb212, 2, none⟩) (qn_ hn214_2) (.int .i64 ((rd_T43 l0_9 x13_1).f2))).trans hx214_2; (try have hy214_0 := fun (n_ : Nat) => (show (((((w8.drewN n_).setCell ⟨gb212, 0, none⟩ (.int .i64 ((rd_T43 l0_9 x13_1).f0))).setCell ⟨gb212, 1, none⟩ (.int .i64 ((rd_T43 l0_9 x13_1).f1))).setCell ⟨gb212, 2, none⟩ (.int .i64 ((rd_T43 l0_9 x13_1).f2)))).cell? _ = some _ from hx214_0)); (try have hy214_1 := fun (n_ : Nat) => (show (((((w8.drewN n_).setCell ⟨gb212, 0, none⟩ (.int .i64 ((rd_T43 l0_9 x13_1).f0))).setCell ⟨gb212, 1, none⟩ (.int .i64 ((rd_T43 l0_9 x13_1).f1))).setCell ⟨gb212, 2, none⟩ (.int .i64 ((rd_T43 l0_9 x13_1).f2)))).cell? _ = some _ from hx214_1)); (try have hy214_2 := fun (n_ : Nat) => (show (((((w8.drewN n_).setCell ⟨gb212, 0, none⟩ (.int .i64 ((rd_T43 l0_9 x13_1).f0))).setCell ⟨gb212, 1, none⟩ (.int .i64 ((rd_T43 l0_9 x13_1).f1))).setCell ⟨gb212, 2, none⟩ (.int .i64 ((rd_T43 l0_9 x13_1).f2)))).cell? _ = some _ from hx214_2)); clear hn214_0 hn214_1 hn214_2; replace p214 := eq_true p214; replace q214 := eq_true q214)))
            go_meet
            case rel => exact ⟨_, (true), qs_, H', ⟨by have := HK1.out; first | omega | exact Nat.le_refl _⟩, ⟨by refine qd_ ?_; refine blk_far ?_ NB210_212.out _; refine qd_ ?_; refine blk_far ?_ NB210_212.out _; refine qd_ ?_; refine blk_far ?_ NB210_212.out _; refine qd_ ?_; exact BK210.out⟩, ⟨by refine qd_ ?_; refine blk_put (cs := #[.int .i64 ((rd_T43 l0_9 x13_1).f0), .int .i64 ((rd_T43 l0_9 x13_1).f1), .int .i64 0]) ?_ 2 _ rfl; refine qd_ ?_; refine blk_put (cs := #[.int .i64 ((rd_T43 l0_9 x13_1).f0), .int .i64 0, .int .i64 0]) ?_ 1 _ rfl; refine qd_ ?_; refine blk_put (cs := #[.int .i64 0, .int .i64 0, .int .i64 0]) ?_ 0 _ rfl; refine qd_ ?_; exact BK212.out⟩, ⟨qb_⟩⟩
           ·rw [if_neg c17] at H
            have c17b0 : decide (((rd_T43 l0_9 x13_1).f0) ≤ ((rd_T43 l0_9 (ji14)).f0)) = false := decide_eq_false c17
            clear c17
            replace H := Option.bind_eq_some_iff.mp H
            obtain ⟨t215, A210, H⟩ := H
            replace H : (meeting_hall_validVoters.j1 k1 l0_9 (l0_9.length : Int) x13_1 (!t215) a0_0 a0_1 a0_2 a0_3 a0_4 a0_5 a0_6 a0_7 l0_8 l0_9 l0_10 a0_11 l0_12) = some r := H
            have A21 := Aside0.mk A210
            clear A210
            have H' := Aside0.mk H
            clear H
            have hnb22 := NB212_210.out
            have hnc22 := NB210_212.out
            obtain ⟨hcz23_0, hcz23_1, hcz23_2⟩ := qz3_ BK212; obtain ⟨hfz23_0, hfz23_1, hfz23_2⟩ := qf3_ BK212
            go_wp2_with (first | (go_at_call 51; (with_reducible refine (meeting_within.calls ((rd_T43 l0_9 x13_1).f0) 1 64 true _ A11.out).mono ?_); rintro e w' ⟨rfl, ⟨nd, rfl⟩⟩; (try exact qw_); obtain ⟨hcz24_0, hcz24_1, hcz24_2, hcz24_3, hcz24_4, hcz24_5, hcz24_6, hcz24_7, hcz24_8, hcz24_9, hcz24_10, hcz24_11, hcz24_12⟩ := qz13_ BK210; obtain ⟨hfz24_0, hfz24_1, hfz24_2, hfz24_3, hfz24_4, hfz24_5, hfz24_6, hfz24_7, hfz24_8, hfz24_9, hfz24_10, hfz24_11, hfz24_12⟩ := qf13_ BK210; have p214 : 0 ≤ ((ji14) : Int) := of_decide_eq_true qa_; have q214 : (ji14) < (l0_9.length : Int) := of_decide_eq_true qa_; obtain ⟨ad214, e214, hx214_0, hx214_1, hx214_2⟩ := at_T43 HR0_9.out (ji14) p214 q214; obtain rfl : ad211 = ad214 := (by injection e214); have hn214_0 : ad211.block ≠ gb212 := Nat.ne_of_lt (Nat.lt_of_lt_of_le (by have := World.block_lt_of_cell? _ _ hx214_0; first | rwa [add_block] at this | exact this) GW212.out); have hn214_1 : ad211.block ≠ gb212 := Nat.ne_of_lt (Nat.lt_of_lt_of_le (by have := World.block_lt_of_cell? _ _ hx214_0; first | rwa [add_block] at this | exact this) GW212.out); have hn214_2 : ad211.block ≠ gb212 := Nat.ne_of_lt (Nat.lt_of_lt_of_le (by have := World.block_lt_of_cell? _ _ hx214_0; first | rwa [add_block] at this | exact this) GW212.out); replace hx214_0 := (HB.out.cell (World.block_lt_of_cell? w _ hx214_0)).trans hx214_0; replace hx214_1 := (HB.out.cell (World.block_lt_of_cell? w _ hx214_1)).trans hx214_1; replace hx214_2 := (HB.out.cell (World.block_lt_of_cell? w _ hx214_2)).trans hx214_2; replace hx214_0 := (cell_far (p := ⟨gb212, 0, none⟩) (qn_ hn214_0) (.int .i64 ((rd_T43 l0_9 x13_1).f0))).trans hx214_0; replace hx214_1 := (cell_far (p := ⟨gb212, 0, none⟩) (qn_ hn214_0) (.int .i64 ((rd_T43 l0_9 x13_1).f0))).trans hx214_1; replace hx214_2 := (cell_far (p := ⟨gb212, 0, none⟩) (qn_ hn214_0) (.int .i64 ((rd_T43 l0_9 x13_1).f0))).trans hx214_2; replace hx214_0 := (cell_far (p := ⟨gb212, 1, none⟩) (qn_ hn214_1) (.int .i64 ((rd_T43 l0_9 x13_1).f1))).trans hx214_0; replace hx214_1 := (cell_far (p := ⟨gb212, 1, none⟩) (qn_ hn214_1) (.int .i64 ((rd_T43 l0_9 x13_1).f1))).trans hx214_1; replace hx214_2 := (cell_far (p := ⟨gb212, 1, none⟩) (qn_ hn214_1) (.int .i64 ((rd_T43 l0_9 x13_1).f1))).trans hx214_2; replace hx214_0 := (cell_far (p := ⟨gb212, 2, none⟩) (qn_ hn214_2) (.int .i64 ((rd_T43 l0_9 x13_1).f2))).trans hx214_0; replace hx214_1 := (cell_far (p := ⟨gb212, 2, none⟩) (qn_ hn214_2) (.int .i64 ((rd_T43 l0_9 x13_1).f2))).trans hx214_1; replace hx214_2 := (cell_far (p := ⟨gb212, 2, none⟩) (qn_ hn214_2) (.int .i64 ((rd_T43 l0_9 x13_1).f2))).trans hx214_2; (try have hy214_0 := fun (n_ : Nat) => (show (((((w8.drewN n_).setCell ⟨gb212, 0, none⟩ (.int .i64 ((rd_T43 l0_9 x13_1).f0))).setCell ⟨gb212, 1, none⟩ (.int .i64 ((rd_T43 l0_9 x13_1).f1))).setCell ⟨gb212, 2, none⟩ (.int .i64 ((rd_T43 l0_9 x13_1).f2)))).cell? _ = some _ from hx214_0)); (try have hy214_1 := fun (n_ : Nat) => (show (((((w8.drewN n_).setCell ⟨gb212, 0, none⟩ (.int .i64 ((rd_T43 l0_9 x13_1).f0))).setCell ⟨gb212, 1, none⟩ (.int .i64 ((rd_T43 l0_9 x13_1).f1))).setCell ⟨gb212, 2, none⟩ (.int .i64 ((rd_T43 l0_9 x13_1).f2)))).cell? _ = some _ from hx214_1)); (try have hy214_2 := fun (n_ : Nat) => (show (((((w8.drewN n_).setCell ⟨gb212, 0, none⟩ (.int .i64 ((rd_T43 l0_9 x13_1).f0))).setCell ⟨gb212, 1, none⟩ (.int .i64 ((rd_T43 l0_9 x13_1).f1))).setCell ⟨gb212, 2, none⟩ (.int .i64 ((rd_T43 l0_9 x13_1).f2)))).cell? _ = some _ from hx214_2)); clear hn214_0 hn214_1 hn214_2; replace p214 := eq_true p214; replace q214 := eq_true q214) | (go_at_call 51; (with_reducible refine (meeting_within.calls ((rd_T43 l0_9 x13_1).f1) 0 1000 t215 _ A21.out).mono ?_); rintro e w' ⟨rfl, ⟨nd, rfl⟩⟩; (try exact qw_)))
            repeat (go_quiet (first | (go_at_call 51; (with_reducible refine (meeting_within.calls ((rd_T43 l0_9 x13_1).f0) 1 64 true _ A11.out).mono ?_); rintro e w' ⟨rfl, ⟨nd, rfl⟩⟩; (try exact qw_); obtain ⟨hcz24_0, hcz24_1, hcz24_2, hcz24_3, hcz24_4, hcz24_5, hcz24_6, hcz24_7, hcz24_8, hcz24_9, hcz24_10, hcz24_11, hcz24_12⟩ := qz13_ BK210; obtain ⟨hfz24_0, hfz24_1, hfz24_2, hfz24_3, hfz24_4, hfz24_5, hfz24_6, hfz24_7, hfz24_8, hfz24_9, hfz24_10, hfz24_11, hfz24_12⟩ := qf13_ BK210; have p214 : 0 ≤ ((ji14) : Int) := of_decide_eq_true qa_; have q214 : (ji14) < (l0_9.length : Int) := of_decide_eq_true qa_; obtain ⟨ad214, e214, hx214_0, hx214_1, hx214_2⟩ := at_T43 HR0_9.out (ji14) p214 q214; obtain rfl : ad211 = ad214 := (by injection e214); have hn214_0 : ad211.block ≠ gb212 := Nat.ne_of_lt (Nat.lt_of_lt_of_le (by have := World.block_lt_of_cell? _ _ hx214_0; first | rwa [add_block] at this | exact this) GW212.out); have hn214_1 : ad211.block ≠ gb212 := Nat.ne_of_lt (Nat.lt_of_lt_of_le (by have := World.block_lt_of_cell? _ _ hx214_0; first | rwa [add_block] at this | exact this) GW212.out); have hn214_2 : ad211.block ≠ gb212 := Nat.ne_of_lt (Nat.lt_of_lt_of_le (by have := World.block_lt_of_cell? _ _ hx214_0; first | rwa [add_block] at this | exact this) GW212.out); replace hx214_0 := (HB.out.cell (World.block_lt_of_cell? w _ hx214_0)).trans hx214_0; replace hx214_1 := (HB.out.cell (World.block_lt_of_cell? w _ hx214_1)).trans hx214_1; replace hx214_2 := (HB.out.cell (World.block_lt_of_cell? w _ hx214_2)).trans hx214_2; replace hx214_0 := (cell_far (p := ⟨gb212, 0, none⟩) (qn_ hn214_0) (.int .i64 ((rd_T43 l0_9 x13_1).f0))).trans hx214_0; replace hx214_1 := (cell_far (p := ⟨gb212, 0, none⟩) (qn_ hn214_0) (.int .i64 ((rd_T43 l0_9 x13_1).f0))).trans hx214_1; replace hx214_2 := (cell_far (p := ⟨gb212, 0, none⟩) (qn_ hn214_0) (.int .i64 ((rd_T43 l0_9 x13_1).f0))).trans hx214_2; replace hx214_0 := (cell_far (p := ⟨gb212, 1, none⟩) (qn_ hn214_1) (.int .i64 ((rd_T43 l0_9 x13_1).f1))).trans hx214_0; replace hx214_1 := (cell_far (p := ⟨gb212, 1, none⟩) (qn_ hn214_1) (.int .i64 ((rd_T43 l0_9 x13_1).f1))).trans hx214_1; replace hx214_2 := (cell_far (p := ⟨gb212, 1, none⟩) (qn_ hn214_1) (.int .i64 ((rd_T43 l0_9 x13_1).f1))).trans hx214_2; replace hx214_0 := (cell_far (p := ⟨gb212, 2, none⟩) (qn_ hn214_2) (.int .i64 ((rd_T43 l0_9 x13_1).f2))).trans hx214_0; replace hx214_1 := (cell_far (p := ⟨gb212, 2, none⟩) (qn_ hn214_2) (.int .i64 ((rd_T43 l0_9 x13_1).f2))).trans hx214_1; replace hx214_2 := (cell_far (p := ⟨gb212, 2, none⟩) (qn_ hn214_2) (.int .i64 ((rd_T43 l0_9 x13_1).f2))).trans hx214_2; (try have hy214_0 := fun (n_ : Nat) => (show (((((w8.drewN n_).setCell ⟨gb212, 0, none⟩ (.int .i64 ((rd_T43 l0_9 x13_1).f0))).setCell ⟨gb212, 1, none⟩ (.int .i64 ((rd_T43 l0_9 x13_1).f1))).setCell ⟨gb212, 2, none⟩ (.int .i64 ((rd_T43 l0_9 x13_1).f2)))).cell? _ = some _ from hx214_0)); (try have hy214_1 := fun (n_ : Nat) => (show (((((w8.drewN n_).setCell ⟨gb212, 0, none⟩ (.int .i64 ((rd_T43 l0_9 x13_1).f0))).setCell ⟨gb212, 1, none⟩ (.int .i64 ((rd_T43 l0_9 x13_1).f1))).setCell ⟨gb212, 2, none⟩ (.int .i64 ((rd_T43 l0_9 x13_1).f2)))).cell? _ = some _ from hx214_1)); (try have hy214_2 := fun (n_ : Nat) => (show (((((w8.drewN n_).setCell ⟨gb212, 0, none⟩ (.int .i64 ((rd_T43 l0_9 x13_1).f0))).setCell ⟨gb212, 1, none⟩ (.int .i64 ((rd_T43 l0_9 x13_1).f1))).setCell ⟨gb212, 2, none⟩ (.int .i64 ((rd_T43 l0_9 x13_1).f2)))).cell? _ = some _ from hx214_2)); clear hn214_0 hn214_1 hn214_2; replace p214 := eq_true p214; replace q214 := eq_true q214) | (go_at_call 51; (with_reducible refine (meeting_within.calls ((rd_T43 l0_9 x13_1).f1) 0 1000 t215 _ A21.out).mono ?_); rintro e w' ⟨rfl, ⟨nd, rfl⟩⟩; (try exact qw_))); try go_wp2_with (first | (go_at_call 51; (with_reducible refine (meeting_within.calls ((rd_T43 l0_9 x13_1).f0) 1 64 true _ A11.out).mono ?_); rintro e w' ⟨rfl, ⟨nd, rfl⟩⟩; (try exact qw_); obtain ⟨hcz24_0, hcz24_1, hcz24_2, hcz24_3, hcz24_4, hcz24_5, hcz24_6, hcz24_7, hcz24_8, hcz24_9, hcz24_10, hcz24_11, hcz24_12⟩ := qz13_ BK210; obtain ⟨hfz24_0, hfz24_1, hfz24_2, hfz24_3, hfz24_4, hfz24_5, hfz24_6, hfz24_7, hfz24_8, hfz24_9, hfz24_10, hfz24_11, hfz24_12⟩ := qf13_ BK210; have p214 : 0 ≤ ((ji14) : Int) := of_decide_eq_true qa_; have q214 : (ji14) < (l0_9.length : Int) := of_decide_eq_true qa_; obtain ⟨ad214, e214, hx214_0, hx214_1, hx214_2⟩ := at_T43 HR0_9.out (ji14) p214 q214; obtain rfl : ad211 = ad214 := (by injection e214); have hn214_0 : ad211.block ≠ gb212 := Nat.ne_of_lt (Nat.lt_of_lt_of_le (by have := World.block_lt_of_cell? _ _ hx214_0; first | rwa [add_block] at this | exact this) GW212.out); have hn214_1 : ad211.block ≠ gb212 := Nat.ne_of_lt (Nat.lt_of_lt_of_le (by have := World.block_lt_of_cell? _ _ hx214_0; first | rwa [add_block] at this | exact this) GW212.out); have hn214_2 : ad211.block ≠ gb212 := Nat.ne_of_lt (Nat.lt_of_lt_of_le (by have := World.block_lt_of_cell? _ _ hx214_0; first | rwa [add_block] at this | exact this) GW212.out); replace hx214_0 := (HB.out.cell (World.block_lt_of_cell? w _ hx214_0)).trans hx214_0; replace hx214_1 := (HB.out.cell (World.block_lt_of_cell? w _ hx214_1)).trans hx214_1; replace hx214_2 := (HB.out.cell (World.block_lt_of_cell? w _ hx214_2)).trans hx214_2; replace hx214_0 := (cell_far (p := ⟨gb212, 0, none⟩) (qn_ hn214_0) (.int .i64 ((rd_T43 l0_9 x13_1).f0))).trans hx214_0; replace hx214_1 := (cell_far (p := ⟨gb212, 0, none⟩) (qn_ hn214_0) (.int .i64 ((rd_T43 l0_9 x13_1).f0))).trans hx214_1; replace hx214_2 := (cell_far (p := ⟨gb212, 0, none⟩) (qn_ hn214_0) (.int .i64 ((rd_T43 l0_9 x13_1).f0))).trans hx214_2; replace hx214_0 := (cell_far (p := ⟨gb212, 1, none⟩) (qn_ hn214_1) (.int .i64 ((rd_T43 l0_9 x13_1).f1))).trans hx214_0; replace hx214_1 := (cell_far (p := ⟨gb212, 1, none⟩) (qn_ hn214_1) (.int .i64 ((rd_T43 l0_9 x13_1).f1))).trans hx214_1; replace hx214_2 := (cell_far (p := ⟨gb212, 1, none⟩) (qn_ hn214_1) (.int .i64 ((rd_T43 l0_9 x13_1).f1))).trans hx214_2; replace hx214_0 := (cell_far (p := ⟨gb212, 2, none⟩) (qn_ hn214_2) (.int .i64 ((rd_T43 l0_9 x13_1).f2))).trans hx214_0; replace hx214_1 := (cell_far (p := ⟨gb212, 2, none⟩) (qn_ hn214_2) (.int .i64 ((rd_T43 l0_9 x13_1).f2))).trans hx214_1; replace hx214_2 := (cell_far (p := ⟨gb212, 2, none⟩) (qn_ hn214_2) (.int .i64 ((rd_T43 l0_9 x13_1).f2))).trans hx214_2; (try have hy214_0 := fun (n_ : Nat) => (show (((((w8.drewN n_).setCell ⟨gb212, 0, none⟩ (.int .i64 ((rd_T43 l0_9 x13_1).f0))).setCell ⟨gb212, 1, none⟩ (.int .i64 ((rd_T43 l0_9 x13_1).f1))).setCell ⟨gb212, 2, none⟩ (.int .i64 ((rd_T43 l0_9 x13_1).f2)))).cell? _ = some _ from hx214_0)); (try have hy214_1 := fun (n_ : Nat) => (show (((((w8.drewN n_).setCell ⟨gb212, 0, none⟩ (.int .i64 ((rd_T43 l0_9 x13_1).f0))).setCell ⟨gb212, 1, none⟩ (.int .i64 ((rd_T43 l0_9 x13_1).f1))).setCell ⟨gb212, 2, none⟩ (.int .i64 ((rd_T43 l0_9 x13_1).f2)))).cell? _ = some _ from hx214_1)); (try have hy214_2 := fun (n_ : Nat) => (show (((((w8.drewN n_).setCell ⟨gb212, 0, none⟩ (.int .i64 ((rd_T43 l0_9 x13_1).f0))).setCell ⟨gb212, 1, none⟩ (.int .i64 ((rd_T43 l0_9 x13_1).f1))).setCell ⟨gb212, 2, none⟩ (.int .i64 ((rd_T43 l0_9 x13_1).f2)))).cell? _ = some _ from hx214_2)); clear hn214_0 hn214_1 hn214_2; replace p214 := eq_true p214; replace q214 := eq_true q214) | (go_at_call 51; (with_reducible refine (meeting_within.calls ((rd_T43 l0_9 x13_1).f1) 0 1000 t215 _ A21.out).mono ?_); rintro e w' ⟨rfl, ⟨nd, rfl⟩⟩; (try exact qw_))))
            go_meet
            case rel => exact ⟨_, (!t215), qs_, H', ⟨by have := HK1.out; first | omega | exact Nat.le_refl _⟩, ⟨by refine qd_ ?_; refine blk_far ?_ NB210_212.out _; refine qd_ ?_; refine blk_far ?_ NB210_212.out _; refine qd_ ?_; refine blk_far ?_ NB210_212.out _; refine qd_ ?_; exact BK210.out⟩, ⟨by refine qd_ ?_; refine blk_put (cs := #[.int .i64 ((rd_T43 l0_9 x13_1).f0), .int .i64 ((rd_T43 l0_9 x13_1).f1), .int .i64 0]) ?_ 2 _ rfl; refine qd_ ?_; refine blk_put (cs := #[.int .i64 ((rd_T43 l0_9 x13_1).f0), .int .i64 0, .int .i64 0]) ?_ 1 _ rfl; refine qd_ ?_; refine blk_put (cs := #[.int .i64 0, .int .i64 0, .int .i64 0]) ?_ 0 _ rfl; refine qd_ ?_; exact BK212.out⟩, ⟨qb_⟩⟩
          ·rw [if_neg c16] at H
           exact absurd H (by simp)
         ·rw [if_neg c15] at H
          exact absurd H (by simp)
        ·rw [if_neg c13] at H
         have c13b0 : decide (0 < x13_1) = false := decide_eq_false c13
         clear c13
         (first | rw [c13b0] | (simp only [i64_w, i32_w]; rw [c13b0]) | skip)
         replace H := Option.bind_eq_some_iff.mp H
         obtain ⟨t216, A250, H⟩ := H
         replace H : (meeting_hall_validVoters.j1 k1 l0_9 (l0_9.length : Int) x13_1 (!t216) a0_0 a0_1 a0_2 a0_3 a0_4 a0_5 a0_6 a0_7 l0_8 l0_9 l0_10 a0_11 l0_12) = some r := H
         have A25 := Aside0.mk A250
         clear A250
         have H' := Aside0.mk H
         clear H
         have hnb26 := NB212_210.out
         have hnc26 := NB210_212.out
         obtain ⟨hcz27_0, hcz27_1, hcz27_2⟩ := qz3_ BK212; obtain ⟨hfz27_0, hfz27_1, hfz27_2⟩ := qf3_ BK212
         go_wp2_with (first | (go_at_call 51; (with_reducible refine (meeting_within.calls ((rd_T43 l0_9 x13_1).f0) 1 64 true _ A11.out).mono ?_); rintro e w' ⟨rfl, ⟨nd, rfl⟩⟩; (try exact qw_)) | (go_at_call 51; (with_reducible refine (meeting_within.calls ((rd_T43 l0_9 x13_1).f1) 0 1000 t216 _ A25.out).mono ?_); rintro e w' ⟨rfl, ⟨nd, rfl⟩⟩; (try exact qw_)))
         repeat (go_quiet (first | (go_at_call 51; (with_reducible refine (meeting_within.calls ((rd_T43 l0_9 x13_1).f0) 1 64 true _ A11.out).mono ?_); rintro e w' ⟨rfl, ⟨nd, rfl⟩⟩; (try exact qw_)) | (go_at_call 51; (with_reducible refine (meeting_within.calls ((rd_T43 l0_9 x13_1).f1) 0 1000 t216 _ A25.out).mono ?_); rintro e w' ⟨rfl, ⟨nd, rfl⟩⟩; (try exact qw_))); try go_wp2_with (first | (go_at_call 51; (with_reducible refine (meeting_within.calls ((rd_T43 l0_9 x13_1).f0) 1 64 true _ A11.out).mono ?_); rintro e w' ⟨rfl, ⟨nd, rfl⟩⟩; (try exact qw_)) | (go_at_call 51; (with_reducible refine (meeting_within.calls ((rd_T43 l0_9 x13_1).f1) 0 1000 t216 _ A25.out).mono ?_); rintro e w' ⟨rfl, ⟨nd, rfl⟩⟩; (try exact qw_))))
         go_meet
         case rel => exact ⟨_, (!t216), qs_, H', ⟨by have := HK1.out; first | omega | exact Nat.le_refl _⟩, ⟨by refine qd_ ?_; refine blk_far ?_ NB210_212.out _; refine qd_ ?_; refine blk_far ?_ NB210_212.out _; refine qd_ ?_; refine blk_far ?_ NB210_212.out _; refine qd_ ?_; exact BK210.out⟩, ⟨by refine qd_ ?_; refine blk_put (cs := #[.int .i64 ((rd_T43 l0_9 x13_1).f0), .int .i64 ((rd_T43 l0_9 x13_1).f1), .int .i64 0]) ?_ 2 _ rfl; refine qd_ ?_; refine blk_put (cs := #[.int .i64 ((rd_T43 l0_9 x13_1).f0), .int .i64 0, .int .i64 0]) ?_ 1 _ rfl; refine qd_ ?_; refine blk_put (cs := #[.int .i64 0, .int .i64 0, .int .i64 0]) ?_ 0 _ rfl; refine qd_ ?_; exact BK212.out⟩, ⟨qb_⟩⟩
       ·replace c12 := Bool.eq_false_iff.mpr c12
        subst c12
        have H1 : (meeting_hall_validVoters.j1 k1 l0_9 (l0_9.length : Int) x13_1 true a0_0 a0_1 a0_2 a0_3 a0_4 a0_5 a0_6 a0_7 l0_8 l0_9 l0_10 a0_11 l0_12) = some r := by rw [if_neg (show ¬ (false = true) by decide)] at H; exact H
        clear H
        have H := H1
        clear H1
        have H' := Aside0.mk H
        clear H
        have hnb28 := NB212_210.out
        have hnc28 := NB210_212.out
        obtain ⟨hcz29_0, hcz29_1, hcz29_2⟩ := qz3_ BK212; obtain ⟨hfz29_0, hfz29_1, hfz29_2⟩ := qf3_ BK212
        go_wp2_with (first | (go_at_call 51; (with_reducible refine (meeting_within.calls ((rd_T43 l0_9 x13_1).f0) 1 64 false _ A11.out).mono ?_); rintro e w' ⟨rfl, ⟨nd, rfl⟩⟩; (try exact qw_)))
        repeat (go_quiet (first | (go_at_call 51; (with_reducible refine (meeting_within.calls ((rd_T43 l0_9 x13_1).f0) 1 64 false _ A11.out).mono ?_); rintro e w' ⟨rfl, ⟨nd, rfl⟩⟩; (try exact qw_))); try go_wp2_with (first | (go_at_call 51; (with_reducible refine (meeting_within.calls ((rd_T43 l0_9 x13_1).f0) 1 64 false _ A11.out).mono ?_); rintro e w' ⟨rfl, ⟨nd, rfl⟩⟩; (try exact qw_))))
        go_meet
        case rel => exact ⟨_, (true), qs_, H', ⟨by have := HK1.out; first | omega | exact Nat.le_refl _⟩, ⟨by refine qd_ ?_; refine blk_far ?_ NB210_212.out _; refine qd_ ?_; refine blk_far ?_ NB210_212.out _; refine qd_ ?_; refine blk_far ?_ NB210_212.out _; refine qd_ ?_; exact BK210.out⟩, ⟨by refine qd_ ?_; refine blk_put (cs := #[.int .i64 ((rd_T43 l0_9 x13_1).f0), .int .i64 ((rd_T43 l0_9 x13_1).f1), .int .i64 0]) ?_ 2 _ rfl; refine qd_ ?_; refine blk_put (cs := #[.int .i64 ((rd_T43 l0_9 x13_1).f0), .int .i64 0, .int .i64 0]) ?_ 1 _ rfl; refine qd_ ?_; refine blk_put (cs := #[.int .i64 0, .int .i64 0, .int .i64 0]) ?_ 0 _ rfl; refine qd_ ?_; exact BK212.out⟩, ⟨qb_⟩⟩
      case rest =>
       clear HC7
       try clear c1
       try clear c2
       try clear p2
       try clear q2
       try clear hx2
       try clear c4
       try clear c4b0
       try clear c5
       try clear c5b0
       try clear c6
       try clear c6b0
       try clear p6
       try clear c9
       try clear c12
       try clear c13
       try clear c13b0
       try clear c15
       try clear c15b0
       try clear c16
       try clear c16b0
       try clear c17
       try clear c17b0
       try clear c18
       try clear p21
       try clear q21
       try clear hx21
       try clear c22
       try clear c26
       try clear c28
       try clear hcz10_0 hcz10_1 hcz10_2
       try clear hcz19_0 hcz19_1 hcz19_2
       try clear hcz20_0 hcz20_1 hcz20_10 hcz20_11 hcz20_12 hcz20_2 hcz20_3 hcz20_4 hcz20_5 hcz20_6 hcz20_7 hcz20_8 hcz20_9
       try clear hcz23_0 hcz23_1 hcz23_2
       try clear hcz24_0 hcz24_1 hcz24_10 hcz24_11 hcz24_12 hcz24_2 hcz24_3 hcz24_4 hcz24_5 hcz24_6 hcz24_7 hcz24_8 hcz24_9
       try clear hcz27_0 hcz27_1 hcz27_2
       try clear hcz29_0 hcz29_1 hcz29_2
       try clear hcz3_0 hcz3_1 hcz3_10 hcz3_11 hcz3_12 hcz3_2 hcz3_3 hcz3_4 hcz3_5 hcz3_6 hcz3_7 hcz3_8 hcz3_9
       try clear hfz10_0 hfz10_1 hfz10_2
       try clear hfz19_0 hfz19_1 hfz19_2
       try clear hfz20_0 hfz20_1 hfz20_10 hfz20_11 hfz20_12 hfz20_2 hfz20_3 hfz20_4 hfz20_5 hfz20_6 hfz20_7 hfz20_8 hfz20_9
       try clear hfz23_0 hfz23_1 hfz23_2
       try clear hfz24_0 hfz24_1 hfz24_10 hfz24_11 hfz24_12 hfz24_2 hfz24_3 hfz24_4 hfz24_5 hfz24_6 hfz24_7 hfz24_8 hfz24_9
       try clear hfz27_0 hfz27_1 hfz27_2
       try clear hfz29_0 hfz29_1 hfz29_2
       try clear hfz3_0 hfz3_1 hfz3_10 hfz3_11 hfz3_12 hfz3_2 hfz3_3 hfz3_4 hfz3_5 hfz3_6 hfz3_7 hfz3_8 hfz3_9
       try clear hx211_0
       try clear hx211_1
       try clear hx211_2
       try clear hx214_0
       try clear hx214_1
       try clear hx214_2
       try clear p2
       try clear p211
       try clear p214
       try clear q211
       try clear q214
       obtain ⟨kq, x44_6, rfl, HA, HJ6, BK210, BK212, HB⟩ := hcut
       cases kq with
       | zero => exact absurd HA.out (by simp [meeting_hall_validVoters.j1])
       | succ kj6 =>
        have H := HA.out
        clear HA
        simp only [meeting_hall_validVoters.j1] at H
        by_cases c30 : x44_6 = true
        ·subst c30
         have H1 : (some false) = some r := by rw [if_pos rfl] at H; exact H
         clear H
         have H := H1
         clear H1
         obtain rfl := Option.some.inj H
         go_wp2
         repeat (go_quiet (fail); try go_wp2)
         go_ret
         exact ⟨qx_, qb_⟩
        ·replace c30 := Bool.eq_false_iff.mpr c30
         subst c30
         have H1 : (meeting_hall_validVoters.l0 kj6 l0_9 (l0_9.length : Int) (wrap64 (x13_1 + 1)) a0_0 a0_1 a0_2 a0_3 a0_4 a0_5 a0_6 a0_7 l0_8 l0_9 l0_10 a0_11 l0_12) = some r := by rw [if_neg (show ¬ (false = true) by decide)] at H; exact H
         clear H
         have H := H1
         clear H1
         have H' := Aside0.mk H
         clear H
         go_wp2
         repeat (go_quiet (fail); try go_wp2)
         go_roundg kj6
         case measure => have := HK1.out; have := HJ6.out; omega
         case rel => exact ⟨(wrap64 (x13_1 + 1)), qs_, H', ⟨by have := HK1.out; have := HJ6.out; omega⟩, ⟨qk_ BK210⟩, ⟨qb_⟩⟩
     ·rw [if_neg c6] at H
      exact absurd H (by simp)
    ·rw [if_neg c5] at H
     exact absurd H (by simp)
   ·rw [if_neg c4] at H
    have c4b0 : decide (x13_1 < (l0_9.length : Int)) = false := decide_eq_false c4
    clear c4
    have H' := Aside0.mk H
    clear H
    obtain ⟨hcz31_0, hcz31_1, hcz31_2, hcz31_3, hcz31_4, hcz31_5, hcz31_6, hcz31_7, hcz31_8, hcz31_9, hcz31_10, hcz31_11, hcz31_12⟩ := qz13_ BK210; obtain ⟨hfz31_0, hfz31_1, hfz31_2, hfz31_3, hfz31_4, hfz31_5, hfz31_6, hfz31_7, hfz31_8, hfz31_9, hfz31_10, hfz31_11, hfz31_12⟩ := qf13_ BK210
    go_wp2
    repeat (go_quiet (fail); try go_wp2)
    go_loopg [50] k1 (fun kq v50 w' => ∃ (x50_2 : Int), v50 = .int .i64 x50_2 ∧ Aside0 (meeting_hall_validVoters.l1 kq l0_9 (l0_9.length : Int) x50_2 a0_0 a0_1 a0_2 a0_3 a0_4 a0_5 a0_6 a0_7 l0_8 l0_9 l0_10 a0_11 l0_12 = some r) ∧ Aside0 (kq ≤ k1) ∧ Aside0 (w'.heap[gb210]? = some (.cells #[.int .i64 a0_0, .int .i64 a0_1, .int .i64 a0_2, .int .i64 a0_3, .bool a0_4, .int .i64 a0_5, .int .i64 a0_6, .int .i64 a0_7, (.slice A0_8 l0_8.length c0_8), (.slice A0_9 l0_9.length c0_9), (.slice A0_10 l0_10.length c0_10), .string a0_11, (.slice A0_12 l0_12.length c0_12)] 62 (0, 0))) ∧ Aside0 (Below w.heap.size w w'))
    case atStart => exact ⟨(0), qs_, H', ⟨Nat.le_refl _⟩, ⟨qk_ BK210⟩, ⟨qb_⟩⟩
    case round =>
     clear H'
     try clear c1
     try clear c2
     try clear p2
     try clear q2
     try clear hx2
     try clear c3
     try clear c4
     try clear c4b0
     try clear c5
     try clear c5b0
     try clear c6
     try clear c6b0
     try clear p6
     try clear c9
     try clear c12
     try clear c13
     try clear c13b0
     try clear c15
     try clear c15b0
     try clear c16
     try clear c16b0
     try clear c17
     try clear c17b0
     try clear c18
     try clear p21
     try clear q21
     try clear hx21
     try clear c22
     try clear c26
     try clear c28
     try clear c30
     try clear hcz10_0 hcz10_1 hcz10_2
     try clear hcz19_0 hcz19_1 hcz19_2
     try clear hcz20_0 hcz20_1 hcz20_10 hcz20_11 hcz20_12 hcz20_2 hcz20_3 hcz20_4 hcz20_5 hcz20_6 hcz20_7 hcz20_8 hcz20_9
     try clear hcz23_0 hcz23_1 hcz23_2
     try clear hcz24_0 hcz24_1 hcz24_10 hcz24_11 hcz24_12 hcz24_2 hcz24_3 hcz24_4 hcz24_5 hcz24_6 hcz24_7 hcz24_8 hcz24_9
     try clear hcz27_0 hcz27_1 hcz27_2
     try clear hcz29_0 hcz29_1 hcz29_2
     try clear hcz31_0 hcz31_1 hcz31_10 hcz31_11 hcz31_12 hcz31_2 hcz31_3 hcz31_4 hcz31_5 hcz31_6 hcz31_7 hcz31_8 hcz31_9
     try clear hcz3_0 hcz3_1 hcz3_10 hcz3_11 hcz3_12 hcz3_2 hcz3_3 hcz3_4 hcz3_5 hcz3_6 hcz3_7 hcz3_8 hcz3_9
     try clear hfz10_0 hfz10_1 hfz10_2
     try clear hfz19_0 hfz19_1 hfz19_2
     try clear hfz20_0 hfz20_1 hfz20_10 hfz20_11 hfz20_12 hfz20_2 hfz20_3 hfz20_4 hfz20_5 hfz20_6 hfz20_7 hfz20_8 hfz20_9
     try clear hfz23_0 hfz23_1 hfz23_2
     try clear hfz24_0 hfz24_1 hfz24_10 hfz24_11 hfz24_12 hfz24_2 hfz24_3 hfz24_4 hfz24_5 hfz24_6 hfz24_7 hfz24_8 hfz24_9
     try clear hfz27_0 hfz27_1 hfz27_2
     try clear hfz29_0 hfz29_1 hfz29_2
     try clear hfz31_0 hfz31_1 hfz31_10 hfz31_11 hfz31_12 hfz31_2 hfz31_3 hfz31_4 hfz31_5 hfz31_6 hfz31_7 hfz31_8 hfz31_9
     try clear hfz3_0 hfz3_1 hfz3_10 hfz3_11 hfz3_12 hfz3_2 hfz3_3 hfz3_4 hfz3_5 hfz3_6 hfz3_7 hfz3_8 hfz3_9
     try clear hx211_0
     try clear hx211_1
     try clear hx211_2
     try clear hx214_0
     try clear hx214_1
     try clear hx214_2
     try clear p2
     try clear p21
     try clear p211
     try clear p214
     try clear p6
     try clear q2
     try clear q21
     try clear q211
     try clear q214
     obtain ⟨x50_2, rfl, HA, HK2, BK210, HB⟩ := hrel
     cases gk with
     | zero => exact absurd HA.out (by simp [meeting_hall_validVoters.l1])
     | succ k2 =>
      have H := HA.out
      clear HA
      simp only [meeting_hall_validVoters.l1] at H
      by_cases c32 : x50_2 < (l0_9.length : Int)
      ·rw [if_pos c32] at H
       have c32b0 : decide (x50_2 < (l0_9.length : Int)) = true := decide_eq_true c32
       clear c32
       by_cases c33 : 0 ≤ x50_2
       ·rw [if_pos c33] at H
        have c33b0 : decide (0 ≤ x50_2) = true := decide_eq_true c33
        clear c33
        by_cases c34 : x50_2 < (l0_9.length : Int)
        ·rw [if_pos c34] at H
         have c34b0 : decide (x50_2 < (l0_9.length : Int)) = true := decide_eq_true c34
         clear c34
         replace H := Option.bind_eq_some_iff.mp H
         obtain ⟨⟨t219, t220⟩, A350, H⟩ := H
         replace H : (if ((rd_T43 l0_9 x50_2).f2) = 0 then (meeting_hall_validVoters.j3 k2 l0_9 (l0_9.length : Int) x50_2 false a0_0 a0_1 a0_2 a0_3 a0_4 a0_5 a0_6 a0_7 l0_8 l0_9 l0_10 a0_11 l0_12) else (if t220 = true then (meeting_hall_validVoters.j3 k2 l0_9 (l0_9.length : Int) x50_2 (((rd_T43 l0_9 x50_2).f2) == ((rd_T43 l0_9 x50_2).f0)) a0_0 a0_1 a0_2 a0_3 a0_4 a0_5 a0_6 a0_7 l0_8 l0_9 l0_10 a0_11 l0_12) else (meeting_hall_validVoters.j3 k2 l0_9 (l0_9.length : Int) x50_2 true a0_0 a0_1 a0_2 a0_3 a0_4 a0_5 a0_6 a0_7 l0_8 l0_9 l0_10 a0_11 l0_12))) = some r := H
         have A35 := Aside0.mk A350
         clear A350
         have HC36 := Aside0.mk H
         clear H
         have p217 : 0 ≤ (x50_2 : Int) := of_decide_eq_true qa_
         have q217 : x50_2 < (l0_9.length : Int) := of_decide_eq_true qa_
         obtain ⟨ad217, e217, hx217_0, hx217_1, hx217_2⟩ := at_T43 HR0_9.out x50_2 p217 q217
         cases e217
         replace hx217_0 := (HB.out.cell (World.block_lt_of_cell? w _ hx217_0)).trans hx217_0
         replace hx217_1 := (HB.out.cell (World.block_lt_of_cell? w _ hx217_1)).trans hx217_1
         replace hx217_2 := (HB.out.cell (World.block_lt_of_cell? w _ hx217_2)).trans hx217_2
         replace p217 := eq_true p217
         replace q217 := eq_true q217
         go_upto_region 11 with (first | ((with_reducible refine gate_dst (N := 6) rfl ?_); refine box_event ?hg (N := 6) ?hd (cs := #[.int .i64 0, .int .i64 0, .int .i64 0]) (t := 43) ?hr ?_; (case hd => rfl); (case hg => rfl); (case hr => first | (go_simp; done) | (go_simp; rfl)); intro gb218 hg w37 hbox hb; have n0_ := qkb_ BK210 hb; have n1_ := qbs_ hb; have n2_ := Aside0.mk (hbox); have n3_ := Aside0.mk ((qg_ hg : w.heap.size ≤ gb218)); have n4_ := Aside0.mk ((qg_ hg : w.heap.size ≤ gb218)); have n5_ := Aside0.mk ((by rw [hg]; exact Nat.ne_of_lt (blk_lt (qk_ BK210)) : gb210 ≠ gb218)); have n6_ := Aside0.mk ((by rw [hg]; exact Nat.ne_of_gt (blk_lt (qk_ BK210)) : gb218 ≠ gb210)); clear BK210 HB; have BK210 := n0_; have HB := n1_; have BK218 := n2_; have GW218 := n3_; have GE218 := n4_; have NB210_218 := n5_; have NB218_210 := n6_; clear n0_ n1_ n2_ n3_ n4_ n5_ n6_ hb hbox hg; have hnb38 := NB218_210.out; have hnc38 := NB210_218.out; obtain ⟨hcz39_0, hcz39_1, hcz39_2⟩ := qz3_ BK218; obtain ⟨hfz39_0, hfz39_1, hfz39_2⟩ := qf3_ BK218; obtain ⟨hcz40_0, hcz40_1, hcz40_2, hcz40_3, hcz40_4, hcz40_5, hcz40_6, hcz40_7, hcz40_8, hcz40_9, hcz40_10, hcz40_11, hcz40_12⟩ := qz13_ BK210; obtain ⟨hfz40_0, hfz40_1, hfz40_2, hfz40_3, hfz40_4, hfz40_5, hfz40_6, hfz40_7, hfz40_8, hfz40_9, hfz40_10, hfz40_11, hfz40_12⟩ := qf13_ BK210) | (go_at_call 56; (with_reducible refine (meeting_hall_find.calls k2 a0_0 a0_1 a0_2 a0_3 a0_4 a0_5 a0_6 a0_7 _ _ l0_8 _ _ l0_9 _ _ l0_10 a0_11 _ _ l0_12 ((rd_T43 l0_9 x50_2).f2) t219 t220 _ ?side1 ?side2 ?side3 ?side4 ?side5 ?side6 ?side7 ?side8 A35.out).mono ?_); (case side1 => exact Kd.C_below HR0_8.out qb_); (case side2 => exact HC0_8.out); (case side3 => exact Kd.C_below HR0_9.out qb_); (case side4 => exact HC0_9.out); (case side5 => exact Kd.C_below HR0_10.out qb_); (case side6 => exact HC0_10.out); (case side7 => exact Kd.C_below HR0_12.out qb_); (case side8 => exact HC0_12.out); rintro e w41 ⟨rfl, hb⟩; have n0_ := Aside0.mk (blk_below (g := gb210) (o := .cells #[.int .i64 a0_0, .int .i64 a0_1, .int .i64 a0_2, .int .i64 a0_3, .bool a0_4, .int .i64 a0_5, .int .i64 a0_6, .int .i64 a0_7, .slice A0_8 l0_8.length c0_8, .slice (some ad217) l0_9.length c0_9, .slice A0_10 l0_10.length c0_10, .string a0_11, .slice A0_12 l0_12.length c0_12] 62 (0, 0)) (by refine qd_ ?_; refine blk_far ?_ NB210_218.out _; refine qd_ ?_; refine blk_far ?_ NB210_218.out _; refine qd_ ?_; refine blk_far ?_ NB210_218.out _; refine qd_ ?_; exact BK210.out) hb); have n1_ := Aside0.mk (blk_below (g := gb218) (o := .cells #[.int .i64 ((rd_T43 l0_9 x50_2).f0), .int .i64 ((rd_T43 l0_9 x50_2).f1), .int .i64 ((rd_T43 l0_9 x50_2).f2)] 43 (0, 0)) (by refine qd_ ?_; refine blk_put (cs := #[.int .i64 ((rd_T43 l0_9 x50_2).f0), .int .i64 ((rd_T43 l0_9 x50_2).f1), .int .i64 0]) ?_ 2 _ rfl; refine qd_ ?_; refine blk_put (cs := #[.int .i64 ((rd_T43 l0_9 x50_2).f0), .int .i64 0, .int .i64 0]) ?_ 1 _ rfl; refine qd_ ?_; refine blk_put (cs := #[.int .i64 0, .int .i64 0, .int .i64 0]) ?_ 0 _ rfl; refine qd_ ?_; exact BK218.out) hb); have n2_ := qbs_ hb; clear BK210 BK218 HB; have BK210 := n0_; have BK218 := n1_; have HB := n2_; clear n0_ n1_ n2_; (try clear hb); (try clear hb2); (try clear hk); (try clear hi)))
         repeat (go_quiet (first | ((with_reducible refine gate_dst (N := 6) rfl ?_); refine box_event ?hg (N := 6) ?hd (cs := #[.int .i64 0, .int .i64 0, .int .i64 0]) (t := 43) ?hr ?_; (case hd => rfl); (case hg => rfl); (case hr => first | (go_simp; done) | (go_simp; rfl)); intro gb218 hg w37 hbox hb; have n0_ := qkb_ BK210 hb; have n1_ := qbs_ hb; have n2_ := Aside0.mk (hbox); have n3_ := Aside0.mk ((qg_ hg : w.heap.size ≤ gb218)); have n4_ := Aside0.mk ((qg_ hg : w.heap.size ≤ gb218)); have n5_ := Aside0.mk ((by rw [hg]; exact Nat.ne_of_lt (blk_lt (qk_ BK210)) : gb210 ≠ gb218)); have n6_ := Aside0.mk ((by rw [hg]; exact Nat.ne_of_gt (blk_lt (qk_ BK210)) : gb218 ≠ gb210)); clear BK210 HB; have BK210 := n0_; have HB := n1_; have BK218 := n2_; have GW218 := n3_; have GE218 := n4_; have NB210_218 := n5_; have NB218_210 := n6_; clear n0_ n1_ n2_ n3_ n4_ n5_ n6_ hb hbox hg; have hnb38 := NB218_210.out; have hnc38 := NB210_218.out; obtain ⟨hcz39_0, hcz39_1, hcz39_2⟩ := qz3_ BK218; obtain ⟨hfz39_0, hfz39_1, hfz39_2⟩ := qf3_ BK218; obtain ⟨hcz40_0, hcz40_1, hcz40_2, hcz40_3, hcz40_4, hcz40_5, hcz40_6, hcz40_7, hcz40_8, hcz40_9, hcz40_10, hcz40_11, hcz40_12⟩ := qz13_ BK210; obtain ⟨hfz40_0, hfz40_1, hfz40_2, hfz40_3, hfz40_4, hfz40_5, hfz40_6, hfz40_7, hfz40_8, hfz40_9, hfz40_10, hfz40_11, hfz40_12⟩ := qf13_ BK210) | (go_at_call 56; (with_reducible refine (meeting_hall_find.calls k2 a0_0 a0_1 a0_2 a0_3 a0_4 a0_5 a0_6 a0_7 _ _ l0_8 _ _ l0_9 _ _ l0_10 a0_11 _ _ l0_12 ((rd_T43 l0_9 x50_2).f2) t219 t220 _ ?side1 ?side2 ?side3 ?side4 ?side5 ?side6 ?side7 ?side8 A35.out).mono ?_); (case side1 => exact Kd.C_below HR0_8.out qb_); (case side2 => exact HC0_8.out); (case side3 => exact Kd.C_below HR0_9.out qb_); (case side4 => exact HC0_9.out); (case side5 => exact Kd.C_below HR0_10.out qb_); (case side6 => exact HC0_10.out); (case side7 => exact Kd.C_below HR0_12.out qb_); (case side8 => exact HC0_12.out); rintro e w41 ⟨rfl, hb⟩; have n0_ := Aside0.mk (blk_below (g := gb210) (o := .cells #[.int .i64 a0_0, .int .i64 a0_1, .int .i64 a0_2, .int .i64 a0_3, .bool a0_4, .int .i64 a0_5, .int .i64 a0_6, .int .i64 a0_7, .slice A0_8 l0_8.length c0_8, .slice (some ad217) l0_9.length c0_9, .slice A0_10 l0_10.length c0_10, .string a0_11, .slice A0_12 l0_12.length c0_12] 62 (0, 0)) (by refine qd_ ?_; refine blk_far ?_ NB210_218.out _; refine qd_ ?_; refine blk_far ?_ NB210_218.out _; refine qd_ ?_; refine blk_far ?_ NB210_218.out _; refine qd_ ?_; exact BK210.out) hb); have n1_ := Aside0.mk (blk_below (g := gb218) (o := .cells #[.int .i64 ((rd_T43 l0_9 x50_2).f0), .int .i64 ((rd_T43 l0_9 x50_2).f1), .int .i64 ((rd_T43 l0_9 x50_2).f2)] 43 (0, 0)) (by refine qd_ ?_; refine blk_put (cs := #[.int .i64 ((rd_T43 l0_9 x50_2).f0), .int .i64 ((rd_T43 l0_9 x50_2).f1), .int .i64 0]) ?_ 2 _ rfl; refine qd_ ?_; refine blk_put (cs := #[.int .i64 ((rd_T43 l0_9 x50_2).f0), .int .i64 0, .int .i64 0]) ?_ 1 _ rfl; refine qd_ ?_; refine blk_put (cs := #[.int .i64 0, .int .i64 0, .int .i64 0]) ?_ 0 _ rfl; refine qd_ ?_; exact BK218.out) hb); have n2_ := qbs_ hb; clear BK210 BK218 HB; have BK210 := n0_; have BK218 := n1_; have HB := n2_; clear n0_ n1_ n2_; (try clear hb); (try clear hb2); (try clear hk); (try clear hi))); go_upto_region 11 with (first | ((with_reducible refine gate_dst (N := 6) rfl ?_); refine box_event ?hg (N := 6) ?hd (cs := #[.int .i64 0, .int .i64 0, .int .i64 0]) (t := 43) ?hr ?_; (case hd => rfl); (case hg => rfl); (case hr => first | (go_simp; done) | (go_simp; rfl)); intro gb218 hg w37 hbox hb; have n0_ := qkb_ BK210 hb; have n1_ := qbs_ hb; have n2_ := Aside0.mk (hbox); have n3_ := Aside0.mk ((qg_ hg : w.heap.size ≤ gb218)); have n4_ := Aside0.mk ((qg_ hg : w.heap.size ≤ gb218)); have n5_ := Aside0.mk ((by rw [hg]; exact Nat.ne_of_lt (blk_lt (qk_ BK210)) : gb210 ≠ gb218)); have n6_ := Aside0.mk ((by rw [hg]; exact Nat.ne_of_gt (blk_lt (qk_ BK210)) : gb218 ≠ gb210)); clear BK210 HB; have BK210 := n0_; have HB := n1_; have BK218 := n2_; have GW218 := n3_; have GE218 := n4_; have NB210_218 := n5_; have NB218_210 := n6_; clear n0_ n1_ n2_ n3_ n4_ n5_ n6_ hb hbox hg; have hnb38 := NB218_210.out; have hnc38 := NB210_218.out; obtain ⟨hcz39_0, hcz39_1, hcz39_2⟩ := qz3_ BK218; obtain ⟨hfz39_0, hfz39_1, hfz39_2⟩ := qf3_ BK218; obtain ⟨hcz40_0, hcz40_1, hcz40_2, hcz40_3, hcz40_4, hcz40_5, hcz40_6, hcz40_7, hcz40_8, hcz40_9, hcz40_10, hcz40_11, hcz40_12⟩ := qz13_ BK210; obtain ⟨hfz40_0, hfz40_1, hfz40_2, hfz40_3, hfz40_4, hfz40_5, hfz40_6, hfz40_7, hfz40_8, hfz40_9, hfz40_10, hfz40_11, hfz40_12⟩ := qf13_ BK210) | (go_at_call 56; (with_reducible refine (meeting_hall_find.calls k2 a0_0 a0_1 a0_2 a0_3 a0_4 a0_5 a0_6 a0_7 _ _ l0_8 _ _ l0_9 _ _ l0_10 a0_11 _ _ l0_12 ((rd_T43 l0_9 x50_2).f2) t219 t220 _ ?side1 ?side2 ?side3 ?side4 ?side5 ?side6 ?side7 ?side8 A35.out).mono ?_); (case side1 => exact Kd.C_below HR0_8.out qb_); (case side2 => exact HC0_8.out); (case side3 => exact Kd.C_below HR0_9.out qb_); (case side4 => exact HC0_9.out); (case side5 => exact Kd.C_below HR0_10.out qb_); (case side6 => exact HC0_10.out); (case side7 => exact Kd.C_below HR0_12.out qb_); (case side8 => exact HC0_12.out); rintro e w41 ⟨rfl, hb⟩; have n0_ := Aside0.mk (blk_below (g := gb210) (o := .cells #[.int .i64 a0_0, .int .i64 a0_1, .int .i64 a0_2, .int .i64 a0_3, .bool a0_4, .int .i64 a0_5, .int .i64 a0_6, .int .i64 a0_7, .slice A0_8 l0_8.length c0_8, .slice (some ad217) l0_9.length c0_9, .slice A0_10 l0_10.length c0_10, .string a0_11, .slice A0_12 l0_12.length c0_12] 62 (0, 0)) (by refine qd_ ?_; refine blk_far ?_ NB210_218.out _; refine qd_ ?_; refine blk_far ?_ NB210_218.out _; refine qd_ ?_; refine blk_far ?_ NB210_218.out _; refine qd_ ?_; exact BK210.out) hb); have n1_ := Aside0.mk (blk_below (g := gb218) (o := .cells #[.int .i64 ((rd_T43 l0_9 x50_2).f0), .int .i64 ((rd_T43 l0_9 x50_2).f1), .int .i64 ((rd_T43 l0_9 x50_2).f2)] 43 (0, 0)) (by refine qd_ ?_; refine blk_put (cs := #[.int .i64 ((rd_T43 l0_9 x50_2).f0), .int .i64 ((rd_T43 l0_9 x50_2).f1), .int .i64 0]) ?_ 2 _ rfl; refine qd_ ?_; refine blk_put (cs := #[.int .i64 ((rd_T43 l0_9 x50_2).f0), .int .i64 0, .int .i64 0]) ?_ 1 _ rfl; refine qd_ ?_; refine blk_put (cs := #[.int .i64 0, .int .i64 0, .int .i64 0]) ?_ 0 _ rfl; refine qd_ ?_; exact BK218.out) hb); have n2_ := qbs_ hb; clear BK210 BK218 HB; have BK210 := n0_; have BK218 := n1_; have HB := n2_; clear n0_ n1_ n2_; (try clear hb); (try clear hb2); (try clear hk); (try clear hi))))
         (try simp only [Act.put, List.setIfInBounds_toArray, List.set_cons_zero, List.set_cons_succ])
         go_cut [74] (fun v74 wc => ∃ (kq : Nat) (x74_35 : Bool), v74 = .bool x74_35 ∧ Aside0 (meeting_hall_validVoters.j3 kq l0_9 (l0_9.length : Int) x50_2 x74_35 a0_0 a0_1 a0_2 a0_3 a0_4 a0_5 a0_6 a0_7 l0_8 l0_9 l0_10 a0_11 l0_12 = some r) ∧ Aside0 (kq ≤ k2) ∧ Aside0 (wc.heap[gb210]? = some (.cells #[.int .i64 a0_0, .int .i64 a0_1, .int .i64 a0_2, .int .i64 a0_3, .bool a0_4, .int .i64 a0_5, .int .i64 a0_6, .int .i64 a0_7, (.slice A0_8 l0_8.length c0_8), (.slice (some ad217) l0_9.length c0_9), (.slice A0_10 l0_10.length c0_10), .string a0_11, (.slice A0_12 l0_12.length c0_12)] 62 (0, 0))) ∧ Aside0 (wc.heap[gb218]? = some (.cells #[.int .i64 ((rd_T43 l0_9 x50_2).f0), .int .i64 ((rd_T43 l0_9 x50_2).f1), .int .i64 ((rd_T43 l0_9 x50_2).f2)] 43 (0, 0))) ∧ Aside0 (Below w.heap.size w wc))
         case first =>
          have H := HC36.out
          clear HC36
          by_cases c42 : ((rd_T43 l0_9 x50_2).f2) = 0
          ·rw [if_pos c42] at H
           have c42b0 : (((rd_T43 l0_9 x50_2).f2) == 0) = true := beq_iff_eq.mpr c42
           have c42b1 : (((rd_T43 l0_9 x50_2).f2) != 0) = false := bne_eq_false_iff_eq.mpr c42
           clear c42
           (first | rw [c42b0] | (simp only [i64_w, i32_w]; rw [c42b0]) | skip)
           have H' := Aside0.mk H
           clear H
           have hnb43 := NB218_210.out
           have hnc43 := NB210_218.out
           obtain ⟨hcz44_0, hcz44_1, hcz44_2⟩ := qz3_ BK218; obtain ⟨hfz44_0, hfz44_1, hfz44_2⟩ := qf3_ BK218
           go_wp2
           repeat (go_quiet (fail); try go_wp2)
           go_meet
           case rel => exact ⟨_, (false), qs_, H', ⟨by have := HK1.out; have := HK2.out; first | omega | exact Nat.le_refl _⟩, ⟨qk_ BK210⟩, ⟨qk_ BK218⟩, ⟨qb_⟩⟩
          ·rw [if_neg c42] at H
           have c42b0 : (((rd_T43 l0_9 x50_2).f2) == 0) = false := beq_eq_false_iff_ne.mpr c42
           have c42b1 : (((rd_T43 l0_9 x50_2).f2) != 0) = true := bne_iff_ne.mpr c42
           (first | rw [c42b0] | (simp only [i64_w, i32_w]; rw [c42b0]) | skip)
           by_cases c45 : t220 = true
           ·subst c45
            have H1 : (meeting_hall_validVoters.j3 k2 l0_9 (l0_9.length : Int) x50_2 (((rd_T43 l0_9 x50_2).f2) == ((rd_T43 l0_9 x50_2).f0)) a0_0 a0_1 a0_2 a0_3 a0_4 a0_5 a0_6 a0_7 l0_8 l0_9 l0_10 a0_11 l0_12) = some r := by rw [if_pos rfl] at H; exact H
            clear H
            have H := H1
            clear H1
            have H' := Aside0.mk H
            clear H
            have hnb46 := NB218_210.out
            have hnc46 := NB210_218.out
            obtain ⟨hcz47_0, hcz47_1, hcz47_2⟩ := qz3_ BK218; obtain ⟨hfz47_0, hfz47_1, hfz47_2⟩ := qf3_ BK218
            go_wp2
            repeat (go_quiet (fail); try go_wp2)
            go_meet
            case rel => exact ⟨_, ((((rd_T43 l0_9 x50_2).f2) == ((rd_T43 l0_9 x50_2).f0))), qs_, H', ⟨by have := HK1.out; have := HK2.out; first | omega | exact Nat.le_refl _⟩, ⟨qk_ BK210⟩, ⟨qk_ BK218⟩, ⟨qb_⟩⟩
           ·replace c45 := Bool.eq_false_iff.mpr c45
            subst c45
            have H1 : (meeting_hall_validVoters.j3 k2 l0_9 (l0_9.length : Int) x50_2 true a0_0 a0_1 a0_2 a0_3 a0_4 a0_5 a0_6 a0_7 l0_8 l0_9 l0_10 a0_11 l0_12) = some r := by rw [if_neg (show ¬ (false = true) by decide)] at H; exact H
            clear H
            have H := H1
            clear H1
            have H' := Aside0.mk H
            clear H
            have hnb48 := NB218_210.out
            have hnc48 := NB210_218.out
            obtain ⟨hcz49_0, hcz49_1, hcz49_2⟩ := qz3_ BK218; obtain ⟨hfz49_0, hfz49_1, hfz49_2⟩ := qf3_ BK218
            go_wp2
            repeat (go_quiet (fail); try go_wp2)
            go_meet
            case rel => exact ⟨_, (true), qs_, H', ⟨by have := HK1.out; have := HK2.out; first | omega | exact Nat.le_refl _⟩, ⟨qk_ BK210⟩, ⟨qk_ BK218⟩, ⟨qb_⟩⟩
         case rest =>
          clear HC36
          try clear c1
          try clear c2
          try clear p2
          try clear q2
          try clear hx2
          try clear c3
          try clear c4
          try clear c4b0
          try clear c5
          try clear c5b0
          try clear c6
          try clear c6b0
          try clear p6
          try clear c9
          try clear c12
          try clear c13
          try clear c13b0
          try clear c15
          try clear c15b0
          try clear c16
          try clear c16b0
          try clear c17
          try clear c17b0
          try clear c18
          try clear p21
          try clear q21
          try clear hx21
          try clear c22
          try clear c26
          try clear c28
          try clear c30
          try clear c32
          try clear c32b0
          try clear c33
          try clear c33b0
          try clear c34
          try clear c34b0
          try clear c38
          try clear c42
          try clear c42b0
          try clear c42b1
          try clear c43
          try clear c45
          try clear c46
          try clear c48
          try clear hcz10_0 hcz10_1 hcz10_2
          try clear hcz19_0 hcz19_1 hcz19_2
          try clear hcz20_0 hcz20_1 hcz20_10 hcz20_11 hcz20_12 hcz20_2 hcz20_3 hcz20_4 hcz20_5 hcz20_6 hcz20_7 hcz20_8 hcz20_9
          try clear hcz23_0 hcz23_1 hcz23_2
          try clear hcz24_0 hcz24_1 hcz24_10 hcz24_11 hcz24_12 hcz24_2 hcz24_3 hcz24_4 hcz24_5 hcz24_6 hcz24_7 hcz24_8 hcz24_9
          try clear hcz27_0 hcz27_1 hcz27_2
          try clear hcz29_0 hcz29_1 hcz29_2
          try clear hcz31_0 hcz31_1 hcz31_10 hcz31_11 hcz31_12 hcz31_2 hcz31_3 hcz31_4 hcz31_5 hcz31_6 hcz31_7 hcz31_8 hcz31_9
          try clear hcz39_0 hcz39_1 hcz39_2
          try clear hcz3_0 hcz3_1 hcz3_10 hcz3_11 hcz3_12 hcz3_2 hcz3_3 hcz3_4 hcz3_5 hcz3_6 hcz3_7 hcz3_8 hcz3_9
          try clear hcz40_0 hcz40_1 hcz40_10 hcz40_11 hcz40_12 hcz40_2 hcz40_3 hcz40_4 hcz40_5 hcz40_6 hcz40_7 hcz40_8 hcz40_9
          try clear hcz44_0 hcz44_1 hcz44_2
          try clear hcz47_0 hcz47_1 hcz47_2
          try clear hcz49_0 hcz49_1 hcz49_2
          try clear hfz10_0 hfz10_1 hfz10_2
          try clear hfz19_0 hfz19_1 hfz19_2
          try clear hfz20_0 hfz20_1 hfz20_10 hfz20_11 hfz20_12 hfz20_2 hfz20_3 hfz20_4 hfz20_5 hfz20_6 hfz20_7 hfz20_8 hfz20_9
          try clear hfz23_0 hfz23_1 hfz23_2
          try clear hfz24_0 hfz24_1 hfz24_10 hfz24_11 hfz24_12 hfz24_2 hfz24_3 hfz24_4 hfz24_5 hfz24_6 hfz24_7 hfz24_8 hfz24_9
          try clear hfz27_0 hfz27_1 hfz27_2
          try clear hfz29_0 hfz29_1 hfz29_2
          try clear hfz31_0 hfz31_1 hfz31_10 hfz31_11 hfz31_12 hfz31_2 hfz31_3 hfz31_4 hfz31_5 hfz31_6 hfz31_7 hfz31_8 hfz31_9
          try clear hfz39_0 hfz39_1 hfz39_2
          try clear hfz3_0 hfz3_1 hfz3_10 hfz3_11 hfz3_12 hfz3_2 hfz3_3 hfz3_4 hfz3_5 hfz3_6 hfz3_7 hfz3_8 hfz3_9
          try clear hfz40_0 hfz40_1 hfz40_10 hfz40_11 hfz40_12 hfz40_2 hfz40_3 hfz40_4 hfz40_5 hfz40_6 hfz40_7 hfz40_8 hfz40_9
          try clear hfz44_0 hfz44_1 hfz44_2
          try clear hfz47_0 hfz47_1 hfz47_2
          try clear hfz49_0 hfz49_1 hfz49_2
          try clear hx211_0
          try clear hx211_1
          try clear hx211_2
          try clear hx214_0
          try clear hx214_1
          try clear hx214_2
          try clear hx217_0
          try clear hx217_1
          try clear hx217_2
          try clear p2
          try clear p21
          try clear p211
          try clear p214
          try clear p217
          try clear p6
          try clear q2
          try clear q21
          try clear q211
          try clear q214
          try clear q217
          obtain ⟨kq, x74_35, rfl, HA, HJ35, BK210, BK218, HB⟩ := hcut
          cases kq with
          | zero => exact absurd HA.out (by simp [meeting_hall_validVoters.j3])
          | succ kj35 =>
           have H := HA.out
           clear HA
           simp only [meeting_hall_validVoters.j3] at H
           by_cases c50 : x74_35 = true
           ·subst c50
            have H1 : (some false) = some r := by rw [if_pos rfl] at H; exact H
            clear H
            have H := H1
            clear H1
            obtain rfl := Option.some.inj H
            go_wp2
            repeat (go_quiet (fail); try go_wp2)
            go_ret
            exact ⟨qx_, qb_⟩
           ·replace c50 := Bool.eq_false_iff.mpr c50
            subst c50
            have H1 : (meeting_hall_validVoters.l1 kj35 l0_9 (l0_9.length : Int) (wrap64 (x50_2 + 1)) a0_0 a0_1 a0_2 a0_3 a0_4 a0_5 a0_6 a0_7 l0_8 l0_9 l0_10 a0_11 l0_12) = some r := by rw [if_neg (show ¬ (false = true) by decide)] at H; exact H
            clear H
            have H := H1
            clear H1
            have H' := Aside0.mk H
            clear H
            go_wp2
            repeat (go_quiet (fail); try go_wp2)
            go_roundg kj35
            case measure => have := HK1.out; have := HK2.out; have := HJ35.out; omega
            case rel => exact ⟨(wrap64 (x50_2 + 1)), qs_, H', ⟨by have := HK1.out; have := HK2.out; have := HJ35.out; omega⟩, ⟨qk_ BK210⟩, ⟨qb_⟩⟩
        ·rw [if_neg c34] at H
         exact absurd H (by simp)
       ·rw [if_neg c33] at H
        exact absurd H (by simp)
      ·rw [if_neg c32] at H
       have c32b0 : decide (x50_2 < (l0_9.length : Int)) = false := decide_eq_false c32
       clear c32
       obtain rfl := Option.some.inj H
       obtain ⟨hcz51_0, hcz51_1, hcz51_2, hcz51_3, hcz51_4, hcz51_5, hcz51_6, hcz51_7, hcz51_8, hcz51_9, hcz51_10, hcz51_11, hcz51_12⟩ := qz13_ BK210; obtain ⟨hfz51_0, hfz51_1, hfz51_2, hfz51_3, hfz51_4, hfz51_5, hfz51_6, hfz51_7, hfz51_8, hfz51_9, hfz51_10, hfz51_11, hfz51_12⟩ := qf13_ BK210
       go_wp2
       repeat (go_quiet (fail); try go_wp2)
       go_ret
       exact ⟨qx_, qb_⟩
end Go.Proofs.Ytemnlgefngjliaa.Px
