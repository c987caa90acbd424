/- Contracts of Go functions, written by a program of this session's own (wip/tools/myprint.py) out of the translation: each Go function does what the Lean function of its name says. Conditions: as each theorem states. -/
import Derived.Test.YtemnlgefngjliaaPx0
import Derived.Test.YtemnlgefngjliaaPx4
import Derived.Test.YtemnlgefngjliaaPx8
import Derived.Test.YtemnlgefngjliaaPx10
import Derived.Test.YtemnlgefngjliaaPx11
namespace Go.Proofs.Ytemnlgefngjliaa.Px
open Go.Proofs.Ytemnlgefngjliaa.Given
open Go.RowKit Go.Proofs.YtemnlgefngjliaaW.PrintWords Go.Proofs.YtemnlgefngjliaaW.PrintLast Go.Proofs.YtemnlgefngjliaaW.PrintMore
attribute [local go_sem] max2_int min2_int max_two min_two max_three min_three max_four min_four   -- for this text's walks alone
set_option linter.unusedVariables false
set_option linter.unusedSimpArgs false
/-! ### meeting_hall_valid: function 31 -/
mutual
def meeting_hall_valid.j0 : Nat → Bool → Int → Int → Int → Int → Bool → Int → Int → Int → List ByteArray → List (S43) → List Int → ByteArray → List Int → Option (Bool)
 | 0, _, _, _, _, _, _, _, _, _, _, _, _, _, _ => none
 | k + 1, x40, x222000, x222001, x222002, x222003, x222004, x222005, x222006, x222007, x222008, x222009, x222010, x222011, x222012 => if x40 = true then (some false) else (meeting_hall_valid.l0 k x222010 (x222010.length : Int) 0 x222000 x222001 x222002 x222003 x222004 x222005 x222006 x222007 x222008 x222009 x222010 x222011 x222012)
def meeting_hall_valid.l0 : Nat → List Int → Int → Int → Int → Int → Int → Int → Bool → Int → Int → Int → List ByteArray → List (S43) → List Int → ByteArray → List Int → Option (Bool)
 | 0, _, _, _, _, _, _, _, _, _, _, _, _, _, _, _, _ => none
 | k + 1, x43, x44, x45, x222000, x222001, x222002, x222003, x222004, x222005, x222006, x222007, x222008, x222009, x222010, x222011, x222012 => if x45 < x44 then (if 0 ≤ x45 then (if x45 < (x43.length : Int) then ((meeting_hall_find.f k x222000 x222001 x222002 x222003 x222004 x222005 x222006 x222007 x222008 x222009 x222010 x222011 x222012 (rd x43 x45)).bind fun bt228 => (if bt228.2 = true then (if x45 > 0 then (if 0 ≤ (wrap64 (x45 - 1)) then (if (wrap64 (x45 - 1)) < (x222010.length : Int) then (meeting_hall_valid.j2 k x43 x44 x45 (decide ((rd x43 x45) ≤ (rd x222010 (wrap64 (x45 - 1))))) x222000 x222001 x222002 x222003 x222004 x222005 x222006 x222007 x222008 x222009 x222010 x222011 x222012) else (none)) else (none)) else (meeting_hall_valid.j2 k x43 x44 x45 false x222000 x222001 x222002 x222003 x222004 x222005 x222006 x222007 x222008 x222009 x222010 x222011 x222012)) else (meeting_hall_valid.j2 k x43 x44 x45 true x222000 x222001 x222002 x222003 x222004 x222005 x222006 x222007 x222008 x222009 x222010 x222011 x222012))) else (none)) else (none)) else (some true)
def meeting_hall_valid.j2 : Nat → List Int → Int → Int → Bool → Int → Int → Int → Int → Bool → Int → Int → Int → List ByteArray → List (S43) → List Int → ByteArray → List Int → Option (Bool)
 | 0, _, _, _, _, _, _, _, _, _, _, _, _, _, _, _, _, _ => none
 | k + 1, x43, x44, x45, x72, x222000, x222001, x222002, x222003, x222004, x222005, x222006, x222007, x222008, x222009, x222010, x222011, x222012 => if x72 = true then (some false) else (meeting_hall_valid.l0 k x43 x44 (wrap64 (x45 + 1)) x222000 x222001 x222002 x222003 x222004 x222005 x222006 x222007 x222008 x222009 x222010 x222011 x222012)
end
def meeting_hall_valid.f (k : Nat) (a0_0 : Int) (a0_1 : Int) (a0_2 : Int) (a0_3 : Int) (a0_4 : Bool) (a0_5 : Int) (a0_6 : Int) (a0_7 : Int) (l0_8 : List ByteArray) (l0_9 : List (S43)) (l0_10 : List Int) (a0_11 : ByteArray) (l0_12 : List Int) : Option (Bool) := (meeting_within.f a0_5 0 36524).bind fun t222 => (if t222 = true then ((meeting_within.f a0_7 a0_5 36524).bind fun t223 => (if t223 = true then ((meeting_within.f a0_6 1 2).bind fun t224 => (if t224 = true then ((meeting_isAgenda.f k l0_8).bind fun t225 => (if t225 = true then ((meeting_hall_validVoters.f k a0_0 a0_1 a0_2 a0_3 a0_4 a0_5 a0_6 a0_7 l0_8 l0_9 l0_10 a0_11 l0_12).bind fun t226 => (meeting_hall_valid.j0 k (!t226) a0_0 a0_1 a0_2 a0_3 a0_4 a0_5 a0_6 a0_7 l0_8 l0_9 l0_10 a0_11 l0_12)) else (meeting_hall_valid.j0 k true a0_0 a0_1 a0_2 a0_3 a0_4 a0_5 a0_6 a0_7 l0_8 l0_9 l0_10 a0_11 l0_12))) else (meeting_hall_valid.j0 k true a0_0 a0_1 a0_2 a0_3 a0_4 a0_5 a0_6 a0_7 l0_8 l0_9 l0_10 a0_11 l0_12))) else (meeting_hall_valid.j0 k true a0_0 a0_1 a0_2 a0_3 a0_4 a0_5 a0_6 a0_7 l0_8 l0_9 l0_10 a0_11 l0_12))) else (meeting_hall_valid.j0 k true a0_0 a0_1 a0_2 a0_3 a0_4 a0_5 a0_6 a0_7 l0_8 l0_9 l0_10 a0_11 l0_12))
theorem meeting_hall_valid.mono_l : ∀ k, (∀ y0 y1 y2 y3 y4 y5 y6 y7 y8 y9 y10 y11 y12 y13, LeO (meeting_hall_valid.j0 k y0 y1 y2 y3 y4 y5 y6 y7 y8 y9 y10 y11 y12 y13) (meeting_hall_valid.j0 (k + 1) y0 y1 y2 y3 y4 y5 y6 y7 y8 y9 y10 y11 y12 y13)) ∧ (∀ y0 y1 y2 y3 y4 y5 y6 y7 y8 y9 y10 y11 y12 y13 y14 y15, LeO (meeting_hall_valid.l0 k y0 y1 y2 y3 y4 y5 y6 y7 y8 y9 y10 y11 y12 y13 y14 y15) (meeting_hall_valid.l0 (k + 1) y0 y1 y2 y3 y4 y5 y6 y7 y8 y9 y10 y11 y12 y13 y14 y15)) ∧ (∀ y0 y1 y2 y3 y4 y5 y6 y7 y8 y9 y10 y11 y12 y13 y14 y15 y16, LeO (meeting_hall_valid.j2 k y0 y1 y2 y3 y4 y5 y6 y7 y8 y9 y10 y11 y12 y13 y14 y15 y16) (meeting_hall_valid.j2 (k + 1) y0 y1 y2 y3 y4 y5 y6 y7 y8 y9 y10 y11 y12 y13 y14 y15 y16))
 | 0 => ⟨fun _ _ _ _ _ _ _ _ _ _ _ _ _ _ r h => by simp [meeting_hall_valid.j0] at h, fun _ _ _ _ _ _ _ _ _ _ _ _ _ _ _ _ r h => by simp [meeting_hall_valid.l0] at h, fun _ _ _ _ _ _ _ _ _ _ _ _ _ _ _ _ _ r h => by simp [meeting_hall_valid.j2] at h⟩
 | k + 1 => by
  obtain ⟨ih0, ih1, ih2⟩ := meeting_hall_valid.mono_l k
  refine ⟨?_, ?_, ?_⟩
  ·intro y0 y1 y2 y3 y4 y5 y6 y7 y8 y9 y10 y11 y12 y13
   unfold meeting_hall_valid.j0
   repeat' first
   | (with_reducible exact ih0 _ _ _ _ _ _ _ _ _ _ _ _ _ _)
   | (with_reducible exact ih1 _ _ _ _ _ _ _ _ _ _ _ _ _ _ _ _)
   | (with_reducible exact ih2 _ _ _ _ _ _ _ _ _ _ _ _ _ _ _ _ _)
   | (with_reducible exact meeting_hall_find.mono _ _ _ _ _ _ _ _ _ _ _ _ _ _ _)
   | (with_reducible exact meeting_hall_validVoters.mono _ _ _ _ _ _ _ _ _ _ _ _ _ _)
   | (with_reducible exact meeting_isAgenda.mono _ _)
   | (with_reducible exact LeO.refl _)
   | (with_reducible exact LeO.none _)
   | (with_reducible refine LeO.ite ?_ ?_)
   | (with_reducible refine LeO.bind ?_ (fun _ => ?_))
   | exact ih0 _ _ _ _ _ _ _ _ _ _ _ _ _ _
   | exact ih1 _ _ _ _ _ _ _ _ _ _ _ _ _ _ _ _
   | exact ih2 _ _ _ _ _ _ _ _ _ _ _ _ _ _ _ _ _
   | exact meeting_hall_find.mono _ _ _ _ _ _ _ _ _ _ _ _ _ _ _
   | exact meeting_hall_validVoters.mono _ _ _ _ _ _ _ _ _ _ _ _ _ _
   | exact meeting_isAgenda.mono _ _
   | exact LeO.none _
   | refine LeO.ite ?_ ?_
   | refine LeO.bind ?_ (fun _ => ?_)
  ·intro y0 y1 y2 y3 y4 y5 y6 y7 y8 y9 y10 y11 y12 y13 y14 y15
   unfold meeting_hall_valid.l0
   repeat' first
   | (with_reducible exact ih0 _ _ _ _ _ _ _ _ _ _ _ _ _ _)
   | (with_reducible exact ih1 _ _ _ _ _ _ _ _ _ _ _ _ _ _ _ _)
   | (with_reducible exact ih2 _ _ _ _ _ _ _ _ _ _ _ _ _ _ _ _ _)
   | (with_reducible exact meeting_hall_find.mono _ _ _ _ _ _ _ _ _ _ _ _ _ _ _)
   | (with_reducible exact meeting_hall_validVoters.mono _ _ _ _ _ _ _ _ _ _ _ _ _ _)
   | (with_reducible exact meeting_isAgenda.mono _ _)
   | (with_reducible exact LeO.refl _)
   | (with_reducible exact LeO.none _)
   | (with_reducible refine LeO.ite ?_ ?_)
   | (with_reducible refine LeO.bind ?_ (fun _ => ?_))
   | exact ih0 _ _ _ _ _ _ _ _ _ _ _ _ _ _
   | exact ih1 _ _ _ _ _ _ _ _ _ _ _ _ _ _ _ _
   | exact ih2 _ _ _ _ _ _ _ _ _ _ _ _ _ _ _ _ _
   | exact meeting_hall_find.mono _ _ _ _ _ _ _ _ _ _ _ _ _ _ _
   | exact meeting_hall_validVoters.mono _ _ _ _ _ _ _ _ _ _ _ _ _ _
   | exact meeting_isAgenda.mono _ _
   | exact LeO.none _
   | refine LeO.ite ?_ ?_
   | refine LeO.bind ?_ (fun _ => ?_)
  ·intro y0 y1 y2 y3 y4 y5 y6 y7 y8 y9 y10 y11 y12 y13 y14 y15 y16
   unfold meeting_hall_valid.j2
   repeat' first
   | (with_reducible exact ih0 _ _ _ _ _ _ _ _ _ _ _ _ _ _)
   | (with_reducible exact ih1 _ _ _ _ _ _ _ _ _ _ _ _ _ _ _ _)
   | (with_reducible exact ih2 _ _ _ _ _ _ _ _ _ _ _ _ _ _ _ _ _)
   | (with_reducible exact meeting_hall_find.mono _ _ _ _ _ _ _ _ _ _ _ _ _ _ _)
   | (with_reducible exact meeting_hall_validVoters.mono _ _ _ _ _ _ _ _ _ _ _ _ _ _)
   | (with_reducible exact meeting_isAgenda.mono _ _)
   | (with_reducible exact LeO.refl _)
   | (with_reducible exact LeO.none _)
   | (with_reducible refine LeO.ite ?_ ?_)
   | (with_reducible refine LeO.bind ?_ (fun _ => ?_))
   | exact ih0 _ _ _ _ _ _ _ _ _ _ _ _ _ _
   | exact ih1 _ _ _ _ _ _ _ _ _ _ _ _ _ _ _ _
   | exact ih2 _ _ _ _ _ _ _ _ _ _ _ _ _ _ _ _ _
   | exact meeting_hall_find.mono _ _ _ _ _ _ _ _ _ _ _ _ _ _ _
   | exact meeting_hall_validVoters.mono _ _ _ _ _ _ _ _ _ _ _ _ _ _
   | exact meeting_isAgenda.mono _ _
   | exact LeO.none _
   | refine LeO.ite ?_ ?_
   | refine LeO.bind ?_ (fun _ => ?_)
theorem meeting_hall_valid.mono : ∀ a0 a1 a2 a3 a4 a5 a6 a7 a8 a9 a10 a11 a12 k, LeO (meeting_hall_valid.f k a0 a1 a2 a3 a4 a5 a6 a7 a8 a9 a10 a11 a12) (meeting_hall_valid.f (k + 1) a0 a1 a2 a3 a4 a5 a6 a7 a8 a9 a10 a11 a12) := by
 intro a0 a1 a2 a3 a4 a5 a6 a7 a8 a9 a10 a11 a12 k
 obtain ⟨ih0, ih1, ih2⟩ := meeting_hall_valid.mono_l k
 unfold meeting_hall_valid.f
 repeat' first
   | (with_reducible exact ih0 _ _ _ _ _ _ _ _ _ _ _ _ _ _)
   | (with_reducible exact ih1 _ _ _ _ _ _ _ _ _ _ _ _ _ _ _ _)
   | (with_reducible exact ih2 _ _ _ _ _ _ _ _ _ _ _ _ _ _ _ _ _)
   | (with_reducible exact meeting_hall_find.mono _ _ _ _ _ _ _ _ _ _ _ _ _ _ _)
   | (with_reducible exact meeting_hall_validVoters.mono _ _ _ _ _ _ _ _ _ _ _ _ _ _)
   | (with_reducible exact meeting_isAgenda.mono _ _)
   | (with_reducible exact LeO.refl _)
   | (with_reducible exact LeO.none _)
   | (with_reducible refine LeO.ite ?_ ?_)
   | (with_reducible refine LeO.bind ?_ (fun _ => ?_))
   | exact ih0 _ _ _ _ _ _ _ _ _ _ _ _ _ _
   | exact ih1 _ _ _ _ _ _ _ _ _ _ _ _ _ _ _ _
   | exact ih2 _ _ _ _ _ _ _ _ _ _ _ _ _ _ _ _ _
   | exact meeting_hall_find.mono _ _ _ _ _ _ _ _ _ _ _ _ _ _ _
   | exact meeting_hall_validVoters.mono _ _ _ _ _ _ _ _ _ _ _ _ _ _
   | exact meeting_isAgenda.mono _ _
   | exact LeO.none _
   | refine LeO.ite ?_ ?_
   | refine LeO.bind ?_ (fun _ => ?_)
set_option maxHeartbeats 8000000 in
set_option maxRecDepth 100000 in
theorem meeting_hall_valid.calls (k : Nat) (a0_0 : Int) (a0_1 : Int) (a0_2 : Int) (a0_3 : Int) (a0_4 : Bool) (a0_5 : Int) (a0_6 : Int) (a0_7 : Int) (A0_8 : Option Addr) (c0_8 : Nat) (l0_8 : List ByteArray) (A0_9 : Option Addr) (c0_9 : Nat) (l0_9 : List (S43)) (A0_10 : Option Addr) (c0_10 : Nat) (l0_10 : List Int) (a0_11 : ByteArray) (A0_12 : Option Addr) (c0_12 : Nat) (l0_12 : List Int) (r : Bool) (w : World) (hr0_8 : Kd.C Kd.string w A0_8 l0_8.length l0_8) (hc0_8 : l0_8.length ≤ c0_8) (hr0_9 : Kd.C k43 w A0_9 l0_9.length l0_9) (hc0_9 : l0_9.length ≤ c0_9) (hr0_10 : Kd.C (Kd.int .i64) w A0_10 l0_10.length l0_10) (hc0_10 : l0_10.length ≤ c0_10) (hr0_12 : Kd.C (Kd.int .i64) w A0_12 l0_12.length l0_12) (hc0_12 : l0_12.length ≤ c0_12) (h : meeting_hall_valid.f k a0_0 a0_1 a0_2 a0_3 a0_4 a0_5 a0_6 a0_7 l0_8 l0_9 l0_10 a0_11 l0_12 = some r) :
  Calls Try.prog 31 #[.agg #[.int .i64 a0_0, .int .i64 a0_1, .int .i64 a0_2, .int .i64 a0_3, .bool a0_4, .int .i64 a0_5, .int .i64 a0_6, .int .i64 a0_7, .slice A0_8 l0_8.length c0_8, .slice A0_9 l0_9.length c0_9, .slice A0_10 l0_10.length c0_10, .string a0_11, .slice A0_12 l0_12.length c0_12]] w fun e w' => e = .returned (.bool r) ∧ Below w.heap.size w w' := by
 have hu62 := Try.underlying62
 have HR0_8 := Aside0.mk hr0_8
 have HC0_8 := Aside0.mk hc0_8
 clear hr0_8 hc0_8
 have HR0_9 := Aside0.mk hr0_9
 have HC0_9 := Aside0.mk hc0_9
 clear hr0_9 hc0_9
 have HR0_10 := Aside0.mk hr0_10
 have HC0_10 := Aside0.mk hc0_10
 clear hr0_10 hc0_10
 have HR0_12 := Aside0.mk hr0_12
 have HC0_12 := Aside0.mk hc0_12
 clear hr0_12 hc0_12
 have HB := Aside0.mk (Below.refl w.heap.size w)
 have H : ((meeting_within.f a0_5 0 36524).bind fun t222 => (if t222 = true then ((meeting_within.f a0_7 a0_5 36524).bind fun t223 => (if t223 = true then ((meeting_within.f a0_6 1 2).bind fun t224 => (if t224 = true then ((meeting_isAgenda.f k l0_8).bind fun t225 => (if t225 = true then ((meeting_hall_validVoters.f k a0_0 a0_1 a0_2 a0_3 a0_4 a0_5 a0_6 a0_7 l0_8 l0_9 l0_10 a0_11 l0_12).bind fun t226 => (meeting_hall_valid.j0 k (!t226) a0_0 a0_1 a0_2 a0_3 a0_4 a0_5 a0_6 a0_7 l0_8 l0_9 l0_10 a0_11 l0_12)) else (meeting_hall_valid.j0 k true a0_0 a0_1 a0_2 a0_3 a0_4 a0_5 a0_6 a0_7 l0_8 l0_9 l0_10 a0_11 l0_12))) else (meeting_hall_valid.j0 k true a0_0 a0_1 a0_2 a0_3 a0_4 a0_5 a0_6 a0_7 l0_8 l0_9 l0_10 a0_11 l0_12))) else (meeting_hall_valid.j0 k true a0_0 a0_1 a0_2 a0_3 a0_4 a0_5 a0_6 a0_7 l0_8 l0_9 l0_10 a0_11 l0_12))) else (meeting_hall_valid.j0 k true a0_0 a0_1 a0_2 a0_3 a0_4 a0_5 a0_6 a0_7 l0_8 l0_9 l0_10 a0_11 l0_12))) = some r := h
 clear h
 have HC2 := Aside0.mk H
 clear H
 go_enter Try.func31, Try.ntmps31
 go_upto_region 1 with (first | ((with_reducible refine gate_dst (N := 1) rfl ?_); refine box_event ?hg (N := 1) ?hd (cs := #[.int .i64 a0_0, .int .i64 a0_1, .int .i64 a0_2, .int .i64 a0_3, .bool a0_4, .int .i64 a0_5, .int .i64 a0_6, .int .i64 a0_7, .slice A0_8 l0_8.length c0_8, .slice A0_9 l0_9.length c0_9, .slice A0_10 l0_10.length c0_10, .string a0_11, .slice A0_12 l0_12.length c0_12]) (t := 62) ?hr ?_; (case hd => rfl); (case hg => rfl); (case hr => first | (go_simp; done) | (go_simp; rfl)); intro gb221 hg w3 hbox hb; have n0_ := qbs_ hb; have n1_ := Aside0.mk (hbox); have n2_ := Aside0.mk ((qg_ hg : w.heap.size ≤ gb221)); have n3_ := Aside0.mk ((qg_ hg : w.heap.size ≤ gb221)); clear HB; have HB := n0_; have BK221 := n1_; have GW221 := n2_; have GE221 := n3_; clear n0_ n1_ n2_ n3_ hb hbox hg))
 (try simp only [Act.put, List.setIfInBounds_toArray, List.set_cons_zero, List.set_cons_succ])
 go_cut [40] (fun v40 wc => ∃ (kq : Nat) (x40_1 : Bool), v40 = .bool x40_1 ∧ Aside0 (meeting_hall_valid.j0 kq x40_1 a0_0 a0_1 a0_2 a0_3 a0_4 a0_5 a0_6 a0_7 l0_8 l0_9 l0_10 a0_11 l0_12 = some r) ∧ Aside0 (kq ≤ k) ∧ Aside0 (wc.heap[gb221]? = some (.cells #[.int .i64 a0_0, .int .i64 a0_1, .int .i64 a0_2, .int .i64 a0_3, .bool a0_4, .int .i64 a0_5, .int .i64 a0_6, .int .i64 a0_7, (.slice A0_8 l0_8.length c0_8), (.slice A0_9 l0_9.length c0_9), (.slice A0_10 l0_10.length c0_10), .string a0_11, (.slice A0_12 l0_12.length c0_12)] 62 (0, 0))) ∧ Aside0 (Below w.heap.size w wc))
 case first =>
  have H := HC2.out
  clear HC2
  replace H := Option.bind_eq_some_iff.mp H
  obtain ⟨t222, A40, H⟩ := H
  replace H : (if t222 = true then ((meeting_within.f a0_7 a0_5 36524).bind fun t223 => (if t223 = true then ((meeting_within.f a0_6 1 2).bind fun t224 => (if t224 = true then ((meeting_isAgenda.f k l0_8).bind fun t225 => (if t225 = true then ((meeting_hall_validVoters.f k a0_0 a0_1 a0_2 a0_3 a0_4 a0_5 a0_6 a0_7 l0_8 l0_9 l0_10 a0_11 l0_12).bind fun t226 => (meeting_hall_valid.j0 k (!t226) a0_0 a0_1 a0_2 a0_3 a0_4 a0_5 a0_6 a0_7 l0_8 l0_9 l0_10 a0_11 l0_12)) else (meeting_hall_valid.j0 k true a0_0 a0_1 a0_2 a0_3 a0_4 a0_5 a0_6 a0_7 l0_8 l0_9 l0_10 a0_11 l0_12))) else (meeting_hall_valid.j0 k true a0_0 a0_1 a0_2 a0_3 a0_4 a0_5 a0_6 a0_7 l0_8 l0_9 l0_10 a0_11 l0_12))) else (meeting_hall_valid.j0 k true a0_0 a0_1 a0_2 a0_3 a0_4 a0_5 a0_6 a0_7 l0_8 l0_9 l0_10 a0_11 l0_12))) else (meeting_hall_valid.j0 k true a0_0 a0_1 a0_2 a0_3 a0_4 a0_5 a0_6 a0_7 l0_8 l0_9 l0_10 a0_11 l0_12)) = some r := H
  have A4 := Aside0.mk A40
  clear A40
  by_cases c5 : t222 = true
  ·subst c5
   have H1 : ((meeting_within.f a0_7 a0_5 36524).bind fun t223 => (if t223 = true then ((meeting_within.f a0_6 1 2).bind fun t224 => (if t224 = true then ((meeting_isAgenda.f k l0_8).bind fun t225 => (if t225 = true then ((meeting_hall_validVoters.f k a0_0 a0_1 a0_2 a0_3 a0_4 a0_5 a0_6 a0_7 l0_8 l0_9 l0_10 a0_11 l0_12).bind fun t226 => (meeting_hall_valid.j0 k (!t226) a0_0 a0_1 a0_2 a0_3 a0_4 a0_5 a0_6 a0_7 l0_8 l0_9 l0_10 a0_11 l0_12)) else (meeting_hall_valid.j0 k true a0_0 a0_1 a0_2 a0_3 a0_4 a0_5 a0_6 a0_7 l0_8 l0_9 l0_10 a0_11 l0_12))) else (meeting_hall_valid.j0 k true a0_0 a0_1 a0_2 a0_3 a0_4 a0_5 a0_6 a0_7 l0_8 l0_9 l0_10 a0_11 l0_12))) else (meeting_hall_valid.j0 k true a0_0 a0_1 a0_2 a0_3 a0_4 a0_5 a0_6 a0_7 l0_8 l0_9 l0_10 a0_11 l0_12))) = some r := by rw [if_pos rfl] at H; exact H
   clear H
   have H := H1
   clear H1
   replace H := Option.bind_eq_some_iff.mp H
   obtain ⟨t223, A60, H⟩ := H
   replace H : (if t223 = true then ((meeting_within.f a0_6 1 2).bind fun t224 => (if t224 = true then ((meeting_isAgenda.f k l0_8).bind fun t225 => (if t225 = true then ((meeting_hall_validVoters.f k a0_0 a0_1 a0_2 a0_3 a0_4 a0_5 a0_6 a0_7 l0_8 l0_9 l0_10 a0_11 l0_12).bind fun t226 => (meeting_hall_valid.j0 k (!t226) a0_0 a0_1 a0_2 a0_3 a0_4 a0_5 a0_6 a0_7 l0_8 l0_9 l0_10 a0_11 l0_12)) else (meeting_hall_valid.j0 k true a0_0 a0_1 a0_2 a0_3 a0_4 a0_5 a0_6 a0_7 l0_8 l0_9 l0_10 a0_11 l0_12))) else (meeting_hall_valid.j0 k true a0_0 a0_1 a0_2 a0_3 a0_4 a0_5 a0_6 a0_7 l0_8 l0_9 l0_10 a0_11 l0_12))) else (meeting_hall_valid.j0 k true a0_0 a0_1 a0_2 a0_3 a0_4 a0_5 a0_6 a0_7 l0_8 l0_9 l0_10 a0_11 l0_12)) = some r := H
   have A6 := Aside0.mk A60
   clear A60
   by_cases c7 : t223 = true
   ·subst c7
    have H1 : ((meeting_within.f a0_6 1 2).bind fun t224 => (if t224 = true then ((meeting_isAgenda.f k l0_8).bind fun t225 => (if t225 = true then ((meeting_hall_validVoters.f k a0_0 a0_1 a0_2 a0_3 a0_4 a0_5 a0_6 a0_7 l0_8 l0_9 l0_10 a0_11 l0_12).bind fun t226 => (meeting_hall_valid.j0 k (!t226) a0_0 a0_1 a0_2 a0_3 a0_4 a0_5 a0_6 a0_7 l0_8 l0_9 l0_10 a0_11 l0_12)) else (meeting_hall_valid.j0 k true a0_0 a0_1 a0_2 a0_3 a0_4 a0_5 a0_6 a0_7 l0_8 l0_9 l0_10 a0_11 l0_12))) else (meeting_hall_valid.j0 k true a0_0 a0_1 a0_2 a0_3 a0_4 a0_5 a0_6 a0_7 l0_8 l0_9 l0_10 a0_11 l0_12))) = some r := by rw [if_pos rfl] at H; exact H
    clear H
    have H := H1
    clear H1
    replace H := Option.bind_eq_some_iff.mp H
    obtain ⟨t224, A80, H⟩ := H
    replace H : (if t224 = true then ((meeting_isAgenda.f k l0_8).bind fun t225 => (if t225 = true then ((meeting_hall_validVoters.f k a0_0 a0_1 a0_2 a0_3 a0_4 a0_5 a0_6 a0_7 l0_8 l0_9 l0_10 a0_11 l0_12).bind fun t226 => (meeting_hall_valid.j0 k (!t226) a0_0 a0_1 a0_2 a0_3 a0_4 a0_5 a0_6 a0_7 l0_8 l0_9 l0_10 a0_11 l0_12)) else (meeting_hall_valid.j0 k true a0_0 a0_1 a0_2 a0_3 a0_4 a0_5 a0_6 a0_7 l0_8 l0_9 l0_10 a0_11 l0_12))) else (meeting_hall_valid.j0 k true a0_0 a0_1 a0_2 a0_3 a0_4 a0_5 a0_6 a0_7 l0_8 l0_9 l0_10 a0_11 l0_12)) = some r := H
    have A8 := Aside0.mk A80
    clear A80
    by_cases c9 : t224 = true
    ·subst c9
     have H1 : ((meeting_isAgenda.f k l0_8).bind fun t225 => (if t225 = true then ((meeting_hall_validVoters.f k a0_0 a0_1 a0_2 a0_3 a0_4 a0_5 a0_6 a0_7 l0_8 l0_9 l0_10 a0_11 l0_12).bind fun t226 => (meeting_hall_valid.j0 k (!t226) a0_0 a0_1 a0_2 a0_3 a0_4 a0_5 a0_6 a0_7 l0_8 l0_9 l0_10 a0_11 l0_12)) else (meeting_hall_valid.j0 k true a0_0 a0_1 a0_2 a0_3 a0_4 a0_5 a0_6 a0_7 l0_8 l0_9 l0_10 a0_11 l0_12))) = some r := by rw [if_pos rfl] at H; exact H
     clear H
     have H := H1
     clear H1
     replace H := Option.bind_eq_some_iff.mp H
     obtain ⟨t225, A100, H⟩ := H
     replace H : (if t225 = true then ((meeting_hall_validVoters.f k a0_0 a0_1 a0_2 a0_3 a0_4 a0_5 a0_6 a0_7 l0_8 l0_9 l0_10 a0_11 l0_12).bind fun t226 => (meeting_hall_valid.j0 k (!t226) a0_0 a0_1 a0_2 a0_3 a0_4 a0_5 a0_6 a0_7 l0_8 l0_9 l0_10 a0_11 l0_12)) else (meeting_hall_valid.j0 k true a0_0 a0_1 a0_2 a0_3 a0_4 a0_5 a0_6 a0_7 l0_8 l0_9 l0_10 a0_11 l0_12)) = some r := H
     have A10 := Aside0.mk A100
     clear A100
     by_cases c11 : t225 = true
     ·subst c11
      have H1 : ((meeting_hall_validVoters.f k a0_0 a0_1 a0_2 a0_3 a0_4 a0_5 a0_6 a0_7 l0_8 l0_9 l0_10 a0_11 l0_12).bind fun t226 => (meeting_hall_valid.j0 k (!t226) a0_0 a0_1 a0_2 a0_3 a0_4 a0_5 a0_6 a0_7 l0_8 l0_9 l0_10 a0_11 l0_12)) = some r := by rw [if_pos rfl] at H; exact H
      clear H
      have H := H1
      clear H1
      replace H := Option.bind_eq_some_iff.mp H
      obtain ⟨t226, A120, H⟩ := H
      replace H : (meeting_hall_valid.j0 k (!t226) a0_0 a0_1 a0_2 a0_3 a0_4 a0_5 a0_6 a0_7 l0_8 l0_9 l0_10 a0_11 l0_12) = some r := H
      have A12 := Aside0.mk A120
      clear A120
      have H' := Aside0.mk H
      clear H
      obtain ⟨hcz13_0, hcz13_1, hcz13_2, hcz13_3, hcz13_4, hcz13_5, hcz13_6, hcz13_7, hcz13_8, hcz13_9, hcz13_10, hcz13_11, hcz13_12⟩ := qz13_ BK221; obtain ⟨hfz13_0, hfz13_1, hfz13_2, hfz13_3, hfz13_4, hfz13_5, hfz13_6, hfz13_7, hfz13_8, hfz13_9, hfz13_10, hfz13_11, hfz13_12⟩ := qf13_ BK221
      go_wp2_with (first | ((with_reducible refine gate_callee (f := 51) rfl ?_); refine goesL_ (some 10) rfl rfl Try.func51 (by kernel_rfl) rfl #[.int .i64 a0_5, .int .i64 0, .int .i64 36524] rfl ql_ ?_; (with_reducible refine (meeting_within.calls a0_5 0 36524 true _ A4.out).mono ?_); rintro e w' ⟨rfl, ⟨nd, rfl⟩⟩; refine ⟨_, rfl, ?_⟩) | (go_at_call 51; (with_reducible refine (meeting_within.calls a0_7 a0_5 36524 true _ A6.out).mono ?_); rintro e w' ⟨rfl, ⟨nd, rfl⟩⟩) | (go_at_call 51; (with_reducible refine (meeting_within.calls a0_6 1 2 true _ A8.out).mono ?_); rintro e w' ⟨rfl, ⟨nd, rfl⟩⟩) | (go_at_call 54; (with_reducible refine (meeting_isAgenda.calls k _ _ l0_8 true _ ?side1 ?side2 A10.out).mono ?_); (case side1 => repeat (first | exact (Kd.C_below HR0_8.out qb_) | (with_reducible refine Kd.C_alloc ?_ _) | (with_reducible refine Kd.C_drewN ?_ _) | (with_reducible refine Kd.C_drew ?_))); (case side2 => exact HC0_8.out); rintro e w14 ⟨rfl, hb⟩; have n0_ := qkb_ BK221 hb; have n1_ := qbs_ hb; clear BK221 HB; have BK221 := n0_; have HB := n1_; clear n0_ n1_; (try clear hb); (try clear hb2); (try clear hk); (try clear hi); obtain ⟨hcz15_0, hcz15_1, hcz15_2, hcz15_3, hcz15_4, hcz15_5, hcz15_6, hcz15_7, hcz15_8, hcz15_9, hcz15_10, hcz15_11, hcz15_12⟩ := qz13_ BK221; obtain ⟨hfz15_0, hfz15_1, hfz15_2, hfz15_3, hfz15_4, hfz15_5, hfz15_6, hfz15_7, hfz15_8, hfz15_9, hfz15_10, hfz15_11, hfz15_12⟩ := qf13_ BK221) | (go_at_call 55; (with_reducible refine (meeting_hall_validVoters.calls k a0_0 a0_1 a0_2 a0_3 a0_4 a0_5 a0_6 a0_7 _ _ l0_8 _ _ l0_9 _ _ l0_10 a0_11 _ _ l0_12 t226 _ ?side1 ?side2 ?side3 ?side4 ?side5 ?side6 ?side7 ?side8 A12.out).mono ?_); (case side1 => exact qc_ HR0_8); (case side2 => exact HC0_8.out); (case side3 => exact qc_ HR0_9); (case side4 => exact HC0_9.out); (case side5 => exact qc_ HR0_10); (case side6 => exact HC0_10.out); (case side7 => exact qc_ HR0_12); (case side8 => exact HC0_12.out); rintro e w16 ⟨rfl, hb⟩; have n0_ := qkb_ BK221 hb; have n1_ := qbs_ hb; clear BK221 HB; have BK221 := n0_; have HB := n1_; clear n0_ n1_; (try clear hb); (try clear hb2); (try clear hk); (try clear hi)))
      go_meet
      case rel => exact ⟨_, (!t226), qs_, H', ⟨qo_⟩, ⟨qk_ BK221⟩, ⟨qb_⟩⟩
     ·replace c11 := Bool.eq_false_iff.mpr c11
      subst c11
      have H1 : (meeting_hall_valid.j0 k true a0_0 a0_1 a0_2 a0_3 a0_4 a0_5 a0_6 a0_7 l0_8 l0_9 l0_10 a0_11 l0_12) = some r := by rw [if_neg (show ¬ (false = true) by decide)] at H; exact H
      clear H
      have H := H1
      clear H1
      have H' := Aside0.mk H
      clear H
      obtain ⟨hcz17_0, hcz17_1, hcz17_2, hcz17_3, hcz17_4, hcz17_5, hcz17_6, hcz17_7, hcz17_8, hcz17_9, hcz17_10, hcz17_11, hcz17_12⟩ := qz13_ BK221; obtain ⟨hfz17_0, hfz17_1, hfz17_2, hfz17_3, hfz17_4, hfz17_5, hfz17_6, hfz17_7, hfz17_8, hfz17_9, hfz17_10, hfz17_11, hfz17_12⟩ := qf13_ BK221
      go_wp2_with (first | ((with_reducible refine gate_callee (f := 51) rfl ?_); refine goesL_ (some 10) rfl rfl Try.func51 (by kernel_rfl) rfl #[.int .i64 a0_5, .int .i64 0, .int .i64 36524] rfl ql_ ?_; (with_reducible refine (meeting_within.calls a0_5 0 36524 true _ A4.out).mono ?_); rintro e w' ⟨rfl, ⟨nd, rfl⟩⟩; refine ⟨_, rfl, ?_⟩) | (go_at_call 51; (with_reducible refine (meeting_within.calls a0_7 a0_5 36524 true _ A6.out).mono ?_); rintro e w' ⟨rfl, ⟨nd, rfl⟩⟩) | (go_at_call 51; (with_reducible refine (meeting_within.calls a0_6 1 2 true _ A8.out).mono ?_); rintro e w' ⟨rfl, ⟨nd, rfl⟩⟩) | (go_at_call 54; (with_reducible refine (meeting_isAgenda.calls k _ _ l0_8 false _ ?side1 ?side2 A10.out).mono ?_); (case side1 => repeat (first | exact (Kd.C_below HR0_8.out qb_) | (with_reducible refine Kd.C_alloc ?_ _) | (with_reducible refine Kd.C_drewN ?_ _) | (with_reducible refine Kd.C_drew ?_))); (case side2 => exact HC0_8.out); rintro e w18 ⟨rfl, hb⟩; have n0_ := qkb_ BK221 hb; have n1_ := qbs_ hb; clear BK221 HB; have BK221 := n0_; have HB := n1_; clear n0_ n1_; (try clear hb); (try clear hb2); (try clear hk); (try clear hi)))
      go_meet
      case rel => exact ⟨_, (true), qs_, H', ⟨qo_⟩, ⟨qk_ BK221⟩, ⟨qb_⟩⟩
    ·replace c9 := Bool.eq_false_iff.mpr c9
     subst c9
     have H1 : (meeting_hall_valid.j0 k true a0_0 a0_1 a0_2 a0_3 a0_4 a0_5 a0_6 a0_7 l0_8 l0_9 l0_10 a0_11 l0_12) = some r := by rw [if_neg (show ¬ (false = true) by decide)] at H; exact H
     clear H
     have H := H1
     clear H1
     have H' := Aside0.mk H
     clear H
     obtain ⟨hcz19_0, hcz19_1, hcz19_2, hcz19_3, hcz19_4, hcz19_5, hcz19_6, hcz19_7, hcz19_8, hcz19_9, hcz19_10, hcz19_11, hcz19_12⟩ := qz13_ BK221; obtain ⟨hfz19_0, hfz19_1, hfz19_2, hfz19_3, hfz19_4, hfz19_5, hfz19_6, hfz19_7, hfz19_8, hfz19_9, hfz19_10, hfz19_11, hfz19_12⟩ := qf13_ BK221
     go_wp2_with (first | ((with_reducible refine gate_callee (f := 51) rfl ?_); refine goesL_ (some 10) rfl rfl Try.func51 (by kernel_rfl) rfl #[.int .i64 a0_5, .int .i64 0, .int .i64 36524] rfl ql_ ?_; (with_reducible refine (meeting_within.calls a0_5 0 36524 true _ A4.out).mono ?_); rintro e w' ⟨rfl, ⟨nd, rfl⟩⟩; refine ⟨_, rfl, ?_⟩) | (go_at_call 51; (with_reducible refine (meeting_within.calls a0_7 a0_5 36524 true _ A6.out).mono ?_); rintro e w' ⟨rfl, ⟨nd, rfl⟩⟩) | (go_at_call 51; (with_reducible refine (meeting_within.calls a0_6 1 2 false _ A8.out).mono ?_); rintro e w' ⟨rfl, ⟨nd, rfl⟩⟩))
     go_meet
     case rel => exact ⟨_, (true), qs_, H', ⟨qo_⟩, ⟨qk_ BK221⟩, ⟨qb_⟩⟩
   ·replace c7 := Bool.eq_false_iff.mpr c7
    subst c7
    have H1 : (meeting_hall_valid.j0 k true a0_0 a0_1 a0_2 a0_3 a0_4 a0_5 a0_6 a0_7 l0_8 l0_9 l0_10 a0_11 l0_12) = some r := by rw [if_neg (show ¬ (false = true) by decide)] at H; exact H
    clear H
    have H := H1
    clear H1
    have H' := Aside0.mk H
    clear H
    obtain ⟨hcz20_0, hcz20_1, hcz20_2, hcz20_3, hcz20_4, hcz20_5, hcz20_6, hcz20_7, hcz20_8, hcz20_9, hcz20_10, hcz20_11, hcz20_12⟩ := qz13_ BK221; obtain ⟨hfz20_0, hfz20_1, hfz20_2, hfz20_3, hfz20_4, hfz20_5, hfz20_6, hfz20_7, hfz20_8, hfz20_9, hfz20_10, hfz20_11, hfz20_12⟩ := qf13_ BK221
    go_wp2_with (first | ((with_reducible refine gate_callee (f := 51) rfl ?_); refine goesL_ (some 10) rfl rfl Try.func51 (by kernel_rfl) rfl #[.int .i64 a0_5, .int .i64 0, .int .i64 36524] rfl ql_ ?_; (with_reducible refine (meeting_within.calls a0_5 0 36524 true _ A4.out).mono ?_); rintro e w' ⟨rfl, ⟨nd, rfl⟩⟩; refine ⟨_, rfl, ?_⟩) | (go_at_call 51; (with_reducible refine (meeting_within.calls a0_7 a0_5 36524 false _ A6.out).mono ?_); rintro e w' ⟨rfl, ⟨nd, rfl⟩⟩))
    go_meet
    case rel => exact ⟨_, (true), qs_, H', ⟨qo_⟩, ⟨qk_ BK221⟩, ⟨qb_⟩⟩
  ·replace c5 := Bool.eq_false_iff.mpr c5
   subst c5
   have H1 : (meeting_hall_valid.j0 k true a0_0 a0_1 a0_2 a0_3 a0_4 a0_5 a0_6 a0_7 l0_8 l0_9 l0_10 a0_11 l0_12) = some r := by rw [if_neg (show ¬ (false = true) by decide)] at H; exact H
   clear H
   have H := H1
   clear H1
   have H' := Aside0.mk H
   clear H
   obtain ⟨hcz21_0, hcz21_1, hcz21_2, hcz21_3, hcz21_4, hcz21_5, hcz21_6, hcz21_7, hcz21_8, hcz21_9, hcz21_10, hcz21_11, hcz21_12⟩ := qz13_ BK221; obtain ⟨hfz21_0, hfz21_1, hfz21_2, hfz21_3, hfz21_4, hfz21_5, hfz21_6, hfz21_7, hfz21_8, hfz21_9, hfz21_10, hfz21_11, hfz21_12⟩ := qf13_ BK221
   go_wp2_with (first | ((with_reducible refine gate_callee (f := 51) rfl ?_); refine goesL_ (some 10) rfl rfl Try.func51 (by kernel_rfl) rfl #[.int .i64 a0_5, .int .i64 0, .int .i64 36524] rfl ql_ ?_; (with_reducible refine (meeting_within.calls a0_5 0 36524 false _ A4.out).mono ?_); rintro e w' ⟨rfl, ⟨nd, rfl⟩⟩; refine ⟨_, rfl, ?_⟩))
   go_meet
   case rel => exact ⟨_, (true), qs_, H', ⟨qo_⟩, ⟨qk_ BK221⟩, ⟨qb_⟩⟩
 case rest =>
  clear HC2
  try clear c1
  try clear p2
  try clear c3
  try clear c5
  try clear c7
  try clear c9
  try clear c11
  try clear hcz13_0 hcz13_1 hcz13_10 hcz13_11 hcz13_12 hcz13_2 hcz13_3 hcz13_4 hcz13_5 hcz13_6 hcz13_7 hcz13_8 hcz13_9
  try clear hcz15_0 hcz15_1 hcz15_10 hcz15_11 hcz15_12 hcz15_2 hcz15_3 hcz15_4 hcz15_5 hcz15_6 hcz15_7 hcz15_8 hcz15_9
  try clear hcz17_0 hcz17_1 hcz17_10 hcz17_11 hcz17_12 hcz17_2 hcz17_3 hcz17_4 hcz17_5 hcz17_6 hcz17_7 hcz17_8 hcz17_9
  try clear hcz19_0 hcz19_1 hcz19_10 hcz19_11 hcz19_12 hcz19_2 hcz19_3 hcz19_4 hcz19_5 hcz19_6 hcz19_7 hcz19_8 hcz19_9
  try clear hcz20_0 hcz20_1 hcz20_10 hcz20_11 hcz20_12 hcz20_2 hcz20_3 hcz20_4 hcz20_5 hcz20_6 hcz20_7 hcz20_8 hcz20_9
  try clear hcz21_0 hcz21_1 hcz21_10 hcz21_11 hcz21_12 hcz21_2 hcz21_3 hcz21_4 hcz21_5 hcz21_6 hcz21_7 hcz21_8 hcz21_9
  try clear hfz13_0 hfz13_1 hfz13_10 hfz13_11 hfz13_12 hfz13_2 hfz13_3 hfz13_4 hfz13_5 hfz13_6 hfz13_7 hfz13_8 hfz13_9
  try clear hfz15_0 hfz15_1 hfz15_10 hfz15_11 hfz15_12 hfz15_2 hfz15_3 hfz15_4 hfz15_5 hfz15_6 hfz15_7 hfz15_8 hfz15_9
  try clear hfz17_0 hfz17_1 hfz17_10 hfz17_11 hfz17_12 hfz17_2 hfz17_3 hfz17_4 hfz17_5 hfz17_6 hfz17_7 hfz17_8 hfz17_9
  try clear hfz19_0 hfz19_1 hfz19_10 hfz19_11 hfz19_12 hfz19_2 hfz19_3 hfz19_4 hfz19_5 hfz19_6 hfz19_7 hfz19_8 hfz19_9
  try clear hfz20_0 hfz20_1 hfz20_10 hfz20_11 hfz20_12 hfz20_2 hfz20_3 hfz20_4 hfz20_5 hfz20_6 hfz20_7 hfz20_8 hfz20_9
  try clear hfz21_0 hfz21_1 hfz21_10 hfz21_11 hfz21_12 hfz21_2 hfz21_3 hfz21_4 hfz21_5 hfz21_6 hfz21_7 hfz21_8 hfz21_9
  obtain ⟨kq, x40_1, rfl, HA, HJ1, BK221, HB⟩ := hcut
  cases kq with
  | zero => exact absurd HA.out (by simp [meeting_hall_valid.j0])
  | succ kj1 =>
   have H := HA.out
   clear HA
   simp only [meeting_hall_valid.j0] at H
   by_cases c22 : x40_1 = true
   ·subst c22
    have H1 : (some false) = some r := by rw [if_pos rfl] at H; exact H
    clear H
    have H := H1
    clear H1
    obtain rfl := Option.some.inj H
    go_wp2
    go_ret
    exact ⟨qx_, qb_⟩
   ·replace c22 := Bool.eq_false_iff.mpr c22
    subst c22
    have H1 : (meeting_hall_valid.l0 kj1 l0_10 (l0_10.length : Int) 0 a0_0 a0_1 a0_2 a0_3 a0_4 a0_5 a0_6 a0_7 l0_8 l0_9 l0_10 a0_11 l0_12) = some r := by rw [if_neg (show ¬ (false = true) by decide)] at H; exact H
    clear H
    have H := H1
    clear H1
    have H' := Aside0.mk H
    clear H
    obtain ⟨hcz23_0, hcz23_1, hcz23_2, hcz23_3, hcz23_4, hcz23_5, hcz23_6, hcz23_7, hcz23_8, hcz23_9, hcz23_10, hcz23_11, hcz23_12⟩ := qz13_ BK221; obtain ⟨hfz23_0, hfz23_1, hfz23_2, hfz23_3, hfz23_4, hfz23_5, hfz23_6, hfz23_7, hfz23_8, hfz23_9, hfz23_10, hfz23_11, hfz23_12⟩ := qf13_ BK221
    go_wp2
    go_loopg [45] kj1 (fun kq v45 w' => ∃ (x45_2 : Int), v45 = .int .i64 x45_2 ∧ Aside0 (meeting_hall_valid.l0 kq l0_10 (l0_10.length : Int) x45_2 a0_0 a0_1 a0_2 a0_3 a0_4 a0_5 a0_6 a0_7 l0_8 l0_9 l0_10 a0_11 l0_12 = some r) ∧ Aside0 (kq ≤ kj1) ∧ Aside0 (w'.heap[gb221]? = some (.cells #[.int .i64 a0_0, .int .i64 a0_1, .int .i64 a0_2, .int .i64 a0_3, .bool a0_4, .int .i64 a0_5, .int .i64 a0_6, .int .i64 a0_7, (.slice A0_8 l0_8.length c0_8), (.slice A0_9 l0_9.length c0_9), (.slice A0_10 l0_10.length c0_10), .string a0_11, (.slice A0_12 l0_12.length c0_12)] 62 (0, 0))) ∧ Aside0 (Below w.heap.size w w'))
    case atStart => exact ⟨(0), qs_, H', ⟨Nat.le_refl _⟩, ⟨qk_ BK221⟩, ⟨qb_⟩⟩
    case round =>
     clear H'
     try clear c1
     try clear c2
     try clear p2
     try clear c3
     try clear c5
     try clear c7
     try clear c9
     try clear c11
     try clear c22
     try clear hcz13_0 hcz13_1 hcz13_10 hcz13_11 hcz13_12 hcz13_2 hcz13_3 hcz13_4 hcz13_5 hcz13_6 hcz13_7 hcz13_8 hcz13_9
     try clear hcz15_0 hcz15_1 hcz15_10 hcz15_11 hcz15_12 hcz15_2 hcz15_3 hcz15_4 hcz15_5 hcz15_6 hcz15_7 hcz15_8 hcz15_9
     try clear hcz17_0 hcz17_1 hcz17_10 hcz17_11 hcz17_12 hcz17_2 hcz17_3 hcz17_4 hcz17_5 hcz17_6 hcz17_7 hcz17_8 hcz17_9
     try clear hcz19_0 hcz19_1 hcz19_10 hcz19_11 hcz19_12 hcz19_2 hcz19_3 hcz19_4 hcz19_5 hcz19_6 hcz19_7 hcz19_8 hcz19_9
     try clear hcz20_0 hcz20_1 hcz20_10 hcz20_11 hcz20_12 hcz20_2 hcz20_3 hcz20_4 hcz20_5 hcz20_6 hcz20_7 hcz20_8 hcz20_9
     try clear hcz21_0 hcz21_1 hcz21_10 hcz21_11 hcz21_12 hcz21_2 hcz21_3 hcz21_4 hcz21_5 hcz21_6 hcz21_7 hcz21_8 hcz21_9
     try clear hcz23_0 hcz23_1 hcz23_10 hcz23_11 hcz23_12 hcz23_2 hcz23_3 hcz23_4 hcz23_5 hcz23_6 hcz23_7 hcz23_8 hcz23_9
     try clear hfz13_0 hfz13_1 hfz13_10 hfz13_11 hfz13_12 hfz13_2 hfz13_3 hfz13_4 hfz13_5 hfz13_6 hfz13_7 hfz13_8 hfz13_9
     try clear hfz15_0 hfz15_1 hfz15_10 hfz15_11 hfz15_12 hfz15_2 hfz15_3 hfz15_4 hfz15_5 hfz15_6 hfz15_7 hfz15_8 hfz15_9
     try clear hfz17_0 hfz17_1 hfz17_10 hfz17_11 hfz17_12 hfz17_2 hfz17_3 hfz17_4 hfz17_5 hfz17_6 hfz17_7 hfz17_8 hfz17_9
     try clear hfz19_0 hfz19_1 hfz19_10 hfz19_11 hfz19_12 hfz19_2 hfz19_3 hfz19_4 hfz19_5 hfz19_6 hfz19_7 hfz19_8 hfz19_9
     try clear hfz20_0 hfz20_1 hfz20_10 hfz20_11 hfz20_12 hfz20_2 hfz20_3 hfz20_4 hfz20_5 hfz20_6 hfz20_7 hfz20_8 hfz20_9
     try clear hfz21_0 hfz21_1 hfz21_10 hfz21_11 hfz21_12 hfz21_2 hfz21_3 hfz21_4 hfz21_5 hfz21_6 hfz21_7 hfz21_8 hfz21_9
     try clear hfz23_0 hfz23_1 hfz23_10 hfz23_11 hfz23_12 hfz23_2 hfz23_3 hfz23_4 hfz23_5 hfz23_6 hfz23_7 hfz23_8 hfz23_9
     try clear p2
     obtain ⟨x45_2, rfl, HA, HK2, BK221, HB⟩ := hrel
     cases gk with
     | zero => exact absurd HA.out (by simp [meeting_hall_valid.l0])
     | succ k2 =>
      have H := HA.out
      clear HA
      simp only [meeting_hall_valid.l0] at H
      by_cases c24 : x45_2 < (l0_10.length : Int)
      ·rw [if_pos c24] at H
       have c24b0 : decide (x45_2 < (l0_10.length : Int)) = true := decide_eq_true c24
       clear c24
       by_cases c25 : 0 ≤ x45_2
       ·rw [if_pos c25] at H
        have c25b0 : decide (0 ≤ x45_2) = true := decide_eq_true c25
        clear c25
        by_cases c26 : x45_2 < (l0_10.length : Int)
        ·rw [if_pos c26] at H
         have c26b0 : decide (x45_2 < (l0_10.length : Int)) = true := decide_eq_true c26
         clear c26
         replace H := Option.bind_eq_some_iff.mp H
         obtain ⟨⟨t228, t229⟩, A270, H⟩ := H
         replace H : (if t229 = true then (if x45_2 > 0 then (if 0 ≤ (wrap64 (x45_2 - 1)) then (if (wrap64 (x45_2 - 1)) < (l0_10.length : Int) then (meeting_hall_valid.j2 k2 l0_10 (l0_10.length : Int) x45_2 (decide ((rd l0_10 x45_2) ≤ (rd l0_10 (wrap64 (x45_2 - 1))))) a0_0 a0_1 a0_2 a0_3 a0_4 a0_5 a0_6 a0_7 l0_8 l0_9 l0_10 a0_11 l0_12) else (none)) else (none)) else (meeting_hall_valid.j2 k2 l0_10 (l0_10.length : Int) x45_2 false a0_0 a0_1 a0_2 a0_3 a0_4 a0_5 a0_6 a0_7 l0_8 l0_9 l0_10 a0_11 l0_12)) else (meeting_hall_valid.j2 k2 l0_10 (l0_10.length : Int) x45_2 true a0_0 a0_1 a0_2 a0_3 a0_4 a0_5 a0_6 a0_7 l0_8 l0_9 l0_10 a0_11 l0_12)) = some r := H
         have A27 := Aside0.mk A270
         clear A270
         have HC28 := Aside0.mk H
         clear H
         have p227 : 0 ≤ (x45_2 : Int) := of_decide_eq_true qa_
         have q227 : x45_2 < (l0_10.length : Int) := of_decide_eq_true qa_
         obtain ⟨ad227, e227, hx227_0⟩ := Kd.at_int HR0_10.out x45_2 p227 q227
         cases e227
         replace hx227_0 := (HB.out.cell (World.block_lt_of_cell? w _ hx227_0)).trans hx227_0
         replace p227 := eq_true p227
         replace q227 := eq_true q227
         obtain ⟨hcz29_0, hcz29_1, hcz29_2, hcz29_3, hcz29_4, hcz29_5, hcz29_6, hcz29_7, hcz29_8, hcz29_9, hcz29_10, hcz29_11, hcz29_12⟩ := qz13_ BK221; obtain ⟨hfz29_0, hfz29_1, hfz29_2, hfz29_3, hfz29_4, hfz29_5, hfz29_6, hfz29_7, hfz29_8, hfz29_9, hfz29_10, hfz29_11, hfz29_12⟩ := qf13_ BK221
         go_upto_region 7 with (first | ((with_reducible refine gate_callee (f := 56) rfl ?_); refine goesL_ (some 53) rfl rfl Try.func56 (by kernel_rfl) rfl #[.agg #[.int .i64 a0_0, .int .i64 a0_1, .int .i64 a0_2, .int .i64 a0_3, .bool a0_4, .int .i64 a0_5, .int .i64 a0_6, .int .i64 a0_7, .slice A0_8 l0_8.length c0_8, .slice A0_9 l0_9.length c0_9, .slice (some ad227) l0_10.length c0_10, .string a0_11, .slice A0_12 l0_12.length c0_12], .int .i64 (rd l0_10 x45_2)] rfl ql_ ?_; (with_reducible refine (meeting_hall_find.calls k2 a0_0 a0_1 a0_2 a0_3 a0_4 a0_5 a0_6 a0_7 _ _ l0_8 _ _ l0_9 _ _ l0_10 a0_11 _ _ l0_12 (rd l0_10 x45_2) t228 t229 _ ?side1 ?side2 ?side3 ?side4 ?side5 ?side6 ?side7 ?side8 A27.out).mono ?_); (case side1 => exact qc_ HR0_8); (case side2 => exact HC0_8.out); (case side3 => exact qc_ HR0_9); (case side4 => exact HC0_9.out); (case side5 => exact qc_ HR0_10); (case side6 => exact HC0_10.out); (case side7 => exact qc_ HR0_12); (case side8 => exact HC0_12.out); rintro e w30 ⟨rfl, hb⟩; refine ⟨_, rfl, ?_⟩; have n0_ := qkb_ BK221 hb; have n1_ := qbs_ hb; clear BK221 HB; have BK221 := n0_; have HB := n1_; clear n0_ n1_; (try clear hb); (try clear hb2); (try clear hk); (try clear hi)))
         (try simp only [Act.put, List.setIfInBounds_toArray, List.set_cons_zero, List.set_cons_succ])
         go_cut [72] (fun v72 wc => ∃ (kq : Nat) (x72_27 : Bool), v72 = .bool x72_27 ∧ Aside0 (meeting_hall_valid.j2 kq l0_10 (l0_10.length : Int) x45_2 x72_27 a0_0 a0_1 a0_2 a0_3 a0_4 a0_5 a0_6 a0_7 l0_8 l0_9 l0_10 a0_11 l0_12 = some r) ∧ Aside0 (kq ≤ k2) ∧ Aside0 (wc.heap[gb221]? = some (.cells #[.int .i64 a0_0, .int .i64 a0_1, .int .i64 a0_2, .int .i64 a0_3, .bool a0_4, .int .i64 a0_5, .int .i64 a0_6, .int .i64 a0_7, (.slice A0_8 l0_8.length c0_8), (.slice A0_9 l0_9.length c0_9), (.slice (some ad227) l0_10.length c0_10), .string a0_11, (.slice A0_12 l0_12.length c0_12)] 62 (0, 0))) ∧ Aside0 (Below w.heap.size w wc))
         case first =>
          have H := HC28.out
          clear HC28
          by_cases c31 : t229 = true
          ·subst c31
           have H1 : (if x45_2 > 0 then (if 0 ≤ (wrap64 (x45_2 - 1)) then (if (wrap64 (x45_2 - 1)) < (l0_10.length : Int) then (meeting_hall_valid.j2 k2 l0_10 (l0_10.length : Int) x45_2 (decide ((rd l0_10 x45_2) ≤ (rd l0_10 (wrap64 (x45_2 - 1))))) a0_0 a0_1 a0_2 a0_3 a0_4 a0_5 a0_6 a0_7 l0_8 l0_9 l0_10 a0_11 l0_12) else (none)) else (none)) else (meeting_hall_valid.j2 k2 l0_10 (l0_10.length : Int) x45_2 false a0_0 a0_1 a0_2 a0_3 a0_4 a0_5 a0_6 a0_7 l0_8 l0_9 l0_10 a0_11 l0_12)) = some r := by rw [if_pos rfl] at H; exact H
           clear H
           have H := H1
           clear H1
           by_cases c32 : x45_2 > 0
           ·rw [if_pos c32] at H
            have c32b0 : decide (0 < x45_2) = true := decide_eq_true c32
            clear c32
            (first | rw [c32b0] | (simp only [i64_w, i32_w]; rw [c32b0]) | skip)
            obtain ⟨ji33, hji33⟩ : ∃ j_ : Int, (wrap64 (x45_2 - 1)) = j_ := ⟨_, rfl⟩
            replace H : (if 0 ≤ (ji33) then (if (ji33) < (l0_10.length : Int) then (meeting_hall_valid.j2 k2 l0_10 (l0_10.length : Int) x45_2 (decide ((rd l0_10 x45_2) ≤ (rd l0_10 (ji33)))) a0_0 a0_1 a0_2 a0_3 a0_4 a0_5 a0_6 a0_7 l0_8 l0_9 l0_10 a0_11 l0_12) else (none)) else (none)) = some r := by first | (rw [hji33] at H; exact H) | (simp only [hji33] at H ⊢; exact H)
            have hji33w : (IntKind.i64.wrap (x45_2 - 1)) = ji33 := (i64_w _).trans hji33
            by_cases c34 : 0 ≤ (ji33)
            ·rw [if_pos c34] at H
             have c34b0 : decide (0 ≤ (ji33)) = true := decide_eq_true c34
             clear c34
             by_cases c35 : (ji33) < (l0_10.length : Int)
             ·rw [if_pos c35] at H
              have c35b0 : decide ((ji33) < (l0_10.length : Int)) = true := decide_eq_true c35
              clear c35
              have H' := Aside0.mk H
              clear H
              obtain ⟨hcz36_0, hcz36_1, hcz36_2, hcz36_3, hcz36_4, hcz36_5, hcz36_6, hcz36_7, hcz36_8, hcz36_9, hcz36_10, hcz36_11, hcz36_12⟩ := qz13_ BK221; obtain ⟨hfz36_0, hfz36_1, hfz36_2, hfz36_3, hfz36_4, hfz36_5, hfz36_6, hfz36_7, hfz36_8, hfz36_9, hfz36_10, hfz36_11, hfz36_12⟩ := qf13_ BK221
              have p230 : 0 ≤ ((ji33) : Int) := of_decide_eq_true qa_
              have q230 : (ji33) < (l0_10.length : Int) := of_decide_eq_true qa_
              obtain ⟨ad230, e230, hx230_0⟩ := Kd.at_int HR0_10.out (ji33) p230 q230
              obtain rfl : ad227 = ad230 := (by injection e230)
              replace hx230_0 := (HB.out.cell (World.block_lt_of_cell? w _ hx230_0)).trans hx230_0
              replace p230 := eq_true p230
              replace q230 := eq_true q230
              go_wp2
              go_meet
              case rel => exact ⟨_, (decide ((rd l0_10 x45_2) ≤ (rd l0_10 (ji33)))), (by first | rfl | (simp; done) | (simp only [← hji33] <;> (first | rfl | simp)) | (simp [*]; done)), H', ⟨by have := HJ1.out; have := HK2.out; first | omega | exact Nat.le_refl _⟩, ⟨qk_ BK221⟩, ⟨qb_⟩⟩
             ·rw [if_neg c35] at H
              exact absurd H (by simp)
            ·rw [if_neg c34] at H
             exact absurd H (by simp)
           ·rw [if_neg c32] at H
            have c32b0 : decide (0 < x45_2) = false := decide_eq_false c32
            clear c32
            (first | rw [c32b0] | (simp only [i64_w, i32_w]; rw [c32b0]) | skip)
            have H' := Aside0.mk H
            clear H
            go_wp2
            go_meet
            case rel => exact ⟨_, (false), qs_, H', ⟨by have := HJ1.out; have := HK2.out; first | omega | exact Nat.le_refl _⟩, ⟨qk_ BK221⟩, ⟨qb_⟩⟩
          ·replace c31 := Bool.eq_false_iff.mpr c31
           subst c31
           have H1 : (meeting_hall_valid.j2 k2 l0_10 (l0_10.length : Int) x45_2 true a0_0 a0_1 a0_2 a0_3 a0_4 a0_5 a0_6 a0_7 l0_8 l0_9 l0_10 a0_11 l0_12) = some r := by rw [if_neg (show ¬ (false = true) by decide)] at H; exact H
           clear H
           have H := H1
           clear H1
           have H' := Aside0.mk H
           clear H
           go_wp2
           go_meet
           case rel => exact ⟨_, (true), qs_, H', ⟨by have := HJ1.out; have := HK2.out; first | omega | exact Nat.le_refl _⟩, ⟨qk_ BK221⟩, ⟨qb_⟩⟩
         case rest =>
          clear HC28
          try clear c1
          try clear c2
          try clear p2
          try clear q2
          try clear hx2
          try clear c3
          try clear c5
          try clear p6
          try clear c7
          try clear c9
          try clear c11
          try clear c22
          try clear p22
          try clear q22
          try clear hx22
          try clear p23
          try clear q23
          try clear hx23
          try clear c24
          try clear c24b0
          try clear c25
          try clear c25b0
          try clear c26
          try clear c26b0
          try clear c31
          try clear c32
          try clear c32b0
          try clear c34
          try clear c34b0
          try clear c35
          try clear c35b0
          try clear hcz13_0 hcz13_1 hcz13_10 hcz13_11 hcz13_12 hcz13_2 hcz13_3 hcz13_4 hcz13_5 hcz13_6 hcz13_7 hcz13_8 hcz13_9
          try clear hcz15_0 hcz15_1 hcz15_10 hcz15_11 hcz15_12 hcz15_2 hcz15_3 hcz15_4 hcz15_5 hcz15_6 hcz15_7 hcz15_8 hcz15_9
          try clear hcz17_0 hcz17_1 hcz17_10 hcz17_11 hcz17_12 hcz17_2 hcz17_3 hcz17_4 hcz17_5 hcz17_6 hcz17_7 hcz17_8 hcz17_9
          try clear hcz19_0 hcz19_1 hcz19_10 hcz19_11 hcz19_12 hcz19_2 hcz19_3 hcz19_4 hcz19_5 hcz19_6 hcz19_7 hcz19_8 hcz19_9
          try clear hcz20_0 hcz20_1 hcz20_10 hcz20_11 hcz20_12 hcz20_2 hcz20_3 hcz20_4 hcz20_5 hcz20_6 hcz20_7 hcz20_8 hcz20_9
          try clear hcz21_0 hcz21_1 hcz21_10 hcz21_11 hcz21_12 hcz21_2 hcz21_3 hcz21_4 hcz21_5 hcz21_6 hcz21_7 hcz21_8 hcz21_9
          try clear hcz23_0 hcz23_1 hcz23_10 hcz23_11 hcz23_12 hcz23_2 hcz23_3 hcz23_4 hcz23_5 hcz23_6 hcz23_7 hcz23_8 hcz23_9
          try clear hcz29_0 hcz29_1 hcz29_10 hcz29_11 hcz29_12 hcz29_2 hcz29_3 hcz29_4 hcz29_5 hcz29_6 hcz29_7 hcz29_8 hcz29_9
          try clear hcz36_0 hcz36_1 hcz36_10 hcz36_11 hcz36_12 hcz36_2 hcz36_3 hcz36_4 hcz36_5 hcz36_6 hcz36_7 hcz36_8 hcz36_9
          try clear hfz13_0 hfz13_1 hfz13_10 hfz13_11 hfz13_12 hfz13_2 hfz13_3 hfz13_4 hfz13_5 hfz13_6 hfz13_7 hfz13_8 hfz13_9
          try clear hfz15_0 hfz15_1 hfz15_10 hfz15_11 hfz15_12 hfz15_2 hfz15_3 hfz15_4 hfz15_5 hfz15_6 hfz15_7 hfz15_8 hfz15_9
          try clear hfz17_0 hfz17_1 hfz17_10 hfz17_11 hfz17_12 hfz17_2 hfz17_3 hfz17_4 hfz17_5 hfz17_6 hfz17_7 hfz17_8 hfz17_9
          try clear hfz19_0 hfz19_1 hfz19_10 hfz19_11 hfz19_12 hfz19_2 hfz19_3 hfz19_4 hfz19_5 hfz19_6 hfz19_7 hfz19_8 hfz19_9
          try clear hfz20_0 hfz20_1 hfz20_10 hfz20_11 hfz20_12 hfz20_2 hfz20_3 hfz20_4 hfz20_5 hfz20_6 hfz20_7 hfz20_8 hfz20_9
          try clear hfz21_0 hfz21_1 hfz21_10 hfz21_11 hfz21_12 hfz21_2 hfz21_3 hfz21_4 hfz21_5 hfz21_6 hfz21_7 hfz21_8 hfz21_9
          try clear hfz23_0 hfz23_1 hfz23_10 hfz23_11 hfz23_12 hfz23_2 hfz23_3 hfz23_4 hfz23_5 hfz23_6 hfz23_7 hfz23_8 hfz23_9
          try clear hfz29_0 hfz29_1 hfz29_10 hfz29_11 hfz29_12 hfz29_2 hfz29_3 hfz29_4 hfz29_5 hfz29_6 hfz29_7 hfz29_8 hfz29_9
          try clear hfz36_0 hfz36_1 hfz36_10 hfz36_11 hfz36_12 hfz36_2 hfz36_3 hfz36_4 hfz36_5 hfz36_6 hfz36_7 hfz36_8 hfz36_9
          try clear hx227_0
          try clear hx230_0
          try clear p2
          try clear p227
          try clear p230
          try clear q227
          try clear q230
          obtain ⟨kq, x72_27, rfl, HA, HJ27, BK221, HB⟩ := hcut
          cases kq with
          | zero => exact absurd HA.out (by simp [meeting_hall_valid.j2])
          | succ kj27 =>
           have H := HA.out
           clear HA
           simp only [meeting_hall_valid.j2] at H
           by_cases c37 : x72_27 = true
           ·subst c37
            have H1 : (some false) = some r := by rw [if_pos rfl] at H; exact H
            clear H
            have H := H1
            clear H1
            obtain rfl := Option.some.inj H
            go_wp2
            go_ret
            exact ⟨qx_, qb_⟩
           ·replace c37 := Bool.eq_false_iff.mpr c37
            subst c37
            have H1 : (meeting_hall_valid.l0 kj27 l0_10 (l0_10.length : Int) (wrap64 (x45_2 + 1)) a0_0 a0_1 a0_2 a0_3 a0_4 a0_5 a0_6 a0_7 l0_8 l0_9 l0_10 a0_11 l0_12) = some r := by rw [if_neg (show ¬ (false = true) by decide)] at H; exact H
            clear H
            have H := H1
            clear H1
            have H' := Aside0.mk H
            clear H
            go_wp2
            go_roundg kj27
            case measure => have := HJ1.out; have := HK2.out; have := HJ27.out; omega
            case rel => exact ⟨(wrap64 (x45_2 + 1)), qs_, H', ⟨by have := HJ1.out; have := HK2.out; have := HJ27.out; omega⟩, ⟨qk_ BK221⟩, ⟨qb_⟩⟩
        ·rw [if_neg c26] at H
         exact absurd H (by simp)
       ·rw [if_neg c25] at H
        exact absurd H (by simp)
      ·rw [if_neg c24] at H
       have c24b0 : decide (x45_2 < (l0_10.length : Int)) = false := decide_eq_false c24
       clear c24
       obtain rfl := Option.some.inj H
       go_wp2
       go_ret
       exact ⟨qx_, qb_⟩
end Go.Proofs.Ytemnlgefngjliaa.Px
