/- Contracts of Go functions, printed. Conditions: as each theorem states. -/
import Derived.Test.YtemnlgefngjliaaPx0
import Derived.Test.YtemnlgefngjliaaPx15
import Derived.Test.YtemnlgefngjliaaPx17
import Derived.Test.YtemnlgefngjliaaPx31
import Derived.Test.YtemnlgefngjliaaPx34
namespace Go.Proofs.Ytemnlgefngjliaa.Px
open Go.Proofs.Ytemnlgefngjliaa.Given
open Go.RowKit Go.Proofs.YtemnlgefngjliaaW.PrintWords Go.Proofs.YtemnlgefngjliaaW.PrintLast Go.Proofs.YtemnlgefngjliaaW.PrintMore
attribute [local go_sem] max2_int min2_int max_two min_two max_three min_three max_four min_four
set_option linter.unusedVariables false
set_option linter.unusedSimpArgs false
mutual
def LwMeetingAgenda.j0 : Nat → ByteArray → ByteArray → Bool → Bool → Int → Int → Int → Int → Bool → Int → Int → Int → List ByteArray → List (S43) → List Int → Option (Bool)
 | 0, _, _, _, _, _, _, _, _, _, _, _, _, _, _, _ => none
 | k + 1, x2, x3, x9, x34, u0, u1, u2, u3, u4, u5, u6, u7, u8, u9, u10 => if x34 = true then (some x9) else ((some (([x2, x3] : List ByteArray) : List ByteArray)).bind fun y597 => (LwMeetingAgenda.l0 k x2 x3 x9 y597 (y597.length : Int) 0 u0 u1 u2 u3 u4 u5 u6 u7 u8 u9 u10))
def LwMeetingAgenda.l0 : Nat → ByteArray → ByteArray → Bool → List ByteArray → Int → Int → Int → Int → Int → Int → Bool → Int → Int → Int → List ByteArray → List (S43) → List Int → Option (Bool)
 | 0, _, _, _, _, _, _, _, _, _, _, _, _, _, _, _, _, _ => none
 | k + 1, x2, x3, x9, x38, x39, x40, u0, u1, u2, u3, u4, u5, u6, u7, u8, u9, u10 => if x40 < x39 then (if 0 ≤ x40 then (if x40 < (x38.length : Int) then ((Lwflaw.f k u0 u1 u2 u3 u4 u5 u6 u7 u8 u9 u10 (rdOf ByteArray.empty x38 x40) ([] : List Int) 2).bind fun bt601 => (if bt601.2 = true then ((RfHas.f k u8 (rdOf ByteArray.empty x38 x40)).bind fun t603 => (if (bt601.1 == t603) = true then (some false) else (LwMeetingAgenda.l0 k x2 x3 x9 x38 x39 (wrap64 (x40 + 1)) u0 u1 u2 u3 u4 u5 u6 u7 u8 u9 u10))) else (some false))) else (none)) else (none)) else ((some (([1, 3, 4] : List Int) : List Int)).bind fun y604 => (LwMeetingAgenda.l1 k x2 x3 x9 y604 (y604.length : Int) 0 u0 u1 u2 u3 u4 u5 u6 u7 u8 u9 u10))
def LwMeetingAgenda.l1 : Nat → ByteArray → ByteArray → Bool → List Int → Int → Int → Int → Int → Int → Int → Bool → Int → Int → Int → List ByteArray → List (S43) → List Int → Option (Bool)
 | 0, _, _, _, _, _, _, _, _, _, _, _, _, _, _, _, _, _ => none
 | k + 1, x2, x3, x9, x62, x63, x64, u0, u1, u2, u3, u4, u5, u6, u7, u8, u9, u10 => if x64 < x63 then (if 0 ≤ x64 then (if x64 < (x62.length : Int) then ((Lwflaw.f k u0 u1 u2 u3 u4 u5 u6 u7 u8 u9 u10 x2 ([] : List Int) (rd x62 x64)).bind fun bt608 => ((Lwflaw.f k u0 u1 u2 u3 u4 u5 u6 u7 u8 u9 u10 x3 ([] : List Int) (rd x62 x64)).bind fun bt610 => (if (bt608.1 != bt610.1) = true then (LwMeetingAgenda.j3 k x2 x3 x9 x62 x63 x64 true u0 u1 u2 u3 u4 u5 u6 u7 u8 u9 u10) else (if bt608.2 = true then (LwMeetingAgenda.j3 k x2 x3 x9 x62 x63 x64 (!bt610.2) u0 u1 u2 u3 u4 u5 u6 u7 u8 u9 u10) else (LwMeetingAgenda.j3 k x2 x3 x9 x62 x63 x64 true u0 u1 u2 u3 u4 u5 u6 u7 u8 u9 u10))))) else (none)) else (none)) else (some x9)
def LwMeetingAgenda.j3 : Nat → ByteArray → ByteArray → Bool → List Int → Int → Int → Bool → Int → Int → Int → Int → Bool → Int → Int → Int → List ByteArray → List (S43) → List Int → Option (Bool)
 | 0, _, _, _, _, _, _, _, _, _, _, _, _, _, _, _, _, _, _ => none
 | k + 1, x2, x3, x9, x62, x63, x64, x94, u0, u1, u2, u3, u4, u5, u6, u7, u8, u9, u10 => if x94 = true then (some false) else (LwMeetingAgenda.l1 k x2 x3 x9 x62 x63 (wrap64 (x64 + 1)) u0 u1 u2 u3 u4 u5 u6 u7 u8 u9 u10)
end
def LwMeetingAgenda.f (k : Nat) (a0_0 a0_1 a0_2 a0_3 : Int) (a0_4 : Bool) (a1_0 a1_1 a1_2 : Int) (l1_3 : List ByteArray) (l1_4 : List (S43)) (l1_5 : List Int) (a2 a3 : ByteArray) : Option (Bool) := (Lwhead.f k).bind fun t593 => ((Lwusable.f k a0_0 a0_1 a0_2 a0_3 a0_4 a1_0 a1_1 a1_2 l1_3 l1_4 l1_5).bind fun t594 => (if t594 = true then ((RfName.f k a2).bind fun t595 => (if t595 = true then ((RfName.f k a3).bind fun t596 => (LwMeetingAgenda.j0 k a2 a3 t593 (!t596) a0_0 a0_1 a0_2 a0_3 a0_4 a1_0 a1_1 a1_2 l1_3 l1_4 l1_5)) else (LwMeetingAgenda.j0 k a2 a3 t593 true a0_0 a0_1 a0_2 a0_3 a0_4 a1_0 a1_1 a1_2 l1_3 l1_4 l1_5))) else (LwMeetingAgenda.j0 k a2 a3 t593 true a0_0 a0_1 a0_2 a0_3 a0_4 a1_0 a1_1 a1_2 l1_3 l1_4 l1_5)))
theorem LwMeetingAgenda.mono_l : ∀ k, (∀ y0 y1 y2 y3 y4 y5 y6 y7 y8 y9 y10 y11 y12 y13 y14, LeO (LwMeetingAgenda.j0 k y0 y1 y2 y3 y4 y5 y6 y7 y8 y9 y10 y11 y12 y13 y14) (LwMeetingAgenda.j0 (k + 1) y0 y1 y2 y3 y4 y5 y6 y7 y8 y9 y10 y11 y12 y13 y14)) ∧ (∀ y0 y1 y2 y3 y4 y5 y6 y7 y8 y9 y10 y11 y12 y13 y14 y15 y16, LeO (LwMeetingAgenda.l0 k y0 y1 y2 y3 y4 y5 y6 y7 y8 y9 y10 y11 y12 y13 y14 y15 y16) (LwMeetingAgenda.l0 (k + 1) y0 y1 y2 y3 y4 y5 y6 y7 y8 y9 y10 y11 y12 y13 y14 y15 y16)) ∧ (∀ y0 y1 y2 y3 y4 y5 y6 y7 y8 y9 y10 y11 y12 y13 y14 y15 y16, LeO (LwMeetingAgenda.l1 k y0 y1 y2 y3 y4 y5 y6 y7 y8 y9 y10 y11 y12 y13 y14 y15 y16) (LwMeetingAgenda.l1 (k + 1) y0 y1 y2 y3 y4 y5 y6 y7 y8 y9 y10 y11 y12 y13 y14 y15 y16)) ∧ (∀ y0 y1 y2 y3 y4 y5 y6 y7 y8 y9 y10 y11 y12 y13 y14 y15 y16 y17, LeO (LwMeetingAgenda.j3 k y0 y1 y2 y3 y4 y5 y6 y7 y8 y9 y10 y11 y12 y13 y14 y15 y16 y17) (LwMeetingAgenda.j3 (k + 1) y0 y1 y2 y3 y4 y5 y6 y7 y8 y9 y10 y11 y12 y13 y14 y15 y16 y17))
 | 0 => ⟨fun _ _ _ _ _ _ _ _ _ _ _ _ _ _ _ r h => by simp [LwMeetingAgenda.j0] at h, fun _ _ _ _ _ _ _ _ _ _ _ _ _ _ _ _ _ r h => by simp [LwMeetingAgenda.l0] at h, fun _ _ _ _ _ _ _ _ _ _ _ _ _ _ _ _ _ r h => by simp [LwMeetingAgenda.l1] at h, fun _ _ _ _ _ _ _ _ _ _ _ _ _ _ _ _ _ _ r h => by simp [LwMeetingAgenda.j3] at h⟩
 | k + 1 => by
  obtain ⟨ih0, ih1, ih2, ih3⟩ := LwMeetingAgenda.mono_l k
  refine ⟨?_, ?_, ?_, ?_⟩
  ·intro y0 y1 y2 y3 y4 y5 y6 y7 y8 y9 y10 y11 y12 y13 y14
   unfold LwMeetingAgenda.j0
   with_reducible (repeat' first | apply ih0 | apply ih1 | apply ih2 | apply ih3 | apply Lwflaw.mono | apply Lwhead.mono | apply Lwusable.mono | apply RfHas.mono | apply RfName.mono | apply LeO.refl | apply LeO.none | apply LeO.ite | refine LeO.bind ?_ (fun _ => ?_))
  ·intro y0 y1 y2 y3 y4 y5 y6 y7 y8 y9 y10 y11 y12 y13 y14 y15 y16
   unfold LwMeetingAgenda.l0
   with_reducible (repeat' first | apply ih0 | apply ih1 | apply ih2 | apply ih3 | apply Lwflaw.mono | apply Lwhead.mono | apply Lwusable.mono | apply RfHas.mono | apply RfName.mono | apply LeO.refl | apply LeO.none | apply LeO.ite | refine LeO.bind ?_ (fun _ => ?_))
  ·intro y0 y1 y2 y3 y4 y5 y6 y7 y8 y9 y10 y11 y12 y13 y14 y15 y16
   unfold LwMeetingAgenda.l1
   with_reducible (repeat' first | apply ih0 | apply ih1 | apply ih2 | apply ih3 | apply Lwflaw.mono | apply Lwhead.mono | apply Lwusable.mono | apply RfHas.mono | apply RfName.mono | apply LeO.refl | apply LeO.none | apply LeO.ite | refine LeO.bind ?_ (fun _ => ?_))
  ·intro y0 y1 y2 y3 y4 y5 y6 y7 y8 y9 y10 y11 y12 y13 y14 y15 y16 y17
   unfold LwMeetingAgenda.j3
   with_reducible (repeat' first | apply ih0 | apply ih1 | apply ih2 | apply ih3 | apply Lwflaw.mono | apply Lwhead.mono | apply Lwusable.mono | apply RfHas.mono | apply RfName.mono | apply LeO.refl | apply LeO.none | apply LeO.ite | refine LeO.bind ?_ (fun _ => ?_))
theorem LwMeetingAgenda.mono : ∀ a0 a1 a2 a3 a4 a5 a6 a7 a8 a9 a10 a11 a12 k, LeO (LwMeetingAgenda.f k a0 a1 a2 a3 a4 a5 a6 a7 a8 a9 a10 a11 a12) (LwMeetingAgenda.f (k + 1) a0 a1 a2 a3 a4 a5 a6 a7 a8 a9 a10 a11 a12) := by
 intro a0 a1 a2 a3 a4 a5 a6 a7 a8 a9 a10 a11 a12 k
 obtain ⟨ih0, ih1, ih2, ih3⟩ := LwMeetingAgenda.mono_l k
 unfold LwMeetingAgenda.f
 with_reducible (repeat' first | apply ih0 | apply ih1 | apply ih2 | apply ih3 | apply Lwflaw.mono | apply Lwhead.mono | apply Lwusable.mono | apply RfHas.mono | apply RfName.mono | apply LeO.refl | apply LeO.none | apply LeO.ite | refine LeO.bind ?_ (fun _ => ?_))
set_option maxHeartbeats 8000000 in
set_option maxRecDepth 100000 in
theorem LwMeetingAgenda.calls (k : Nat) (a0_0 a0_1 a0_2 a0_3 : Int) (a0_4 : Bool) (a1_0 a1_1 a1_2 : Int) (A1_3 : Option Addr) (c1_3 : Nat) (l1_3 : List ByteArray) (A1_4 : Option Addr) (c1_4 : Nat) (l1_4 : List (S43)) (A1_5 : Option Addr) (c1_5 : Nat) (l1_5 : List Int) (a2 a3 : ByteArray) (r : Bool) (w : World) (hr1_3 : Kd.C Kd.string w A1_3 l1_3.length l1_3) (hc1_3 : l1_3.length ≤ c1_3) (hr1_4 : Kd.C k43 w A1_4 l1_4.length l1_4) (hc1_4 : l1_4.length ≤ c1_4) (hr1_5 : Kd.C (Kd.int .i64) w A1_5 l1_5.length l1_5) (hc1_5 : l1_5.length ≤ c1_5) (h : LwMeetingAgenda.f k a0_0 a0_1 a0_2 a0_3 a0_4 a1_0 a1_1 a1_2 l1_3 l1_4 l1_5 a2 a3 = some r) :
  Calls Try.prog 8 #[.agg #[.int .i64 a0_0, .int .i64 a0_1, .int .i64 a0_2, .int .i64 a0_3, .bool a0_4], .agg #[.int .i64 a1_0, .int .i64 a1_1, .int .i64 a1_2, .slice A1_3 l1_3.length c1_3, .slice A1_4 l1_4.length c1_4, .slice A1_5 l1_5.length c1_5], .string a2, .string a3] w fun e w' => e = .returned (.bool r) ∧ Below w.heap.size w w' := by
 have hu25 := Try.underlying25
 have hu30 := Try.underlying30
 have HR1_3 := Aside0.mk hr1_3
 have HC1_3 := Aside0.mk hc1_3
 clear hr1_3 hc1_3
 have HR1_4 := Aside0.mk hr1_4
 have HC1_4 := Aside0.mk hc1_4
 clear hr1_4 hc1_4
 have HR1_5 := Aside0.mk hr1_5
 have HC1_5 := Aside0.mk hc1_5
 clear hr1_5 hc1_5
 have HB := Aside0.mk (Below.refl w.heap.size w)
 have H : ((Lwhead.f k).bind fun t593 => ((Lwusable.f k a0_0 a0_1 a0_2 a0_3 a0_4 a1_0 a1_1 a1_2 l1_3 l1_4 l1_5).bind fun t594 => (if t594 = true then ((RfName.f k a2).bind fun t595 => (if t595 = true then ((RfName.f k a3).bind fun t596 => (LwMeetingAgenda.j0 k a2 a3 t593 (!t596) a0_0 a0_1 a0_2 a0_3 a0_4 a1_0 a1_1 a1_2 l1_3 l1_4 l1_5)) else (LwMeetingAgenda.j0 k a2 a3 t593 true a0_0 a0_1 a0_2 a0_3 a0_4 a1_0 a1_1 a1_2 l1_3 l1_4 l1_5))) else (LwMeetingAgenda.j0 k a2 a3 t593 true a0_0 a0_1 a0_2 a0_3 a0_4 a1_0 a1_1 a1_2 l1_3 l1_4 l1_5)))) = some r := h
 clear h
 replace H := Option.bind_eq_some_iff.mp H
 obtain ⟨t593, A50, H⟩ := H
 replace H : ((Lwusable.f k a0_0 a0_1 a0_2 a0_3 a0_4 a1_0 a1_1 a1_2 l1_3 l1_4 l1_5).bind fun t594 => (if t594 = true then ((RfName.f k a2).bind fun t595 => (if t595 = true then ((RfName.f k a3).bind fun t596 => (LwMeetingAgenda.j0 k a2 a3 t593 (!t596) a0_0 a0_1 a0_2 a0_3 a0_4 a1_0 a1_1 a1_2 l1_3 l1_4 l1_5)) else (LwMeetingAgenda.j0 k a2 a3 t593 true a0_0 a0_1 a0_2 a0_3 a0_4 a1_0 a1_1 a1_2 l1_3 l1_4 l1_5))) else (LwMeetingAgenda.j0 k a2 a3 t593 true a0_0 a0_1 a0_2 a0_3 a0_4 a1_0 a1_1 a1_2 l1_3 l1_4 l1_5))) = some r := H
 have A5 := Aside0.mk A50
 clear A50
 have HC6 := Aside0.mk H
 clear H
 go_enter Try.func8, Try.ntmps8
 go_upto_region 2 with (first | ((with_reducible refine gate_dst (N := 4) rfl ?_); refine qev_ 4 #[.int .i64 a0_0, .int .i64 a0_1, .int .i64 a0_2, .int .i64 a0_3, .bool a0_4] 25 ?_; intro gb591 hg w7 hbox hb; have BK591 := Aside0.mk (hbox); have GW591 := qga_ hg; have GE591 := qga_ hg; replace HB := qbs_ hb; clear hb hbox hg) | ((with_reducible refine gate_dst (N := 5) rfl ?_); refine qev_ 5 #[.int .i64 a1_0, .int .i64 a1_1, .int .i64 a1_2, .slice A1_3 l1_3.length c1_3, .slice A1_4 l1_4.length c1_4, .slice A1_5 l1_5.length c1_5] 30 ?_; intro gb592 hg w8 hbox hb; have BK592 := Aside0.mk (hbox); have GW592 := qga_ hg; have GE592 := qga_ hg; replace HB := qbs_ hb; have NB591_592 := Aside0.mk ((by rw [hg]; exact Nat.ne_of_lt (blk_lt (qk_ BK591)) : gb591 ≠ gb592)); have NB592_591 := Aside0.mk ((by rw [hg]; exact Nat.ne_of_gt (blk_lt (qk_ BK591)) : gb592 ≠ gb591)); replace BK591 := qkb_ BK591 hb; clear hb hbox hg) | ((with_reducible refine gate_callee (f := 11) rfl ?_); refine goesL_ (some 20) rfl rfl Try.func11 (by kernel_rfl) rfl #[] rfl ql_ ?_; (with_reducible refine (Lwhead.calls k  t593 _ A5.out).mono ?_); rintro e w9 ⟨rfl, hb⟩; refine ⟨_, rfl, ?_⟩; replace BK591 := qkb_ BK591 hb; replace BK592 := qkb_ BK592 hb; replace HB := qbs_ hb; (try clear hb); (try clear hb2); (try clear hk); (try clear hi)))
 (try simp only [Act.put, List.setIfInBounds_toArray, List.set_cons_zero, List.set_cons_succ])
 go_cut [34] (fun v34 wc => ∃ (kq : Nat) (x34_5 : Bool), v34 = .bool x34_5 ∧ Aside0 (LwMeetingAgenda.j0 kq a2 a3 t593 x34_5 a0_0 a0_1 a0_2 a0_3 a0_4 a1_0 a1_1 a1_2 l1_3 l1_4 l1_5 = some r) ∧ Aside0 (kq ≤ k) ∧ Aside0 (wc.heap[gb591]? = some (.cells #[.int .i64 a0_0, .int .i64 a0_1, .int .i64 a0_2, .int .i64 a0_3, .bool a0_4] 25 (0, 0))) ∧ Aside0 (wc.heap[gb592]? = some (.cells #[.int .i64 a1_0, .int .i64 a1_1, .int .i64 a1_2, (.slice A1_3 l1_3.length c1_3), (.slice A1_4 l1_4.length c1_4), (.slice A1_5 l1_5.length c1_5)] 30 (0, 0))) ∧ Aside0 (Below w.heap.size w wc))
 case first =>
  have H := HC6.out
  clear HC6
  replace H := Option.bind_eq_some_iff.mp H
  obtain ⟨t594, A100, H⟩ := H
  replace H : (if t594 = true then ((RfName.f k a2).bind fun t595 => (if t595 = true then ((RfName.f k a3).bind fun t596 => (LwMeetingAgenda.j0 k a2 a3 t593 (!t596) a0_0 a0_1 a0_2 a0_3 a0_4 a1_0 a1_1 a1_2 l1_3 l1_4 l1_5)) else (LwMeetingAgenda.j0 k a2 a3 t593 true a0_0 a0_1 a0_2 a0_3 a0_4 a1_0 a1_1 a1_2 l1_3 l1_4 l1_5))) else (LwMeetingAgenda.j0 k a2 a3 t593 true a0_0 a0_1 a0_2 a0_3 a0_4 a1_0 a1_1 a1_2 l1_3 l1_4 l1_5)) = some r := H
  have A10 := Aside0.mk A100
  clear A100
  by_cases c11 : t594 = true
  ·subst c11
   have H1 : ((RfName.f k a2).bind fun t595 => (if t595 = true then ((RfName.f k a3).bind fun t596 => (LwMeetingAgenda.j0 k a2 a3 t593 (!t596) a0_0 a0_1 a0_2 a0_3 a0_4 a1_0 a1_1 a1_2 l1_3 l1_4 l1_5)) else (LwMeetingAgenda.j0 k a2 a3 t593 true a0_0 a0_1 a0_2 a0_3 a0_4 a1_0 a1_1 a1_2 l1_3 l1_4 l1_5))) = some r := by rw [if_pos rfl] at H; exact H
   clear H
   have H := H1
   clear H1
   replace H := Option.bind_eq_some_iff.mp H
   obtain ⟨t595, A120, H⟩ := H
   replace H : (if t595 = true then ((RfName.f k a3).bind fun t596 => (LwMeetingAgenda.j0 k a2 a3 t593 (!t596) a0_0 a0_1 a0_2 a0_3 a0_4 a1_0 a1_1 a1_2 l1_3 l1_4 l1_5)) else (LwMeetingAgenda.j0 k a2 a3 t593 true a0_0 a0_1 a0_2 a0_3 a0_4 a1_0 a1_1 a1_2 l1_3 l1_4 l1_5)) = some r := H
   have A12 := Aside0.mk A120
   clear A120
   by_cases c13 : t595 = true
   ·subst c13
    have H1 : ((RfName.f k a3).bind fun t596 => (LwMeetingAgenda.j0 k a2 a3 t593 (!t596) a0_0 a0_1 a0_2 a0_3 a0_4 a1_0 a1_1 a1_2 l1_3 l1_4 l1_5)) = some r := by rw [if_pos rfl] at H; exact H
    clear H
    have H := H1
    clear H1
    replace H := Option.bind_eq_some_iff.mp H
    obtain ⟨t596, A140, H⟩ := H
    replace H : (LwMeetingAgenda.j0 k a2 a3 t593 (!t596) a0_0 a0_1 a0_2 a0_3 a0_4 a1_0 a1_1 a1_2 l1_3 l1_4 l1_5) = some r := H
    have A14 := Aside0.mk A140
    clear A140
    have H' := Aside0.mk H
    clear H
    have hnb15 := NB591_592.out
    have hnc15 := NB592_591.out
    obtain ⟨z'16_0, z'16_1, z'16_2, z'16_3, z'16_4⟩ := qz5_ BK591; obtain ⟨y'16_0, y'16_1, y'16_2, y'16_3, y'16_4⟩ := qf5_ BK591
    obtain ⟨z'17_0, z'17_1, z'17_2, z'17_3, z'17_4, z'17_5⟩ := qz6_ BK592; obtain ⟨y'17_0, y'17_1, y'17_2, y'17_3, y'17_4, y'17_5⟩ := qf6_ BK592
    go_wp2_with (first | ((with_reducible refine gate_callee (f := 22) rfl ?_); refine goesL_ (some 23) rfl rfl Try.func22 (by kernel_rfl) rfl #[.agg #[.int .i64 a0_0, .int .i64 a0_1, .int .i64 a0_2, .int .i64 a0_3, .bool a0_4], .agg #[.int .i64 a1_0, .int .i64 a1_1, .int .i64 a1_2, .slice A1_3 l1_3.length c1_3, .slice A1_4 l1_4.length c1_4, .slice A1_5 l1_5.length c1_5]] rfl ql_ ?_; (with_reducible refine (Lwusable.calls k a0_0 a0_1 a0_2 a0_3 a0_4 a1_0 a1_1 a1_2 _ _ l1_3 _ _ l1_4 _ _ l1_5 true _ ?s1 ?s2 ?s3 ?s4 ?s5 ?s6 A10.out).mono ?_); (case s1 => exact qc_ HR1_3); (case s2 => exact HC1_3.out); (case s3 => exact qc_ HR1_4); (case s4 => exact HC1_4.out); (case s5 => exact qc_ HR1_5); (case s6 => exact HC1_5.out); rintro e w18 ⟨rfl, hb⟩; refine ⟨_, rfl, ?_⟩; replace BK591 := qkb_ BK591 hb; replace BK592 := qkb_ BK592 hb; replace HB := qbs_ hb; (try clear hb); (try clear hb2); (try clear hk); (try clear hi)) | (go_at_call 25; (with_reducible refine (RfName.calls k a2 true _ A12.out).mono ?_); rintro e w' ⟨rfl, ⟨nd, rfl⟩⟩) | (go_at_call 25; (with_reducible refine (RfName.calls k a3 t596 _ A14.out).mono ?_); rintro e w' ⟨rfl, ⟨nd, rfl⟩⟩))
    go_meet
    case rel => exact ⟨_, (!t596), qs_, H', ⟨qo_⟩, ⟨qk_ BK591⟩, ⟨qk_ BK592⟩, ⟨qb_⟩⟩
   ·replace c13 := Bool.eq_false_iff.mpr c13
    subst c13
    have H1 : (LwMeetingAgenda.j0 k a2 a3 t593 true a0_0 a0_1 a0_2 a0_3 a0_4 a1_0 a1_1 a1_2 l1_3 l1_4 l1_5) = some r := by rw [if_neg (show ¬ (false = true) by decide)] at H; exact H
    clear H
    have H := H1
    clear H1
    have H' := Aside0.mk H
    clear H
    have hnb19 := NB591_592.out
    have hnc19 := NB592_591.out
    obtain ⟨z'20_0, z'20_1, z'20_2, z'20_3, z'20_4⟩ := qz5_ BK591; obtain ⟨y'20_0, y'20_1, y'20_2, y'20_3, y'20_4⟩ := qf5_ BK591
    obtain ⟨z'21_0, z'21_1, z'21_2, z'21_3, z'21_4, z'21_5⟩ := qz6_ BK592; obtain ⟨y'21_0, y'21_1, y'21_2, y'21_3, y'21_4, y'21_5⟩ := qf6_ BK592
    go_wp2_with (first | ((with_reducible refine gate_callee (f := 22) rfl ?_); refine goesL_ (some 23) rfl rfl Try.func22 (by kernel_rfl) rfl #[.agg #[.int .i64 a0_0, .int .i64 a0_1, .int .i64 a0_2, .int .i64 a0_3, .bool a0_4], .agg #[.int .i64 a1_0, .int .i64 a1_1, .int .i64 a1_2, .slice A1_3 l1_3.length c1_3, .slice A1_4 l1_4.length c1_4, .slice A1_5 l1_5.length c1_5]] rfl ql_ ?_; (with_reducible refine (Lwusable.calls k a0_0 a0_1 a0_2 a0_3 a0_4 a1_0 a1_1 a1_2 _ _ l1_3 _ _ l1_4 _ _ l1_5 true _ ?s1 ?s2 ?s3 ?s4 ?s5 ?s6 A10.out).mono ?_); (case s1 => exact qc_ HR1_3); (case s2 => exact HC1_3.out); (case s3 => exact qc_ HR1_4); (case s4 => exact HC1_4.out); (case s5 => exact qc_ HR1_5); (case s6 => exact HC1_5.out); rintro e w22 ⟨rfl, hb⟩; refine ⟨_, rfl, ?_⟩; replace BK591 := qkb_ BK591 hb; replace BK592 := qkb_ BK592 hb; replace HB := qbs_ hb; (try clear hb); (try clear hb2); (try clear hk); (try clear hi)) | (go_at_call 25; (with_reducible refine (RfName.calls k a2 false _ A12.out).mono ?_); rintro e w' ⟨rfl, ⟨nd, rfl⟩⟩))
    go_meet
    case rel => exact ⟨_, (true), qs_, H', ⟨qo_⟩, ⟨qk_ BK591⟩, ⟨qk_ BK592⟩, ⟨qb_⟩⟩
  ·replace c11 := Bool.eq_false_iff.mpr c11
   subst c11
   have H1 : (LwMeetingAgenda.j0 k a2 a3 t593 true a0_0 a0_1 a0_2 a0_3 a0_4 a1_0 a1_1 a1_2 l1_3 l1_4 l1_5) = some r := by rw [if_neg (show ¬ (false = true) by decide)] at H; exact H
   clear H
   have H := H1
   clear H1
   have H' := Aside0.mk H
   clear H
   have hnb23 := NB591_592.out
   have hnc23 := NB592_591.out
   obtain ⟨z'24_0, z'24_1, z'24_2, z'24_3, z'24_4⟩ := qz5_ BK591; obtain ⟨y'24_0, y'24_1, y'24_2, y'24_3, y'24_4⟩ := qf5_ BK591
   obtain ⟨z'25_0, z'25_1, z'25_2, z'25_3, z'25_4, z'25_5⟩ := qz6_ BK592; obtain ⟨y'25_0, y'25_1, y'25_2, y'25_3, y'25_4, y'25_5⟩ := qf6_ BK592
   go_wp2_with (first | ((with_reducible refine gate_callee (f := 22) rfl ?_); refine goesL_ (some 23) rfl rfl Try.func22 (by kernel_rfl) rfl #[.agg #[.int .i64 a0_0, .int .i64 a0_1, .int .i64 a0_2, .int .i64 a0_3, .bool a0_4], .agg #[.int .i64 a1_0, .int .i64 a1_1, .int .i64 a1_2, .slice A1_3 l1_3.length c1_3, .slice A1_4 l1_4.length c1_4, .slice A1_5 l1_5.length c1_5]] rfl ql_ ?_; (with_reducible refine (Lwusable.calls k a0_0 a0_1 a0_2 a0_3 a0_4 a1_0 a1_1 a1_2 _ _ l1_3 _ _ l1_4 _ _ l1_5 false _ ?s1 ?s2 ?s3 ?s4 ?s5 ?s6 A10.out).mono ?_); (case s1 => exact qc_ HR1_3); (case s2 => exact HC1_3.out); (case s3 => exact qc_ HR1_4); (case s4 => exact HC1_4.out); (case s5 => exact qc_ HR1_5); (case s6 => exact HC1_5.out); rintro e w26 ⟨rfl, hb⟩; refine ⟨_, rfl, ?_⟩; replace BK591 := qkb_ BK591 hb; replace BK592 := qkb_ BK592 hb; replace HB := qbs_ hb; (try clear hb); (try clear hb2); (try clear hk); (try clear hi)))
   go_meet
   case rel => exact ⟨_, (true), qs_, H', ⟨qo_⟩, ⟨qk_ BK591⟩, ⟨qk_ BK592⟩, ⟨qb_⟩⟩
 case rest =>
  clear HC6
  try clear c1
  try clear c2
  try clear p2
  try clear c8
  try clear c11
  try clear c13
  try clear c15
  try clear c19
  try clear c22
  try clear c23
  try clear z'16_0 z'16_1 z'16_2 z'16_3 z'16_4
  try clear z'17_0 z'17_1 z'17_2 z'17_3 z'17_4 z'17_5
  try clear z'20_0 z'20_1 z'20_2 z'20_3 z'20_4
  try clear z'21_0 z'21_1 z'21_2 z'21_3 z'21_4 z'21_5
  try clear z'24_0 z'24_1 z'24_2 z'24_3 z'24_4
  try clear z'25_0 z'25_1 z'25_2 z'25_3 z'25_4 z'25_5
  try clear y'16_0 y'16_1 y'16_2 y'16_3 y'16_4
  try clear y'17_0 y'17_1 y'17_2 y'17_3 y'17_4 y'17_5
  try clear y'20_0 y'20_1 y'20_2 y'20_3 y'20_4
  try clear y'21_0 y'21_1 y'21_2 y'21_3 y'21_4 y'21_5
  try clear y'24_0 y'24_1 y'24_2 y'24_3 y'24_4
  try clear y'25_0 y'25_1 y'25_2 y'25_3 y'25_4 y'25_5
  obtain ⟨kq, x34_5, rfl, HA, HJ5, BK591, BK592, HB⟩ := hcut
  cases kq with
  | zero => exact absurd HA.out (by simp [LwMeetingAgenda.j0])
  | succ kj5 =>
   have H := HA.out
   clear HA
   simp only [LwMeetingAgenda.j0] at H
   by_cases c27 : x34_5 = true
   ·subst c27
    have H1 : (some t593) = some r := by rw [if_pos rfl] at H; exact H
    clear H
    have H := H1
    clear H1
    obtain rfl := Option.some.inj H
    go_wp2
    go_ret
    exact ⟨qx_, qb_⟩
   ·replace c27 := Bool.eq_false_iff.mpr c27
    subst c27
    have H1 : ((some (([a2, a3] : List ByteArray) : List ByteArray)).bind fun y597 => (LwMeetingAgenda.l0 kj5 a2 a3 t593 y597 (y597.length : Int) 0 a0_0 a0_1 a0_2 a0_3 a0_4 a1_0 a1_1 a1_2 l1_3 l1_4 l1_5)) = some r := by rw [if_neg (show ¬ (false = true) by decide)] at H; exact H
    clear H
    have H := H1
    clear H1
    obtain ⟨y597, hy597⟩ : ∃ y_ : List ByteArray, y_ = (([a2, a3] : List ByteArray)) := ⟨_, rfl⟩
    replace H : (LwMeetingAgenda.l0 kj5 a2 a3 t593 y597 (y597.length : Int) 0 a0_0 a0_1 a0_2 a0_3 a0_4 a1_0 a1_1 a1_2 l1_3 l1_4 l1_5) = some r := by first | (rw [hy597]; with_reducible exact H) | (have H2_ := (Option.bind_some _ _).symm.trans H; rw [hy597]; with_reducible exact H2_) | (have H2_ := (Option.bind_some _ _).symm.trans H; with_reducible exact H2_) | with_reducible exact H | (rw [hy597]; exact H) | exact H
    have Ny597 := Aside0.mk hy597
    clear hy597
    have H' := Aside0.mk H
    clear H
    go_wp2_with (first | ((with_reducible refine gate_dst (N := 38) rfl ?_); refine Kd.R_lit Kd.string _ 9 ?hg (N := 38) ?hd (xs := ([a2, a3] : List ByteArray)) (inner := [.string a2, .string a3]) (ok := fun _ => True) (okp := fun _ => True) ?hr ?hp (fun _ hk => hk) trivial (Below.refl _ _) (Nat.le_refl _) (by simp) ?_; (case hd => rfl); (case hg => rfl); (case hr => exact qq_); (case hp => exact (Reps.one (show Kd.M Kd.string _ _ _ a2 [.string a2] from rfl) (Reps.one (show Kd.M Kd.string _ _ _ a3 [.string a3] from rfl) (Reps.none _ _)))); intro v598 w28 ho29 hb hg_ hnew_; clear hg_ hnew_; (first | rw [← Ny597.out] at ho29 | (simp only [Int.reduceToNat] at ho29; rw [← Ny597.out] at ho29)); have HO599 := Aside0.mk (Kd.R_lower ho29 (below_size qb_)); replace BK591 := qkb_ BK591 hb; replace BK592 := qkb_ BK592 hb; replace HB := qbs_ hb; clear hb ho29; obtain ⟨Ao30, co30, eo30⟩ := Kd.R_slice HO599.out; subst eo30))
    go_loopg [40] kj5 (fun kq v40 w' => ∃ (x40_2 : Int), v40 = .int .i64 x40_2 ∧ Aside0 (LwMeetingAgenda.l0 kq a2 a3 t593 y597 (y597.length : Int) x40_2 a0_0 a0_1 a0_2 a0_3 a0_4 a1_0 a1_1 a1_2 l1_3 l1_4 l1_5 = some r) ∧ Aside0 (kq ≤ kj5) ∧ Aside0 (Kd.R Kd.string 9 w' w.heap.size (fun _ => True) (.slice Ao30 y597.length co30) y597) ∧ Aside0 (w'.heap[gb591]? = some (.cells #[.int .i64 a0_0, .int .i64 a0_1, .int .i64 a0_2, .int .i64 a0_3, .bool a0_4] 25 (0, 0))) ∧ Aside0 (w'.heap[gb592]? = some (.cells #[.int .i64 a1_0, .int .i64 a1_1, .int .i64 a1_2, (.slice A1_3 l1_3.length c1_3), (.slice A1_4 l1_4.length c1_4), (.slice A1_5 l1_5.length c1_5)] 30 (0, 0))) ∧ Aside0 (Below w.heap.size w w'))
    case atStart => exact ⟨(0), qs_, H', ⟨Nat.le_refl _⟩, ⟨by (with_reducible repeat (first | apply Kd.R_alloc | apply Kd.R_drewN | apply Kd.R_drew)); exact HO599.out⟩, ⟨qk_ BK591⟩, ⟨qk_ BK592⟩, ⟨qb_⟩⟩
    case round =>
     clear H'
     try clear c1
     try clear c2
     try clear p2
     try clear c8
     try clear c11
     try clear c13
     try clear c15
     try clear c19
     try clear c22
     try clear c23
     try clear c27
     try clear z'16_0 z'16_1 z'16_2 z'16_3 z'16_4
     try clear z'17_0 z'17_1 z'17_2 z'17_3 z'17_4 z'17_5
     try clear z'20_0 z'20_1 z'20_2 z'20_3 z'20_4
     try clear z'21_0 z'21_1 z'21_2 z'21_3 z'21_4 z'21_5
     try clear z'24_0 z'24_1 z'24_2 z'24_3 z'24_4
     try clear z'25_0 z'25_1 z'25_2 z'25_3 z'25_4 z'25_5
     try clear y'16_0 y'16_1 y'16_2 y'16_3 y'16_4
     try clear y'17_0 y'17_1 y'17_2 y'17_3 y'17_4 y'17_5
     try clear y'20_0 y'20_1 y'20_2 y'20_3 y'20_4
     try clear y'21_0 y'21_1 y'21_2 y'21_3 y'21_4 y'21_5
     try clear y'24_0 y'24_1 y'24_2 y'24_3 y'24_4
     try clear y'25_0 y'25_1 y'25_2 y'25_3 y'25_4 y'25_5
     try clear p2
     obtain ⟨x40_2, rfl, HA, HK2, HO_38, BK591, BK592, HB⟩ := hrel
     cases gk with
     | zero => exact absurd HA.out (by simp [LwMeetingAgenda.l0])
     | succ k2 =>
      have H := HA.out
      clear HA
      simp only [LwMeetingAgenda.l0] at H
      by_cases c31 : x40_2 < (y597.length : Int)
      ·rw [if_pos c31] at H
       have c31b0 : decide (x40_2 < (y597.length : Int)) = true := decide_eq_true c31
       clear c31
       by_cases c32 : 0 ≤ x40_2
       ·rw [if_pos c32] at H
        have c32b0 : decide (0 ≤ x40_2) = true := decide_eq_true c32
        clear c32
        by_cases c33 : x40_2 < (y597.length : Int)
        ·rw [if_pos c33] at H
         have c33b0 : decide (x40_2 < (y597.length : Int)) = true := decide_eq_true c33
         clear c33
         replace H := Option.bind_eq_some_iff.mp H
         obtain ⟨⟨t601, t602⟩, A340, H⟩ := H
         replace H : (if t602 = true then ((RfHas.f k2 l1_3 (rdOf ByteArray.empty y597 x40_2)).bind fun t603 => (if (t601 == t603) = true then (some false) else (LwMeetingAgenda.l0 k2 a2 a3 t593 y597 (y597.length : Int) (wrap64 (x40_2 + 1)) a0_0 a0_1 a0_2 a0_3 a0_4 a1_0 a1_1 a1_2 l1_3 l1_4 l1_5))) else (some false)) = some r := H
         have A34 := Aside0.mk A340
         clear A340
         by_cases c35 : t602 = true
         ·subst c35
          have H1 : ((RfHas.f k2 l1_3 (rdOf ByteArray.empty y597 x40_2)).bind fun t603 => (if (t601 == t603) = true then (some false) else (LwMeetingAgenda.l0 k2 a2 a3 t593 y597 (y597.length : Int) (wrap64 (x40_2 + 1)) a0_0 a0_1 a0_2 a0_3 a0_4 a1_0 a1_1 a1_2 l1_3 l1_4 l1_5))) = some r := by rw [if_pos rfl] at H; exact H
          clear H
          have H := H1
          clear H1
          replace H := Option.bind_eq_some_iff.mp H
          obtain ⟨t603, A360, H⟩ := H
          replace H : (if (t601 == t603) = true then (some false) else (LwMeetingAgenda.l0 k2 a2 a3 t593 y597 (y597.length : Int) (wrap64 (x40_2 + 1)) a0_0 a0_1 a0_2 a0_3 a0_4 a1_0 a1_1 a1_2 l1_3 l1_4 l1_5)) = some r := H
          have A36 := Aside0.mk A360
          clear A360
          by_cases c37 : (t601 == t603) = true
          ·rw [if_pos c37] at H
           have c37b0 : (t601 == t603) = true := c37
           (try (have c37b1 : decide (t601 = t603) = true := by simpa using c37))
           (try (have c37b2 : (t601 == t603) = true := by simpa using c37))
           clear c37
           obtain rfl := Option.some.inj H
           have p600 : 0 ≤ (x40_2 : Int) := of_decide_eq_true qa_
           have q600 : x40_2 < (y597.length : Int) := of_decide_eq_true qa_
           obtain ⟨ad600, e600, hx600_0⟩ := Kd.at_string (Kd.R_reads' HO_38.out).2.2 x40_2 p600 q600
           cases e600
           replace p600 := eq_true p600
           replace q600 := eq_true q600
           have hnb38 := NB591_592.out
           have hnc38 := NB592_591.out
           obtain ⟨z'39_0, z'39_1, z'39_2, z'39_3, z'39_4⟩ := qz5_ BK591; obtain ⟨y'39_0, y'39_1, y'39_2, y'39_3, y'39_4⟩ := qf5_ BK591
           obtain ⟨z'40_0, z'40_1, z'40_2, z'40_3, z'40_4, z'40_5⟩ := qz6_ BK592; obtain ⟨y'40_0, y'40_1, y'40_2, y'40_3, y'40_4, y'40_5⟩ := qf6_ BK592
           go_wp2_with (first | ((with_reducible refine gate_callee (f := 27) rfl ?_); refine goesL_ (some 48) rfl rfl Try.func27 (by kernel_rfl) rfl #[.agg #[.int .i64 a0_0, .int .i64 a0_1, .int .i64 a0_2, .int .i64 a0_3, .bool a0_4], .agg #[.int .i64 a1_0, .int .i64 a1_1, .int .i64 a1_2, .slice A1_3 l1_3.length c1_3, .slice A1_4 l1_4.length c1_4, .slice A1_5 l1_5.length c1_5], .string (rdOf ByteArray.empty y597 x40_2), .slice none 0 0, .int .i64 2] rfl ql_ ?_; (refine (Lwflaw.calls k2 a0_0 a0_1 a0_2 a0_3 a0_4 a1_0 a1_1 a1_2 _ _ l1_3 _ _ l1_4 _ _ l1_5 (rdOf ByteArray.empty y597 x40_2) _ _ ([] : List Int) 2 t601 true _ ?s1 ?s2 ?s3 ?s4 ?s5 ?s6 ?s7 ?s8 A34.out).mono ?_); (case s1 => exact qc_ HR1_3); (case s2 => exact HC1_3.out); (case s3 => exact qc_ HR1_4); (case s4 => exact HC1_4.out); (case s5 => exact qc_ HR1_5); (case s6 => exact HC1_5.out); (case s7 => exact Kd.C_nil _ _); (case s8 => exact Nat.le_refl _); rintro e w41 ⟨rfl, hb⟩; refine ⟨_, rfl, ?_⟩; replace HO_38 := qrb_ HO_38 hb; replace BK591 := qkb_ BK591 hb; replace BK592 := qkb_ BK592 hb; replace HB := qbs_ hb; (try clear hb); (try clear hb2); (try clear hk); (try clear hi); obtain ⟨z'42_0, z'42_1, z'42_2, z'42_3, z'42_4, z'42_5⟩ := qz6_ BK592; obtain ⟨y'42_0, y'42_1, y'42_2, y'42_3, y'42_4, y'42_5⟩ := qf6_ BK592) | (go_at_call 28; (with_reducible refine (RfHas.calls k2 _ _ l1_3 (rdOf ByteArray.empty y597 x40_2) t603 _ ?s1 ?s2 A36.out).mono ?_); (case s1 => exact qc_ HR1_3); (case s2 => exact HC1_3.out); rintro e w' ⟨rfl, ⟨nd, rfl⟩⟩))
           go_ret
           exact ⟨qx_, qb_⟩
          ·rw [if_neg c37] at H
           have c37b0 : (t601 == t603) = false := by simpa using c37
           (try (have c37b1 : decide (t601 = t603) = false := by simpa using c37))
           (try (have c37b2 : (t601 == t603) = false := by simpa using c37))
           (try (have c37b3 : ¬ (t601 = t603) := by simpa using c37))
           clear c37
           have H' := Aside0.mk H
           clear H
           have p600 : 0 ≤ (x40_2 : Int) := of_decide_eq_true qa_
           have q600 : x40_2 < (y597.length : Int) := of_decide_eq_true qa_
           obtain ⟨ad600, e600, hx600_0⟩ := Kd.at_string (Kd.R_reads' HO_38.out).2.2 x40_2 p600 q600
           cases e600
           replace p600 := eq_true p600
           replace q600 := eq_true q600
           have hnb43 := NB591_592.out
           have hnc43 := NB592_591.out
           obtain ⟨z'44_0, z'44_1, z'44_2, z'44_3, z'44_4⟩ := qz5_ BK591; obtain ⟨y'44_0, y'44_1, y'44_2, y'44_3, y'44_4⟩ := qf5_ BK591
           obtain ⟨z'45_0, z'45_1, z'45_2, z'45_3, z'45_4, z'45_5⟩ := qz6_ BK592; obtain ⟨y'45_0, y'45_1, y'45_2, y'45_3, y'45_4, y'45_5⟩ := qf6_ BK592
           go_wp2_with (first | ((with_reducible refine gate_callee (f := 27) rfl ?_); refine goesL_ (some 48) rfl rfl Try.func27 (by kernel_rfl) rfl #[.agg #[.int .i64 a0_0, .int .i64 a0_1, .int .i64 a0_2, .int .i64 a0_3, .bool a0_4], .agg #[.int .i64 a1_0, .int .i64 a1_1, .int .i64 a1_2, .slice A1_3 l1_3.length c1_3, .slice A1_4 l1_4.length c1_4, .slice A1_5 l1_5.length c1_5], .string (rdOf ByteArray.empty y597 x40_2), .slice none 0 0, .int .i64 2] rfl ql_ ?_; (refine (Lwflaw.calls k2 a0_0 a0_1 a0_2 a0_3 a0_4 a1_0 a1_1 a1_2 _ _ l1_3 _ _ l1_4 _ _ l1_5 (rdOf ByteArray.empty y597 x40_2) _ _ ([] : List Int) 2 t601 true _ ?s1 ?s2 ?s3 ?s4 ?s5 ?s6 ?s7 ?s8 A34.out).mono ?_); (case s1 => exact qc_ HR1_3); (case s2 => exact HC1_3.out); (case s3 => exact qc_ HR1_4); (case s4 => exact HC1_4.out); (case s5 => exact qc_ HR1_5); (case s6 => exact HC1_5.out); (case s7 => exact Kd.C_nil _ _); (case s8 => exact Nat.le_refl _); rintro e w46 ⟨rfl, hb⟩; refine ⟨_, rfl, ?_⟩; replace HO_38 := qrb_ HO_38 hb; replace BK591 := qkb_ BK591 hb; replace BK592 := qkb_ BK592 hb; replace HB := qbs_ hb; (try clear hb); (try clear hb2); (try clear hk); (try clear hi); obtain ⟨z'47_0, z'47_1, z'47_2, z'47_3, z'47_4, z'47_5⟩ := qz6_ BK592; obtain ⟨y'47_0, y'47_1, y'47_2, y'47_3, y'47_4, y'47_5⟩ := qf6_ BK592) | (go_at_call 28; (with_reducible refine (RfHas.calls k2 _ _ l1_3 (rdOf ByteArray.empty y597 x40_2) t603 _ ?s1 ?s2 A36.out).mono ?_); (case s1 => exact qc_ HR1_3); (case s2 => exact HC1_3.out); rintro e w' ⟨rfl, ⟨nd, rfl⟩⟩))
           go_roundg k2
           case measure => have := HJ5.out; have := HK2.out; omega
           case rel => exact ⟨(wrap64 (x40_2 + 1)), qs_, H', ⟨by have := HJ5.out; have := HK2.out; omega⟩, ⟨by (with_reducible repeat (first | apply Kd.R_alloc | apply Kd.R_drewN | apply Kd.R_drew)); exact HO_38.out⟩, ⟨qk_ BK591⟩, ⟨qk_ BK592⟩, ⟨qb_⟩⟩
         ·replace c35 := Bool.eq_false_iff.mpr c35
          subst c35
          have H1 : (some false) = some r := by rw [if_neg (show ¬ (false = true) by decide)] at H; exact H
          clear H
          have H := H1
          clear H1
          obtain rfl := Option.some.inj H
          have p600 : 0 ≤ (x40_2 : Int) := of_decide_eq_true qa_
          have q600 : x40_2 < (y597.length : Int) := of_decide_eq_true qa_
          obtain ⟨ad600, e600, hx600_0⟩ := Kd.at_string (Kd.R_reads' HO_38.out).2.2 x40_2 p600 q600
          cases e600
          replace p600 := eq_true p600
          replace q600 := eq_true q600
          have hnb48 := NB591_592.out
          have hnc48 := NB592_591.out
          obtain ⟨z'49_0, z'49_1, z'49_2, z'49_3, z'49_4⟩ := qz5_ BK591; obtain ⟨y'49_0, y'49_1, y'49_2, y'49_3, y'49_4⟩ := qf5_ BK591
          obtain ⟨z'50_0, z'50_1, z'50_2, z'50_3, z'50_4, z'50_5⟩ := qz6_ BK592; obtain ⟨y'50_0, y'50_1, y'50_2, y'50_3, y'50_4, y'50_5⟩ := qf6_ BK592
          go_wp2_with (first | ((with_reducible refine gate_callee (f := 27) rfl ?_); refine goesL_ (some 48) rfl rfl Try.func27 (by kernel_rfl) rfl #[.agg #[.int .i64 a0_0, .int .i64 a0_1, .int .i64 a0_2, .int .i64 a0_3, .bool a0_4], .agg #[.int .i64 a1_0, .int .i64 a1_1, .int .i64 a1_2, .slice A1_3 l1_3.length c1_3, .slice A1_4 l1_4.length c1_4, .slice A1_5 l1_5.length c1_5], .string (rdOf ByteArray.empty y597 x40_2), .slice none 0 0, .int .i64 2] rfl ql_ ?_; (refine (Lwflaw.calls k2 a0_0 a0_1 a0_2 a0_3 a0_4 a1_0 a1_1 a1_2 _ _ l1_3 _ _ l1_4 _ _ l1_5 (rdOf ByteArray.empty y597 x40_2) _ _ ([] : List Int) 2 t601 false _ ?s1 ?s2 ?s3 ?s4 ?s5 ?s6 ?s7 ?s8 A34.out).mono ?_); (case s1 => exact qc_ HR1_3); (case s2 => exact HC1_3.out); (case s3 => exact qc_ HR1_4); (case s4 => exact HC1_4.out); (case s5 => exact qc_ HR1_5); (case s6 => exact HC1_5.out); (case s7 => exact Kd.C_nil _ _); (case s8 => exact Nat.le_refl _); rintro e w51 ⟨rfl, hb⟩; refine ⟨_, rfl, ?_⟩; replace HO_38 := qrb_ HO_38 hb; replace BK591 := qkb_ BK591 hb; replace BK592 := qkb_ BK592 hb; replace HB := qbs_ hb; (try clear hb); (try clear hb2); (try clear hk); (try clear hi)))
          go_ret
          exact ⟨qx_, qb_⟩
        ·rw [if_neg c33] at H
         exact absurd H (by simp)
       ·rw [if_neg c32] at H
        exact absurd H (by simp)
      ·rw [if_neg c31] at H
       have c31b0 : decide (x40_2 < (y597.length : Int)) = false := decide_eq_false c31
       clear c31
       obtain ⟨y604, hy604⟩ : ∃ y_ : List Int, y_ = (([1, 3, 4] : List Int)) := ⟨_, rfl⟩
       replace H : (LwMeetingAgenda.l1 k2 a2 a3 t593 y604 (y604.length : Int) 0 a0_0 a0_1 a0_2 a0_3 a0_4 a1_0 a1_1 a1_2 l1_3 l1_4 l1_5) = some r := by first | (rw [hy604]; with_reducible exact H) | (have H2_ := (Option.bind_some _ _).symm.trans H; rw [hy604]; with_reducible exact H2_) | (have H2_ := (Option.bind_some _ _).symm.trans H; with_reducible exact H2_) | with_reducible exact H | (rw [hy604]; exact H) | exact H
       have Ny604 := Aside0.mk hy604
       clear hy604
       have H' := Aside0.mk H
       clear H
       go_wp2_with (first | ((with_reducible refine gate_dst (N := 62) rfl ?_); refine Kd.R_lit (Kd.int .i64) _ 3 ?hg (N := 62) ?hd (xs := ([1, 3, 4] : List Int)) (inner := [.int .i64 1, .int .i64 3, .int .i64 4]) (ok := fun _ => True) (okp := fun _ => True) ?hr ?hp (fun _ hk => hk) trivial (Below.refl _ _) (Nat.le_refl _) (by simp) ?_; (case hd => rfl); (case hg => rfl); (case hr => exact qq_); (case hp => exact (Reps.one (show Kd.M (Kd.int .i64) _ _ _ 1 [.int .i64 1] from rfl) (Reps.one (show Kd.M (Kd.int .i64) _ _ _ 3 [.int .i64 3] from rfl) (Reps.one (show Kd.M (Kd.int .i64) _ _ _ 4 [.int .i64 4] from rfl) (Reps.none _ _))))); intro v605 w52 ho53 hb hg_ hnew_; clear hg_ hnew_; (first | rw [← Ny604.out] at ho53 | (simp only [Int.reduceToNat] at ho53; rw [← Ny604.out] at ho53)); replace HO_38 := qrb_ HO_38 hb; have HO606 := Aside0.mk (Kd.R_lower ho53 (below_size qb_)); replace BK591 := qkb_ BK591 hb; replace BK592 := qkb_ BK592 hb; replace HB := qbs_ hb; clear hb ho53; obtain ⟨Ao54, co54, eo54⟩ := Kd.R_slice HO606.out; subst eo54))
       go_loopg [64] k2 (fun kq v64 w' => ∃ (x64_3 : Int), v64 = .int .i64 x64_3 ∧ Aside0 (LwMeetingAgenda.l1 kq a2 a3 t593 y604 (y604.length : Int) x64_3 a0_0 a0_1 a0_2 a0_3 a0_4 a1_0 a1_1 a1_2 l1_3 l1_4 l1_5 = some r) ∧ Aside0 (kq ≤ k2) ∧ Aside0 (Kd.R (Kd.int .i64) 3 w' w.heap.size (fun _ => True) (.slice Ao54 y604.length co54) y604) ∧ Aside0 (w'.heap[gb591]? = some (.cells #[.int .i64 a0_0, .int .i64 a0_1, .int .i64 a0_2, .int .i64 a0_3, .bool a0_4] 25 (0, 0))) ∧ Aside0 (w'.heap[gb592]? = some (.cells #[.int .i64 a1_0, .int .i64 a1_1, .int .i64 a1_2, (.slice A1_3 l1_3.length c1_3), (.slice A1_4 l1_4.length c1_4), (.slice A1_5 l1_5.length c1_5)] 30 (0, 0))) ∧ Aside0 (Below w.heap.size w w'))
       case atStart => exact ⟨(0), qs_, H', ⟨Nat.le_refl _⟩, ⟨by (with_reducible repeat (first | apply Kd.R_alloc | apply Kd.R_drewN | apply Kd.R_drew)); exact HO606.out⟩, ⟨qk_ BK591⟩, ⟨qk_ BK592⟩, ⟨qb_⟩⟩
       case round =>
        clear H'
        try clear c1
        try clear c2
        try clear p2
        try clear c3
        try clear c4
        try clear p6
        try clear q6
        try clear hx6
        try clear c8
        try clear c11
        try clear c13
        try clear c15
        try clear c19
        try clear c22
        try clear c23
        try clear c27
        try clear c31
        try clear c31b0
        try clear c32
        try clear c32b0
        try clear c33
        try clear c33b0
        try clear c35
        try clear c37
        try clear c37b0
        try clear c37b1
        try clear c37b2
        try clear c38
        try clear c43
        try clear c48
        try clear z'16_0 z'16_1 z'16_2 z'16_3 z'16_4
        try clear z'17_0 z'17_1 z'17_2 z'17_3 z'17_4 z'17_5
        try clear z'20_0 z'20_1 z'20_2 z'20_3 z'20_4
        try clear z'21_0 z'21_1 z'21_2 z'21_3 z'21_4 z'21_5
        try clear z'24_0 z'24_1 z'24_2 z'24_3 z'24_4
        try clear z'25_0 z'25_1 z'25_2 z'25_3 z'25_4 z'25_5
        try clear z'39_0 z'39_1 z'39_2 z'39_3 z'39_4
        try clear z'40_0 z'40_1 z'40_2 z'40_3 z'40_4 z'40_5
        try clear z'42_0 z'42_1 z'42_2 z'42_3 z'42_4 z'42_5
        try clear z'44_0 z'44_1 z'44_2 z'44_3 z'44_4
        try clear z'45_0 z'45_1 z'45_2 z'45_3 z'45_4 z'45_5
        try clear z'47_0 z'47_1 z'47_2 z'47_3 z'47_4 z'47_5
        try clear z'49_0 z'49_1 z'49_2 z'49_3 z'49_4
        try clear z'50_0 z'50_1 z'50_2 z'50_3 z'50_4 z'50_5
        try clear y'16_0 y'16_1 y'16_2 y'16_3 y'16_4
        try clear y'17_0 y'17_1 y'17_2 y'17_3 y'17_4 y'17_5
        try clear y'20_0 y'20_1 y'20_2 y'20_3 y'20_4
        try clear y'21_0 y'21_1 y'21_2 y'21_3 y'21_4 y'21_5
        try clear y'24_0 y'24_1 y'24_2 y'24_3 y'24_4
        try clear y'25_0 y'25_1 y'25_2 y'25_3 y'25_4 y'25_5
        try clear y'39_0 y'39_1 y'39_2 y'39_3 y'39_4
        try clear y'40_0 y'40_1 y'40_2 y'40_3 y'40_4 y'40_5
        try clear y'42_0 y'42_1 y'42_2 y'42_3 y'42_4 y'42_5
        try clear y'44_0 y'44_1 y'44_2 y'44_3 y'44_4
        try clear y'45_0 y'45_1 y'45_2 y'45_3 y'45_4 y'45_5
        try clear y'47_0 y'47_1 y'47_2 y'47_3 y'47_4 y'47_5
        try clear y'49_0 y'49_1 y'49_2 y'49_3 y'49_4
        try clear y'50_0 y'50_1 y'50_2 y'50_3 y'50_4 y'50_5
        try clear hx600_0
        try clear p2
        try clear p600
        try clear q600
        obtain ⟨x64_3, rfl, HA, HK3, HO_62, BK591, BK592, HB⟩ := hrel
        cases gk with
        | zero => exact absurd HA.out (by simp [LwMeetingAgenda.l1])
        | succ k3 =>
         have H := HA.out
         clear HA
         simp only [LwMeetingAgenda.l1] at H
         by_cases c55 : x64_3 < (y604.length : Int)
         ·rw [if_pos c55] at H
          have c55b0 : decide (x64_3 < (y604.length : Int)) = true := decide_eq_true c55
          clear c55
          by_cases c56 : 0 ≤ x64_3
          ·rw [if_pos c56] at H
           have c56b0 : decide (0 ≤ x64_3) = true := decide_eq_true c56
           clear c56
           by_cases c57 : x64_3 < (y604.length : Int)
           ·rw [if_pos c57] at H
            have c57b0 : decide (x64_3 < (y604.length : Int)) = true := decide_eq_true c57
            clear c57
            replace H := Option.bind_eq_some_iff.mp H
            obtain ⟨⟨t608, t609⟩, A580, H⟩ := H
            replace H : ((Lwflaw.f k3 a0_0 a0_1 a0_2 a0_3 a0_4 a1_0 a1_1 a1_2 l1_3 l1_4 l1_5 a3 ([] : List Int) (rd y604 x64_3)).bind fun bt610 => (if (t608 != bt610.1) = true then (LwMeetingAgenda.j3 k3 a2 a3 t593 y604 (y604.length : Int) x64_3 true a0_0 a0_1 a0_2 a0_3 a0_4 a1_0 a1_1 a1_2 l1_3 l1_4 l1_5) else (if t609 = true then (LwMeetingAgenda.j3 k3 a2 a3 t593 y604 (y604.length : Int) x64_3 (!bt610.2) a0_0 a0_1 a0_2 a0_3 a0_4 a1_0 a1_1 a1_2 l1_3 l1_4 l1_5) else (LwMeetingAgenda.j3 k3 a2 a3 t593 y604 (y604.length : Int) x64_3 true a0_0 a0_1 a0_2 a0_3 a0_4 a1_0 a1_1 a1_2 l1_3 l1_4 l1_5)))) = some r := H
            have A58 := Aside0.mk A580
            clear A580
            replace H := Option.bind_eq_some_iff.mp H
            obtain ⟨⟨t610, t611⟩, A590, H⟩ := H
            replace H : (if (t608 != t610) = true then (LwMeetingAgenda.j3 k3 a2 a3 t593 y604 (y604.length : Int) x64_3 true a0_0 a0_1 a0_2 a0_3 a0_4 a1_0 a1_1 a1_2 l1_3 l1_4 l1_5) else (if t609 = true then (LwMeetingAgenda.j3 k3 a2 a3 t593 y604 (y604.length : Int) x64_3 (!t611) a0_0 a0_1 a0_2 a0_3 a0_4 a1_0 a1_1 a1_2 l1_3 l1_4 l1_5) else (LwMeetingAgenda.j3 k3 a2 a3 t593 y604 (y604.length : Int) x64_3 true a0_0 a0_1 a0_2 a0_3 a0_4 a1_0 a1_1 a1_2 l1_3 l1_4 l1_5))) = some r := H
            have A59 := Aside0.mk A590
            clear A590
            have HC60 := Aside0.mk H
            clear H
            have p607 : 0 ≤ (x64_3 : Int) := of_decide_eq_true qa_
            have q607 : x64_3 < (y604.length : Int) := of_decide_eq_true qa_
            obtain ⟨ad607, e607, hx607_0⟩ := Kd.at_int (Kd.R_reads' HO_62.out).2.2 x64_3 p607 q607
            cases e607
            replace p607 := eq_true p607
            replace q607 := eq_true q607
            have hnb61 := NB591_592.out
            have hnc61 := NB592_591.out
            obtain ⟨z'62_0, z'62_1, z'62_2, z'62_3, z'62_4⟩ := qz5_ BK591; obtain ⟨y'62_0, y'62_1, y'62_2, y'62_3, y'62_4⟩ := qf5_ BK591
            obtain ⟨z'63_0, z'63_1, z'63_2, z'63_3, z'63_4, z'63_5⟩ := qz6_ BK592; obtain ⟨y'63_0, y'63_1, y'63_2, y'63_3, y'63_4, y'63_5⟩ := qf6_ BK592
            go_upto_region 16 with (first | ((with_reducible refine gate_callee (f := 27) rfl ?_); refine goesL_ (some 73) rfl rfl Try.func27 (by kernel_rfl) rfl #[.agg #[.int .i64 a0_0, .int .i64 a0_1, .int .i64 a0_2, .int .i64 a0_3, .bool a0_4], .agg #[.int .i64 a1_0, .int .i64 a1_1, .int .i64 a1_2, .slice A1_3 l1_3.length c1_3, .slice A1_4 l1_4.length c1_4, .slice A1_5 l1_5.length c1_5], .string a2, .slice none 0 0, .int .i64 (rd y604 x64_3)] rfl ql_ ?_; (refine (Lwflaw.calls k3 a0_0 a0_1 a0_2 a0_3 a0_4 a1_0 a1_1 a1_2 _ _ l1_3 _ _ l1_4 _ _ l1_5 a2 _ _ ([] : List Int) (rd y604 x64_3) t608 t609 _ ?s1 ?s2 ?s3 ?s4 ?s5 ?s6 ?s7 ?s8 A58.out).mono ?_); (case s1 => exact qc_ HR1_3); (case s2 => exact HC1_3.out); (case s3 => exact qc_ HR1_4); (case s4 => exact HC1_4.out); (case s5 => exact qc_ HR1_5); (case s6 => exact HC1_5.out); (case s7 => exact Kd.C_nil _ _); (case s8 => exact Nat.le_refl _); rintro e w64 ⟨rfl, hb⟩; refine ⟨_, rfl, ?_⟩; replace HO_62 := qrb_ HO_62 hb; replace BK591 := qkb_ BK591 hb; replace BK592 := qkb_ BK592 hb; replace HB := qbs_ hb; (try clear hb); (try clear hb2); (try clear hk); (try clear hi); obtain ⟨z'65_0, z'65_1, z'65_2, z'65_3, z'65_4⟩ := qz5_ BK591; obtain ⟨y'65_0, y'65_1, y'65_2, y'65_3, y'65_4⟩ := qf5_ BK591; obtain ⟨z'66_0, z'66_1, z'66_2, z'66_3, z'66_4, z'66_5⟩ := qz6_ BK592; obtain ⟨y'66_0, y'66_1, y'66_2, y'66_3, y'66_4, y'66_5⟩ := qf6_ BK592) | ((with_reducible refine gate_callee (f := 27) rfl ?_); refine goesL_ (some 81) rfl rfl Try.func27 (by kernel_rfl) rfl #[.agg #[.int .i64 a0_0, .int .i64 a0_1, .int .i64 a0_2, .int .i64 a0_3, .bool a0_4], .agg #[.int .i64 a1_0, .int .i64 a1_1, .int .i64 a1_2, .slice A1_3 l1_3.length c1_3, .slice A1_4 l1_4.length c1_4, .slice A1_5 l1_5.length c1_5], .string a3, .slice none 0 0, .int .i64 (rd y604 x64_3)] rfl ql_ ?_; (refine (Lwflaw.calls k3 a0_0 a0_1 a0_2 a0_3 a0_4 a1_0 a1_1 a1_2 _ _ l1_3 _ _ l1_4 _ _ l1_5 a3 _ _ ([] : List Int) (rd y604 x64_3) t610 t611 _ ?s1 ?s2 ?s3 ?s4 ?s5 ?s6 ?s7 ?s8 A59.out).mono ?_); (case s1 => exact qc_ HR1_3); (case s2 => exact HC1_3.out); (case s3 => exact qc_ HR1_4); (case s4 => exact HC1_4.out); (case s5 => exact qc_ HR1_5); (case s6 => exact HC1_5.out); (case s7 => exact Kd.C_nil _ _); (case s8 => exact Nat.le_refl _); rintro e w67 ⟨rfl, hb⟩; refine ⟨_, rfl, ?_⟩; replace HO_62 := qrb_ HO_62 hb; replace BK591 := qkb_ BK591 hb; replace BK592 := qkb_ BK592 hb; replace HB := qbs_ hb; (try clear hb); (try clear hb2); (try clear hk); (try clear hi)))
            (try simp only [Act.put, List.setIfInBounds_toArray, List.set_cons_zero, List.set_cons_succ])
            go_cut [94] (fun v94 wc => ∃ (kq : Nat) (x94_59 : Bool), v94 = .bool x94_59 ∧ Aside0 (LwMeetingAgenda.j3 kq a2 a3 t593 y604 (y604.length : Int) x64_3 x94_59 a0_0 a0_1 a0_2 a0_3 a0_4 a1_0 a1_1 a1_2 l1_3 l1_4 l1_5 = some r) ∧ Aside0 (kq ≤ k3) ∧ Aside0 (Kd.R (Kd.int .i64) 3 wc w.heap.size (fun _ => True) (.slice (some ad607) y604.length co54) y604) ∧ Aside0 (wc.heap[gb591]? = some (.cells #[.int .i64 a0_0, .int .i64 a0_1, .int .i64 a0_2, .int .i64 a0_3, .bool a0_4] 25 (0, 0))) ∧ Aside0 (wc.heap[gb592]? = some (.cells #[.int .i64 a1_0, .int .i64 a1_1, .int .i64 a1_2, (.slice A1_3 l1_3.length c1_3), (.slice A1_4 l1_4.length c1_4), (.slice A1_5 l1_5.length c1_5)] 30 (0, 0))) ∧ Aside0 (Below w.heap.size w wc))
            case first =>
             have H := HC60.out
             clear HC60
             by_cases c68 : (t608 != t610) = true
             ·rw [if_pos c68] at H
              have c68b0 : (t608 != t610) = true := c68
              (try (have c68b1 : decide (t608 = t610) = false := by simpa using c68))
              (try (have c68b2 : (t608 == t610) = false := by simpa using c68))
              (try (have c68b3 : ¬ (t608 = t610) := by simpa using c68))
              clear c68
              (first | rw [c68b0] | (simp only [i64_w, i32_w]; rw [c68b0]) | skip)
              have H' := Aside0.mk H
              clear H
              go_wp2
              go_meet
              case rel => exact ⟨_, (true), qs_, H', ⟨by have := HJ5.out; have := HK2.out; have := HK3.out; first | omega | exact Nat.le_refl _⟩, ⟨by (with_reducible repeat (first | apply Kd.R_alloc | apply Kd.R_drewN | apply Kd.R_drew)); exact HO_62.out⟩, ⟨qk_ BK591⟩, ⟨qk_ BK592⟩, ⟨qb_⟩⟩
             ·rw [if_neg c68] at H
              have c68b0 : (t608 != t610) = false := by simpa using c68
              (try (have c68b1 : decide (t608 = t610) = true := by simpa using c68))
              (try (have c68b2 : (t608 == t610) = true := by simpa using c68))
              clear c68
              (first | rw [c68b0] | (simp only [i64_w, i32_w]; rw [c68b0]) | skip)
              by_cases c69 : t609 = true
              ·subst c69
               have H1 : (LwMeetingAgenda.j3 k3 a2 a3 t593 y604 (y604.length : Int) x64_3 (!t611) a0_0 a0_1 a0_2 a0_3 a0_4 a1_0 a1_1 a1_2 l1_3 l1_4 l1_5) = some r := by rw [if_pos rfl] at H; exact H
               clear H
               have H := H1
               clear H1
               have H' := Aside0.mk H
               clear H
               go_wp2
               go_meet
               case rel => exact ⟨_, (!t611), qs_, H', ⟨by have := HJ5.out; have := HK2.out; have := HK3.out; first | omega | exact Nat.le_refl _⟩, ⟨by (with_reducible repeat (first | apply Kd.R_alloc | apply Kd.R_drewN | apply Kd.R_drew)); exact HO_62.out⟩, ⟨qk_ BK591⟩, ⟨qk_ BK592⟩, ⟨qb_⟩⟩
              ·replace c69 := Bool.eq_false_iff.mpr c69
               subst c69
               have H1 : (LwMeetingAgenda.j3 k3 a2 a3 t593 y604 (y604.length : Int) x64_3 true a0_0 a0_1 a0_2 a0_3 a0_4 a1_0 a1_1 a1_2 l1_3 l1_4 l1_5) = some r := by rw [if_neg (show ¬ (false = true) by decide)] at H; exact H
               clear H
               have H := H1
               clear H1
               have H' := Aside0.mk H
               clear H
               go_wp2
               go_meet
               case rel => exact ⟨_, (true), qs_, H', ⟨by have := HJ5.out; have := HK2.out; have := HK3.out; first | omega | exact Nat.le_refl _⟩, ⟨by (with_reducible repeat (first | apply Kd.R_alloc | apply Kd.R_drewN | apply Kd.R_drew)); exact HO_62.out⟩, ⟨qk_ BK591⟩, ⟨qk_ BK592⟩, ⟨qb_⟩⟩
            case rest =>
             clear HC60
             try clear c1
             try clear c2
             try clear p2
             try clear c3
             try clear c4
             try clear c5
             try clear c6
             try clear p6
             try clear q6
             try clear hx6
             try clear c8
             try clear c11
             try clear c13
             try clear c15
             try clear c19
             try clear c22
             try clear c23
             try clear c27
             try clear c31
             try clear c31b0
             try clear c32
             try clear c32b0
             try clear c33
             try clear c33b0
             try clear c35
             try clear c37
             try clear c37b0
             try clear c37b1
             try clear c37b2
             try clear c38
             try clear c43
             try clear c48
             try clear c55
             try clear c55b0
             try clear c56
             try clear c56b0
             try clear c57
             try clear c57b0
             try clear p60
             try clear q60
             try clear hx60
             try clear c61
             try clear p64
             try clear c68
             try clear c68b0
             try clear c68b1
             try clear c68b2
             try clear c69
             try clear z'16_0 z'16_1 z'16_2 z'16_3 z'16_4
             try clear z'17_0 z'17_1 z'17_2 z'17_3 z'17_4 z'17_5
             try clear z'20_0 z'20_1 z'20_2 z'20_3 z'20_4
             try clear z'21_0 z'21_1 z'21_2 z'21_3 z'21_4 z'21_5
             try clear z'24_0 z'24_1 z'24_2 z'24_3 z'24_4
             try clear z'25_0 z'25_1 z'25_2 z'25_3 z'25_4 z'25_5
             try clear z'39_0 z'39_1 z'39_2 z'39_3 z'39_4
             try clear z'40_0 z'40_1 z'40_2 z'40_3 z'40_4 z'40_5
             try clear z'42_0 z'42_1 z'42_2 z'42_3 z'42_4 z'42_5
             try clear z'44_0 z'44_1 z'44_2 z'44_3 z'44_4
             try clear z'45_0 z'45_1 z'45_2 z'45_3 z'45_4 z'45_5
             try clear z'47_0 z'47_1 z'47_2 z'47_3 z'47_4 z'47_5
             try clear z'49_0 z'49_1 z'49_2 z'49_3 z'49_4
             try clear z'50_0 z'50_1 z'50_2 z'50_3 z'50_4 z'50_5
             try clear z'62_0 z'62_1 z'62_2 z'62_3 z'62_4
             try clear z'63_0 z'63_1 z'63_2 z'63_3 z'63_4 z'63_5
             try clear z'65_0 z'65_1 z'65_2 z'65_3 z'65_4
             try clear z'66_0 z'66_1 z'66_2 z'66_3 z'66_4 z'66_5
             try clear y'16_0 y'16_1 y'16_2 y'16_3 y'16_4
             try clear y'17_0 y'17_1 y'17_2 y'17_3 y'17_4 y'17_5
             try clear y'20_0 y'20_1 y'20_2 y'20_3 y'20_4
             try clear y'21_0 y'21_1 y'21_2 y'21_3 y'21_4 y'21_5
             try clear y'24_0 y'24_1 y'24_2 y'24_3 y'24_4
             try clear y'25_0 y'25_1 y'25_2 y'25_3 y'25_4 y'25_5
             try clear y'39_0 y'39_1 y'39_2 y'39_3 y'39_4
             try clear y'40_0 y'40_1 y'40_2 y'40_3 y'40_4 y'40_5
             try clear y'42_0 y'42_1 y'42_2 y'42_3 y'42_4 y'42_5
             try clear y'44_0 y'44_1 y'44_2 y'44_3 y'44_4
             try clear y'45_0 y'45_1 y'45_2 y'45_3 y'45_4 y'45_5
             try clear y'47_0 y'47_1 y'47_2 y'47_3 y'47_4 y'47_5
             try clear y'49_0 y'49_1 y'49_2 y'49_3 y'49_4
             try clear y'50_0 y'50_1 y'50_2 y'50_3 y'50_4 y'50_5
             try clear y'62_0 y'62_1 y'62_2 y'62_3 y'62_4
             try clear y'63_0 y'63_1 y'63_2 y'63_3 y'63_4 y'63_5
             try clear y'65_0 y'65_1 y'65_2 y'65_3 y'65_4
             try clear y'66_0 y'66_1 y'66_2 y'66_3 y'66_4 y'66_5
             try clear hx600_0
             try clear hx607_0
             try clear p2
             try clear p6
             try clear p600
             try clear p607
             try clear q6
             try clear q600
             try clear q607
             obtain ⟨kq, x94_59, rfl, HA, HJ59, HO_62, BK591, BK592, HB⟩ := hcut
             cases kq with
             | zero => exact absurd HA.out (by simp [LwMeetingAgenda.j3])
             | succ kj59 =>
              have H := HA.out
              clear HA
              simp only [LwMeetingAgenda.j3] at H
              by_cases c70 : x94_59 = true
              ·subst c70
               have H1 : (some false) = some r := by rw [if_pos rfl] at H; exact H
               clear H
               have H := H1
               clear H1
               obtain rfl := Option.some.inj H
               go_wp2
               go_ret
               exact ⟨qx_, qb_⟩
              ·replace c70 := Bool.eq_false_iff.mpr c70
               subst c70
               have H1 : (LwMeetingAgenda.l1 kj59 a2 a3 t593 y604 (y604.length : Int) (wrap64 (x64_3 + 1)) a0_0 a0_1 a0_2 a0_3 a0_4 a1_0 a1_1 a1_2 l1_3 l1_4 l1_5) = some r := by rw [if_neg (show ¬ (false = true) by decide)] at H; exact H
               clear H
               have H := H1
               clear H1
               have H' := Aside0.mk H
               clear H
               go_wp2
               go_roundg kj59
               case measure => have := HJ5.out; have := HK2.out; have := HK3.out; have := HJ59.out; omega
               case rel => exact ⟨(wrap64 (x64_3 + 1)), qs_, H', ⟨by have := HJ5.out; have := HK2.out; have := HK3.out; have := HJ59.out; omega⟩, ⟨by (with_reducible repeat (first | apply Kd.R_alloc | apply Kd.R_drewN | apply Kd.R_drew)); exact HO_62.out⟩, ⟨qk_ BK591⟩, ⟨qk_ BK592⟩, ⟨qb_⟩⟩
           ·rw [if_neg c57] at H
            exact absurd H (by simp)
          ·rw [if_neg c56] at H
           exact absurd H (by simp)
         ·rw [if_neg c55] at H
          have c55b0 : decide (x64_3 < (y604.length : Int)) = false := decide_eq_false c55
          clear c55
          obtain rfl := Option.some.inj H
          go_wp2
          go_ret
          exact ⟨qx_, qb_⟩
end Go.Proofs.Ytemnlgefngjliaa.Px
