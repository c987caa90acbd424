/- Contracts of Go functions, printed. Conditions: as each theorem states. -/
import Derived.Test.YtemnlgefngjliaaPx0
import Derived.Test.YtemnlgefngjliaaPx13
import Derived.Test.YtemnlgefngjliaaPx14
import Derived.Test.YtemnlgefngjliaaPx15
import Derived.Test.YtemnlgefngjliaaPx16
import Derived.Test.YtemnlgefngjliaaPx21
import Derived.Test.YtemnlgefngjliaaPx23
import Derived.Test.YtemnlgefngjliaaPx28
import Derived.Test.YtemnlgefngjliaaPx29
import Derived.Test.YtemnlgefngjliaaGFlaws
namespace Go.Proofs.Ytemnlgefngjliaa.Px
open Go.Proofs.Ytemnlgefngjliaa.Given
open Go.RowKit Go.Proofs.YtemnlgefngjliaaW.PrintWords Go.Proofs.YtemnlgefngjliaaW.PrintLast Go.Proofs.YtemnlgefngjliaaW.PrintMore
attribute [local go_sem] max2_int min2_int max_two min_two max_three min_three max_four min_four
set_option linter.unusedVariables false
set_option linter.unusedSimpArgs false
mutual
def LwMeetingMatchesReference.j0 : Nat → ByteArray → List Int → Int → Int → Bool → Bool → Int → Int → Int → Int → Bool → Int → Int → Int → List ByteArray → List (S43) → List Int → Int → Int → Option (Bool)
 | 0, _, _, _, _, _, _, _, _, _, _, _, _, _, _, _, _, _, _, _ => none
 | k + 1, x2, x3, x4, x5, x15, x35, u0, u1, u2, u3, u4, u5, u6, u7, u8, u9, u10, u11, u12 => if x35 = true then (some x15) else ((MgWeights.f k u0 u1 u2 u3 u4 u5 u6 u7 u8 u9 u10).bind fun bt465 => ((RfWeights.f k u0 u1 u2 u3 u4 u5 u6 u7 u8 u9 u10).bind fun bt469 => (if x15 = true then ((MgValid.f k u5 u6 u7 u8 u9 u10).bind fun t473 => ((RfValid.f k u5 u6 u7 u8 u9 u10).bind fun t474 => (if (t473 == t474) = true then ((RfSameInts.f k bt465.1 bt469.1).bind fun t475 => (if t475 = true then (LwMeetingMatchesReference.j1 k x2 x3 x4 x5 (bt465.2 == bt469.2) u0 u1 u2 u3 u4 u5 u6 u7 u8 u9 u10 u11 u12) else (LwMeetingMatchesReference.j1 k x2 x3 x4 x5 false u0 u1 u2 u3 u4 u5 u6 u7 u8 u9 u10 u11 u12))) else (LwMeetingMatchesReference.j1 k x2 x3 x4 x5 false u0 u1 u2 u3 u4 u5 u6 u7 u8 u9 u10 u11 u12)))) else (LwMeetingMatchesReference.j1 k x2 x3 x4 x5 false u0 u1 u2 u3 u4 u5 u6 u7 u8 u9 u10 u11 u12))))
def LwMeetingMatchesReference.j1 : Nat → ByteArray → List Int → Int → Int → Bool → Int → Int → Int → Int → Bool → Int → Int → Int → List ByteArray → List (S43) → List Int → Int → Int → Option (Bool)
 | 0, _, _, _, _, _, _, _, _, _, _, _, _, _, _, _, _, _, _ => none
 | k + 1, x2, x3, x4, x5, x15, u0, u1, u2, u3, u4, u5, u6, u7, u8, u9, u10, u11, u12 => (MgFlaws.f k u0 u1 u2 u3 u4 u5 u6 u7 u8 u9 u10 x2 x3).bind fun bt476 => ((RfFlaws.f k u0 u1 u2 u3 u4 u5 u6 u7 u8 u9 u10 x2 x3).bind fun bt480 => (if x15 = true then ((RfSameInts.f k bt476.1 bt480.1).bind fun t484 => (if t484 = true then (LwMeetingMatchesReference.j2 k x4 x5 (bt476.2 == bt480.2) u11 u12) else (LwMeetingMatchesReference.j2 k x4 x5 false u11 u12))) else (LwMeetingMatchesReference.j2 k x4 x5 false u11 u12)))
def LwMeetingMatchesReference.j2 : Nat → Int → Int → Bool → Int → Int → Option (Bool)
 | 0, _, _, _, _, _ => none
 | k + 1, x4, x5, x15, u11, u12 => (MgPassed.f k x4 x5 u11 u12).bind fun bt485 => ((RfPassed.f k x4 x5 u11 u12).bind fun bt487 => (if x15 = true then (if (bt485.1 == bt487.1) = true then (some (bt485.2 == bt487.2)) else (some false)) else (some false)))
end
def LwMeetingMatchesReference.f (k : Nat) (a0_0 a0_1 a0_2 a0_3 : Int) (a0_4 : Bool) (a1_0 a1_1 a1_2 : Int) (l1_3 : List ByteArray) (l1_4 : List (S43)) (l1_5 : List Int) (a2 : ByteArray) (l3 : List Int) (a4 a5 a6_0 a6_1 : Int) : Option (Bool) := (Lwhead.f k).bind fun t463 => ((RfFew.f k a1_0 a1_1 a1_2 l1_3 l1_4 l1_5).bind fun t464 => (if t464 = true then (if (a2.size : Int) > 100 then (LwMeetingMatchesReference.j0 k a2 l3 a4 a5 t463 true a0_0 a0_1 a0_2 a0_3 a0_4 a1_0 a1_1 a1_2 l1_3 l1_4 l1_5 a6_0 a6_1) else (LwMeetingMatchesReference.j0 k a2 l3 a4 a5 t463 (decide ((l3.length : Int) > 150)) a0_0 a0_1 a0_2 a0_3 a0_4 a1_0 a1_1 a1_2 l1_3 l1_4 l1_5 a6_0 a6_1)) else (LwMeetingMatchesReference.j0 k a2 l3 a4 a5 t463 true a0_0 a0_1 a0_2 a0_3 a0_4 a1_0 a1_1 a1_2 l1_3 l1_4 l1_5 a6_0 a6_1)))
theorem LwMeetingMatchesReference.mono_l : ∀ k, (∀ y0 y1 y2 y3 y4 y5 y6 y7 y8 y9 y10 y11 y12 y13 y14 y15 y16 y17 y18, LeO (LwMeetingMatchesReference.j0 k y0 y1 y2 y3 y4 y5 y6 y7 y8 y9 y10 y11 y12 y13 y14 y15 y16 y17 y18) (LwMeetingMatchesReference.j0 (k + 1) y0 y1 y2 y3 y4 y5 y6 y7 y8 y9 y10 y11 y12 y13 y14 y15 y16 y17 y18)) ∧ (∀ y0 y1 y2 y3 y4 y5 y6 y7 y8 y9 y10 y11 y12 y13 y14 y15 y16 y17, LeO (LwMeetingMatchesReference.j1 k y0 y1 y2 y3 y4 y5 y6 y7 y8 y9 y10 y11 y12 y13 y14 y15 y16 y17) (LwMeetingMatchesReference.j1 (k + 1) y0 y1 y2 y3 y4 y5 y6 y7 y8 y9 y10 y11 y12 y13 y14 y15 y16 y17)) ∧ (∀ y0 y1 y2 y3 y4, LeO (LwMeetingMatchesReference.j2 k y0 y1 y2 y3 y4) (LwMeetingMatchesReference.j2 (k + 1) y0 y1 y2 y3 y4))
 | 0 => ⟨fun _ _ _ _ _ _ _ _ _ _ _ _ _ _ _ _ _ _ _ r h => by simp [LwMeetingMatchesReference.j0] at h, fun _ _ _ _ _ _ _ _ _ _ _ _ _ _ _ _ _ _ r h => by simp [LwMeetingMatchesReference.j1] at h, fun _ _ _ _ _ r h => by simp [LwMeetingMatchesReference.j2] at h⟩
 | k + 1 => by
  obtain ⟨ih0, ih1, ih2⟩ := LwMeetingMatchesReference.mono_l k
  refine ⟨?_, ?_, ?_⟩
  ·intro y0 y1 y2 y3 y4 y5 y6 y7 y8 y9 y10 y11 y12 y13 y14 y15 y16 y17 y18
   unfold LwMeetingMatchesReference.j0
   with_reducible (repeat' first | apply ih0 | apply ih1 | apply ih2 | apply Lwhead.mono | apply RfFew.mono | apply RfFlaws.mono | apply RfPassed.mono | apply RfSameInts.mono | apply RfValid.mono | apply RfWeights.mono | apply MgFlaws.mono | apply MgPassed.mono | apply MgValid.mono | apply MgWeights.mono | apply LeO.refl | apply LeO.none | apply LeO.ite | refine LeO.bind ?_ (fun _ => ?_))
  ·intro y0 y1 y2 y3 y4 y5 y6 y7 y8 y9 y10 y11 y12 y13 y14 y15 y16 y17
   unfold LwMeetingMatchesReference.j1
   with_reducible (repeat' first | apply ih0 | apply ih1 | apply ih2 | apply Lwhead.mono | apply RfFew.mono | apply RfFlaws.mono | apply RfPassed.mono | apply RfSameInts.mono | apply RfValid.mono | apply RfWeights.mono | apply MgFlaws.mono | apply MgPassed.mono | apply MgValid.mono | apply MgWeights.mono | apply LeO.refl | apply LeO.none | apply LeO.ite | refine LeO.bind ?_ (fun _ => ?_))
  ·intro y0 y1 y2 y3 y4
   unfold LwMeetingMatchesReference.j2
   with_reducible (repeat' first | apply ih0 | apply ih1 | apply ih2 | apply Lwhead.mono | apply RfFew.mono | apply RfFlaws.mono | apply RfPassed.mono | apply RfSameInts.mono | apply RfValid.mono | apply RfWeights.mono | apply MgFlaws.mono | apply MgPassed.mono | apply MgValid.mono | apply MgWeights.mono | apply LeO.refl | apply LeO.none | apply LeO.ite | refine LeO.bind ?_ (fun _ => ?_))
theorem LwMeetingMatchesReference.mono : ∀ a0 a1 a2 a3 a4 a5 a6 a7 a8 a9 a10 a11 a12 a13 a14 a15 a16 k, LeO (LwMeetingMatchesReference.f k a0 a1 a2 a3 a4 a5 a6 a7 a8 a9 a10 a11 a12 a13 a14 a15 a16) (LwMeetingMatchesReference.f (k + 1) a0 a1 a2 a3 a4 a5 a6 a7 a8 a9 a10 a11 a12 a13 a14 a15 a16) := by
 intro a0 a1 a2 a3 a4 a5 a6 a7 a8 a9 a10 a11 a12 a13 a14 a15 a16 k
 obtain ⟨ih0, ih1, ih2⟩ := LwMeetingMatchesReference.mono_l k
 unfold LwMeetingMatchesReference.f
 with_reducible (repeat' first | apply ih0 | apply ih1 | apply ih2 | apply Lwhead.mono | apply RfFew.mono | apply RfFlaws.mono | apply RfPassed.mono | apply RfSameInts.mono | apply RfValid.mono | apply RfWeights.mono | apply MgFlaws.mono | apply MgPassed.mono | apply MgValid.mono | apply MgWeights.mono | apply LeO.refl | apply LeO.none | apply LeO.ite | refine LeO.bind ?_ (fun _ => ?_))
def LwMeetingMatchesReference.T6 : Bool × List (List Nat × List Nat) := (true, [([], []), ([0], [0]), ([1], [1]), ([2, 1, 1], [1, 2]), ([1], [1]), ([4, 3, 1], [1, 4]), ([3, 5, 1], [1, 3, 5]), ([1, 6], [1, 6]), ([7, 5], [7]), ([8], [8]), ([8], [8]), ([9, 10, 8, 8], [8, 9, 10]), ([8, 11], [8, 11]), ([12, 11], [12]), ([13], [13]), ([13], [13]), ([14, 15, 13], [13, 14, 15]), ([13, 16], [13, 16]), ([17, 13, 0, 1, 2, 3, 4, 5, 6, 7, 8, 9, 10, 11, 12, 13, 14, 15, 16, 17], [0, 17])])
def LwMeetingMatchesReference.B6 : List Nat := [0, 1, 3, 7, 3, 31, 63, 127, 255, 511, 511, 2047, 4095, 8191, 16383, 16383, 65535, 131071, 262143]
theorem LwMeetingMatchesReference.tab6 : rtab .any (opsOf Try.f3 6) = LwMeetingMatchesReference.T6 := by kernel_rfl
theorem LwMeetingMatchesReference.bits6 : waitsOk LwMeetingMatchesReference.T6.2 LwMeetingMatchesReference.B6 = true := by kernel_rfl
set_option maxHeartbeats 8000000 in
set_option maxRecDepth 100000 in
theorem LwMeetingMatchesReference.calls (k : Nat) (a0_0 a0_1 a0_2 a0_3 : Int) (a0_4 : Bool) (a1_0 a1_1 a1_2 : Int) (A1_3 : Option Addr) (c1_3 : Nat) (l1_3 : List ByteArray) (A1_4 : Option Addr) (c1_4 : Nat) (l1_4 : List (S43)) (A1_5 : Option Addr) (c1_5 : Nat) (l1_5 : List Int) (a2 : ByteArray) (A3 : Option Addr) (c3 : Nat) (l3 : List Int) (a4 a5 a6_0 a6_1 : Int) (r : Bool) (w : World) (hr1_3 : Kd.C Kd.string w A1_3 l1_3.length l1_3) (hc1_3 : l1_3.length ≤ c1_3) (hr1_4 : Kd.C k43 w A1_4 l1_4.length l1_4) (hc1_4 : l1_4.length ≤ c1_4) (hr1_5 : Kd.C (Kd.int .i64) w A1_5 l1_5.length l1_5) (hc1_5 : l1_5.length ≤ c1_5) (hr3 : Kd.C (Kd.int .i64) w A3 l3.length l3) (hc3 : l3.length ≤ c3) (h : LwMeetingMatchesReference.f k a0_0 a0_1 a0_2 a0_3 a0_4 a1_0 a1_1 a1_2 l1_3 l1_4 l1_5 a2 l3 a4 a5 a6_0 a6_1 = some r) :
  Calls Try.prog 3 #[.agg #[.int .i64 a0_0, .int .i64 a0_1, .int .i64 a0_2, .int .i64 a0_3, .bool a0_4], .agg #[.int .i64 a1_0, .int .i64 a1_1, .int .i64 a1_2, .slice A1_3 l1_3.length c1_3, .slice A1_4 l1_4.length c1_4, .slice A1_5 l1_5.length c1_5], .string a2, .slice A3 l3.length c3, .int .i64 a4, .int .i64 a5, .agg #[.int .i64 a6_0, .int .i64 a6_1]] w fun e w' => e = .returned (.bool r) ∧ Below w.heap.size w w' := by
 have hu25 := Try.underlying25
 have hu30 := Try.underlying30
 have hu23 := Try.underlying23
 have HR1_3 := am_ hr1_3
 have HC1_3 := am_ hc1_3
 clear hr1_3 hc1_3
 have HR1_4 := am_ hr1_4
 have HC1_4 := am_ hc1_4
 clear hr1_4 hc1_4
 have HR1_5 := am_ hr1_5
 have HC1_5 := am_ hc1_5
 clear hr1_5 hc1_5
 have HR3 := am_ hr3
 have HC3 := am_ hc3
 clear hr3 hc3
 have HB := am_ (Below.refl w.heap.size w)
 have H : ((Lwhead.f k).bind fun t463 => ((RfFew.f k a1_0 a1_1 a1_2 l1_3 l1_4 l1_5).bind fun t464 => (if t464 = true then (if (a2.size : Int) > 100 then (LwMeetingMatchesReference.j0 k a2 l3 a4 a5 t463 true a0_0 a0_1 a0_2 a0_3 a0_4 a1_0 a1_1 a1_2 l1_3 l1_4 l1_5 a6_0 a6_1) else (LwMeetingMatchesReference.j0 k a2 l3 a4 a5 t463 (decide ((l3.length : Int) > 150)) a0_0 a0_1 a0_2 a0_3 a0_4 a1_0 a1_1 a1_2 l1_3 l1_4 l1_5 a6_0 a6_1)) else (LwMeetingMatchesReference.j0 k a2 l3 a4 a5 t463 true a0_0 a0_1 a0_2 a0_3 a0_4 a1_0 a1_1 a1_2 l1_3 l1_4 l1_5 a6_0 a6_1)))) = some r := h
 clear h
 replace H := bm_ H
 obtain ⟨t463, A80, H⟩ := H
 replace H : ((RfFew.f k a1_0 a1_1 a1_2 l1_3 l1_4 l1_5).bind fun t464 => (if t464 = true then (if (a2.size : Int) > 100 then (LwMeetingMatchesReference.j0 k a2 l3 a4 a5 t463 true a0_0 a0_1 a0_2 a0_3 a0_4 a1_0 a1_1 a1_2 l1_3 l1_4 l1_5 a6_0 a6_1) else (LwMeetingMatchesReference.j0 k a2 l3 a4 a5 t463 (decide ((l3.length : Int) > 150)) a0_0 a0_1 a0_2 a0_3 a0_4 a1_0 a1_1 a1_2 l1_3 l1_4 l1_5 a6_0 a6_1)) else (LwMeetingMatchesReference.j0 k a2 l3 a4 a5 t463 true a0_0 a0_1 a0_2 a0_3 a0_4 a1_0 a1_1 a1_2 l1_3 l1_4 l1_5 a6_0 a6_1))) = some r := H
 have A8 := am_ A80
 clear A80
 have HC9 := am_ H
 clear H
 go_enter Try.func3, Try.ntmps3
 go_upto_region 2 with (first | ((with_reducible refine gate_dst (N := 7) rfl ?_); (try (refine gate_guard (by rfl) ?_; dsimp only)); refine qev_ 7 #[.int .i64 a0_0, .int .i64 a0_1, .int .i64 a0_2, .int .i64 a0_3, .bool a0_4] 25 ?_; intro gb460 hg w10 hbox hb; have BK460 := am_ (hbox); have GW460 := qga_ hg; have GE460 := qga_ hg; replace HB := qbs_ hb; clear hb hbox hg) | ((with_reducible refine gate_dst (N := 8) rfl ?_); (try (refine gate_guard (by rfl) ?_; dsimp only)); refine qev_ 8 #[.int .i64 a1_0, .int .i64 a1_1, .int .i64 a1_2, .slice A1_3 l1_3.length c1_3, .slice A1_4 l1_4.length c1_4, .slice A1_5 l1_5.length c1_5] 30 ?_; intro gb461 hg w11 hbox hb; have BK461 := am_ (hbox); have GW461 := qga_ hg; have GE461 := qga_ hg; replace HB := qbs_ hb; have NB460_461 := am_ ((by rw [hg]; exact Nat.ne_of_lt (blk_lt (qk_ BK460)) : gb460 ≠ gb461)); have NB461_460 := am_ ((by rw [hg]; exact Nat.ne_of_gt (blk_lt (qk_ BK460)) : gb461 ≠ gb460)); replace BK460 := qkb_ BK460 hb; clear hb hbox hg) | ((with_reducible refine gate_dst (N := 13) rfl ?_); (try (refine gate_guard (by rfl) ?_; dsimp only)); refine qev_ 13 #[.int .i64 a6_0, .int .i64 a6_1] 23 ?_; intro gb462 hg w12 hbox hb; have BK462 := am_ (hbox); have GW462 := qga_ hg; have GE462 := qga_ hg; replace HB := qbs_ hb; have NB460_462 := am_ ((by rw [hg]; exact Nat.ne_of_lt (blk_lt (qk_ BK460)) : gb460 ≠ gb462)); have NB462_460 := am_ ((by rw [hg]; exact Nat.ne_of_gt (blk_lt (qk_ BK460)) : gb462 ≠ gb460)); replace BK460 := qkb_ BK460 hb; have NB461_462 := am_ ((by rw [hg]; exact Nat.ne_of_lt (blk_lt (qk_ BK461)) : gb461 ≠ gb462)); have NB462_461 := am_ ((by rw [hg]; exact Nat.ne_of_gt (blk_lt (qk_ BK461)) : gb462 ≠ gb461)); replace BK461 := qkb_ BK461 hb; clear hb hbox hg) | ((with_reducible refine gate_callee (f := 11) rfl ?_); refine goesL_ (some 22) rfl rfl Try.func11 (by kernel_rfl) rfl #[] rfl ql_ ?_; (with_reducible refine (Lwhead.calls k  t463 _ A8.out).mono ?_); rintro e w13 ⟨rfl, hb⟩; refine ⟨_, rfl, ?_⟩; replace BK460 := qkb_ BK460 hb; replace BK461 := qkb_ BK461 hb; replace BK462 := qkb_ BK462 hb; replace HB := qbs_ hb; (try clear hb); (try clear hb2); (try clear hk); (try clear hi)))
 (try simp only [Act.put, List.setIfInBounds_toArray, List.set_cons_zero, List.set_cons_succ])
 go_cut [35] (fun v35 wc => ∃ (kq : Nat) (x35_8 : Bool), v35 = .bool x35_8 ∧ Aside0 (LwMeetingMatchesReference.j0 kq a2 l3 a4 a5 t463 x35_8 a0_0 a0_1 a0_2 a0_3 a0_4 a1_0 a1_1 a1_2 l1_3 l1_4 l1_5 a6_0 a6_1 = some r) ∧ Aside0 (kq ≤ k) ∧ Aside0 (wc.heap[gb460]? = some (.cells #[.int .i64 a0_0, .int .i64 a0_1, .int .i64 a0_2, .int .i64 a0_3, .bool a0_4] 25 (0, 0))) ∧ Aside0 (wc.heap[gb461]? = some (.cells #[.int .i64 a1_0, .int .i64 a1_1, .int .i64 a1_2, (.slice A1_3 l1_3.length c1_3), (.slice A1_4 l1_4.length c1_4), (.slice A1_5 l1_5.length c1_5)] 30 (0, 0))) ∧ Aside0 (wc.heap[gb462]? = some (.cells #[.int .i64 a6_0, .int .i64 a6_1] 23 (0, 0))) ∧ Aside0 (Below w.heap.size w wc))
 case first =>
  have H := HC9.out
  clear HC9
  replace H := bm_ H
  obtain ⟨t464, A140, H⟩ := H
  replace H : (if t464 = true then (if (a2.size : Int) > 100 then (LwMeetingMatchesReference.j0 k a2 l3 a4 a5 t463 true a0_0 a0_1 a0_2 a0_3 a0_4 a1_0 a1_1 a1_2 l1_3 l1_4 l1_5 a6_0 a6_1) else (LwMeetingMatchesReference.j0 k a2 l3 a4 a5 t463 (decide ((l3.length : Int) > 150)) a0_0 a0_1 a0_2 a0_3 a0_4 a1_0 a1_1 a1_2 l1_3 l1_4 l1_5 a6_0 a6_1)) else (LwMeetingMatchesReference.j0 k a2 l3 a4 a5 t463 true a0_0 a0_1 a0_2 a0_3 a0_4 a1_0 a1_1 a1_2 l1_3 l1_4 l1_5 a6_0 a6_1)) = some r := H
  have A14 := am_ A140
  clear A140
  by_cases c15 : t464 = true
  ·subst c15
   have H1 : (if (a2.size : Int) > 100 then (LwMeetingMatchesReference.j0 k a2 l3 a4 a5 t463 true a0_0 a0_1 a0_2 a0_3 a0_4 a1_0 a1_1 a1_2 l1_3 l1_4 l1_5 a6_0 a6_1) else (LwMeetingMatchesReference.j0 k a2 l3 a4 a5 t463 (decide ((l3.length : Int) > 150)) a0_0 a0_1 a0_2 a0_3 a0_4 a1_0 a1_1 a1_2 l1_3 l1_4 l1_5 a6_0 a6_1)) = some r := by rw [if_pos rfl] at H; exact H
   clear H
   have H := H1
   clear H1
   by_cases c16 : (a2.size : Int) > 100
   ·rw [if_pos c16] at H
    have c16b0 : decide (100 < (a2.size : Int)) = true := decide_eq_true c16
    have c16b1 : decide (100 < a2.size) = true := decide_eq_true (by omega)
    clear c16
    (first | rw [c16b0] | (simp only [i64_w, i32_w]; rw [c16b0]) | skip)
    have H' := am_ H
    clear H
    have hnb17 := NB461_460.out
    have hnc17 := NB460_461.out
    have hnb18 := NB461_462.out
    have hnc18 := NB462_461.out
    obtain ⟨z'19_0, z'19_1, z'19_2, z'19_3, z'19_4, z'19_5⟩ := qz6_ BK461; obtain ⟨y'19_0, y'19_1, y'19_2, y'19_3, y'19_4, y'19_5⟩ := qf6_ BK461
    go_wp2_with (first | ((with_reducible refine gate_callee (f := 12) rfl ?_); refine goesL_ (some 24) rfl rfl Try.func12 (by kernel_rfl) rfl #[.agg #[.int .i64 a1_0, .int .i64 a1_1, .int .i64 a1_2, .slice A1_3 l1_3.length c1_3, .slice A1_4 l1_4.length c1_4, .slice A1_5 l1_5.length c1_5]] rfl ql_ ?_; (with_reducible refine (RfFew.calls k a1_0 a1_1 a1_2 _ _ l1_3 _ _ l1_4 _ _ l1_5 true _ ?s1 ?s2 ?s3 ?s4 ?s5 ?s6 A14.out).mono ?_); (case s1 => exact qc_ HR1_3); (case s2 => exact HC1_3.out); (case s3 => exact qc_ HR1_4); (case s4 => exact HC1_4.out); (case s5 => exact qc_ HR1_5); (case s6 => exact HC1_5.out); rintro e w20 ⟨rfl, hb⟩; refine ⟨_, rfl, ?_⟩; replace BK460 := qkb_ BK460 hb; replace BK461 := qkb_ BK461 hb; replace BK462 := qkb_ BK462 hb; replace HB := qbs_ hb; (try clear hb); (try clear hb2); (try clear hk); (try clear hi)))
    go_meet
    case rel => exact ⟨_, (true), qs_, H', ⟨qo_⟩, ⟨qk_ BK460⟩, ⟨qk_ BK461⟩, ⟨qk_ BK462⟩, ⟨qb_⟩⟩
   ·rw [if_neg c16] at H
    have c16b0 : decide (100 < (a2.size : Int)) = false := decide_eq_false c16
    have c16b1 : decide (100 < a2.size) = false := decide_eq_false (by omega)
    clear c16
    (first | rw [c16b0] | (simp only [i64_w, i32_w]; rw [c16b0]) | skip)
    have H' := am_ H
    clear H
    have hnb21 := NB461_460.out
    have hnc21 := NB460_461.out
    have hnb22 := NB461_462.out
    have hnc22 := NB462_461.out
    obtain ⟨z'23_0, z'23_1, z'23_2, z'23_3, z'23_4, z'23_5⟩ := qz6_ BK461; obtain ⟨y'23_0, y'23_1, y'23_2, y'23_3, y'23_4, y'23_5⟩ := qf6_ BK461
    go_wp2_with (first | ((with_reducible refine gate_callee (f := 12) rfl ?_); refine goesL_ (some 24) rfl rfl Try.func12 (by kernel_rfl) rfl #[.agg #[.int .i64 a1_0, .int .i64 a1_1, .int .i64 a1_2, .slice A1_3 l1_3.length c1_3, .slice A1_4 l1_4.length c1_4, .slice A1_5 l1_5.length c1_5]] rfl ql_ ?_; (with_reducible refine (RfFew.calls k a1_0 a1_1 a1_2 _ _ l1_3 _ _ l1_4 _ _ l1_5 true _ ?s1 ?s2 ?s3 ?s4 ?s5 ?s6 A14.out).mono ?_); (case s1 => exact qc_ HR1_3); (case s2 => exact HC1_3.out); (case s3 => exact qc_ HR1_4); (case s4 => exact HC1_4.out); (case s5 => exact qc_ HR1_5); (case s6 => exact HC1_5.out); rintro e w24 ⟨rfl, hb⟩; refine ⟨_, rfl, ?_⟩; replace BK460 := qkb_ BK460 hb; replace BK461 := qkb_ BK461 hb; replace BK462 := qkb_ BK462 hb; replace HB := qbs_ hb; (try clear hb); (try clear hb2); (try clear hk); (try clear hi)))
    go_meet
    case rel => exact ⟨_, (decide ((l3.length : Int) > 150)), qs_, H', ⟨qo_⟩, ⟨qk_ BK460⟩, ⟨qk_ BK461⟩, ⟨qk_ BK462⟩, ⟨qb_⟩⟩
  ·replace c15 := be_ c15
   subst c15
   have H1 : (LwMeetingMatchesReference.j0 k a2 l3 a4 a5 t463 true a0_0 a0_1 a0_2 a0_3 a0_4 a1_0 a1_1 a1_2 l1_3 l1_4 l1_5 a6_0 a6_1) = some r := by rw [if_neg (show ¬ (false = true) by decide)] at H; exact H
   clear H
   have H := H1
   clear H1
   have H' := am_ H
   clear H
   have hnb25 := NB461_460.out
   have hnc25 := NB460_461.out
   have hnb26 := NB461_462.out
   have hnc26 := NB462_461.out
   obtain ⟨z'27_0, z'27_1, z'27_2, z'27_3, z'27_4, z'27_5⟩ := qz6_ BK461; obtain ⟨y'27_0, y'27_1, y'27_2, y'27_3, y'27_4, y'27_5⟩ := qf6_ BK461
   go_wp2_with (first | ((with_reducible refine gate_callee (f := 12) rfl ?_); refine goesL_ (some 24) rfl rfl Try.func12 (by kernel_rfl) rfl #[.agg #[.int .i64 a1_0, .int .i64 a1_1, .int .i64 a1_2, .slice A1_3 l1_3.length c1_3, .slice A1_4 l1_4.length c1_4, .slice A1_5 l1_5.length c1_5]] rfl ql_ ?_; (with_reducible refine (RfFew.calls k a1_0 a1_1 a1_2 _ _ l1_3 _ _ l1_4 _ _ l1_5 false _ ?s1 ?s2 ?s3 ?s4 ?s5 ?s6 A14.out).mono ?_); (case s1 => exact qc_ HR1_3); (case s2 => exact HC1_3.out); (case s3 => exact qc_ HR1_4); (case s4 => exact HC1_4.out); (case s5 => exact qc_ HR1_5); (case s6 => exact HC1_5.out); rintro e w28 ⟨rfl, hb⟩; refine ⟨_, rfl, ?_⟩; replace BK460 := qkb_ BK460 hb; replace BK461 := qkb_ BK461 hb; replace BK462 := qkb_ BK462 hb; replace HB := qbs_ hb; (try clear hb); (try clear hb2); (try clear hk); (try clear hi)))
   go_meet
   case rel => exact ⟨_, (true), qs_, H', ⟨qo_⟩, ⟨qk_ BK460⟩, ⟨qk_ BK461⟩, ⟨qk_ BK462⟩, ⟨qb_⟩⟩
 case rest =>
  clear HC9
  try clear c1
  try clear c2
  try clear p2
  try clear c3
  try clear c11
  try clear c12
  try clear c15
  try clear c16
  try clear c16b0
  try clear c16b1
  try clear c17
  try clear c18
  try clear c21
  try clear c22
  try clear c25
  try clear c26
  try clear z'19_0 z'19_1 z'19_2 z'19_3 z'19_4 z'19_5
  try clear z'23_0 z'23_1 z'23_2 z'23_3 z'23_4 z'23_5
  try clear z'27_0 z'27_1 z'27_2 z'27_3 z'27_4 z'27_5
  try clear y'19_0 y'19_1 y'19_2 y'19_3 y'19_4 y'19_5
  try clear y'23_0 y'23_1 y'23_2 y'23_3 y'23_4 y'23_5
  try clear y'27_0 y'27_1 y'27_2 y'27_3 y'27_4 y'27_5
  obtain ⟨kq, x35_8, rfl, HA, HJ8, BK460, BK461, BK462, HB⟩ := hcut
  cases kq with
  | zero => exact absurd HA.out (by simp [LwMeetingMatchesReference.j0])
  | succ kj8 =>
   have H := HA.out
   clear HA
   simp only [LwMeetingMatchesReference.j0] at H
   by_cases c29 : x35_8 = true
   ·subst c29
    have H1 : (some t463) = some r := by rw [if_pos rfl] at H; exact H
    clear H
    have H := H1
    clear H1
    obtain rfl := si_ H
    go_wp2
    go_ret
    exact ⟨qx_, qb_⟩
   ·replace c29 := be_ c29
    subst c29
    have H1 : ((MgWeights.f kj8 a0_0 a0_1 a0_2 a0_3 a0_4 a1_0 a1_1 a1_2 l1_3 l1_4 l1_5).bind fun bt465 => ((RfWeights.f kj8 a0_0 a0_1 a0_2 a0_3 a0_4 a1_0 a1_1 a1_2 l1_3 l1_4 l1_5).bind fun bt469 => (if t463 = true then ((MgValid.f kj8 a1_0 a1_1 a1_2 l1_3 l1_4 l1_5).bind fun t473 => ((RfValid.f kj8 a1_0 a1_1 a1_2 l1_3 l1_4 l1_5).bind fun t474 => (if (t473 == t474) = true then ((RfSameInts.f kj8 bt465.1 bt469.1).bind fun t475 => (if t475 = true then (LwMeetingMatchesReference.j1 kj8 a2 l3 a4 a5 (bt465.2 == bt469.2) a0_0 a0_1 a0_2 a0_3 a0_4 a1_0 a1_1 a1_2 l1_3 l1_4 l1_5 a6_0 a6_1) else (LwMeetingMatchesReference.j1 kj8 a2 l3 a4 a5 false a0_0 a0_1 a0_2 a0_3 a0_4 a1_0 a1_1 a1_2 l1_3 l1_4 l1_5 a6_0 a6_1))) else (LwMeetingMatchesReference.j1 kj8 a2 l3 a4 a5 false a0_0 a0_1 a0_2 a0_3 a0_4 a1_0 a1_1 a1_2 l1_3 l1_4 l1_5 a6_0 a6_1)))) else (LwMeetingMatchesReference.j1 kj8 a2 l3 a4 a5 false a0_0 a0_1 a0_2 a0_3 a0_4 a1_0 a1_1 a1_2 l1_3 l1_4 l1_5 a6_0 a6_1)))) = some r := by rw [if_neg (show ¬ (false = true) by decide)] at H; exact H
    clear H
    have H := H1
    clear H1
    replace H := bm_ H
    obtain ⟨⟨t465, t468⟩, A300, H⟩ := H
    replace H : ((RfWeights.f kj8 a0_0 a0_1 a0_2 a0_3 a0_4 a1_0 a1_1 a1_2 l1_3 l1_4 l1_5).bind fun bt469 => (if t463 = true then ((MgValid.f kj8 a1_0 a1_1 a1_2 l1_3 l1_4 l1_5).bind fun t473 => ((RfValid.f kj8 a1_0 a1_1 a1_2 l1_3 l1_4 l1_5).bind fun t474 => (if (t473 == t474) = true then ((RfSameInts.f kj8 t465 bt469.1).bind fun t475 => (if t475 = true then (LwMeetingMatchesReference.j1 kj8 a2 l3 a4 a5 (t468 == bt469.2) a0_0 a0_1 a0_2 a0_3 a0_4 a1_0 a1_1 a1_2 l1_3 l1_4 l1_5 a6_0 a6_1) else (LwMeetingMatchesReference.j1 kj8 a2 l3 a4 a5 false a0_0 a0_1 a0_2 a0_3 a0_4 a1_0 a1_1 a1_2 l1_3 l1_4 l1_5 a6_0 a6_1))) else (LwMeetingMatchesReference.j1 kj8 a2 l3 a4 a5 false a0_0 a0_1 a0_2 a0_3 a0_4 a1_0 a1_1 a1_2 l1_3 l1_4 l1_5 a6_0 a6_1)))) else (LwMeetingMatchesReference.j1 kj8 a2 l3 a4 a5 false a0_0 a0_1 a0_2 a0_3 a0_4 a1_0 a1_1 a1_2 l1_3 l1_4 l1_5 a6_0 a6_1))) = some r := H
    have A30 := am_ A300
    clear A300
    replace H := bm_ H
    obtain ⟨⟨t469, t472⟩, A310, H⟩ := H
    replace H : (if t463 = true then ((MgValid.f kj8 a1_0 a1_1 a1_2 l1_3 l1_4 l1_5).bind fun t473 => ((RfValid.f kj8 a1_0 a1_1 a1_2 l1_3 l1_4 l1_5).bind fun t474 => (if (t473 == t474) = true then ((RfSameInts.f kj8 t465 t469).bind fun t475 => (if t475 = true then (LwMeetingMatchesReference.j1 kj8 a2 l3 a4 a5 (t468 == t472) a0_0 a0_1 a0_2 a0_3 a0_4 a1_0 a1_1 a1_2 l1_3 l1_4 l1_5 a6_0 a6_1) else (LwMeetingMatchesReference.j1 kj8 a2 l3 a4 a5 false a0_0 a0_1 a0_2 a0_3 a0_4 a1_0 a1_1 a1_2 l1_3 l1_4 l1_5 a6_0 a6_1))) else (LwMeetingMatchesReference.j1 kj8 a2 l3 a4 a5 false a0_0 a0_1 a0_2 a0_3 a0_4 a1_0 a1_1 a1_2 l1_3 l1_4 l1_5 a6_0 a6_1)))) else (LwMeetingMatchesReference.j1 kj8 a2 l3 a4 a5 false a0_0 a0_1 a0_2 a0_3 a0_4 a1_0 a1_1 a1_2 l1_3 l1_4 l1_5 a6_0 a6_1)) = some r := H
    have A31 := am_ A310
    clear A310
    have HC32 := am_ H
    clear H
    have hnb33 := NB460_461.out
    have hnc33 := NB461_460.out
    have hnb34 := NB460_462.out
    have hnc34 := NB462_460.out
    obtain ⟨z'35_0, z'35_1, z'35_2, z'35_3, z'35_4⟩ := qz5_ BK460; obtain ⟨y'35_0, y'35_1, y'35_2, y'35_3, y'35_4⟩ := qf5_ BK460
    have hnb36 := NB461_462.out
    have hnc36 := NB462_461.out
    obtain ⟨z'37_0, z'37_1, z'37_2, z'37_3, z'37_4, z'37_5⟩ := qz6_ BK461; obtain ⟨y'37_0, y'37_1, y'37_2, y'37_3, y'37_4, y'37_5⟩ := qf6_ BK461
    go_upto_region 6 with (first | ((with_reducible refine gate_callee (f := 13) rfl ?_); refine goesL_ (some 40) rfl rfl Try.func13 (by kernel_rfl) rfl #[.agg #[.int .i64 a0_0, .int .i64 a0_1, .int .i64 a0_2, .int .i64 a0_3, .bool a0_4], .agg #[.int .i64 a1_0, .int .i64 a1_1, .int .i64 a1_2, .slice A1_3 l1_3.length c1_3, .slice A1_4 l1_4.length c1_4, .slice A1_5 l1_5.length c1_5]] rfl ql_ ?_; (with_reducible refine (MgWeights.calls kj8 a0_0 a0_1 a0_2 a0_3 a0_4 a1_0 a1_1 a1_2 _ _ l1_3 _ _ l1_4 _ _ l1_5 t465 t468 _ ?s1 ?s2 ?s3 ?s4 ?s5 ?s6 A30.out).mono ?_); (case s1 => exact qc_ HR1_3); (case s2 => exact HC1_3.out); (case s3 => exact qc_ HR1_4); (case s4 => exact HC1_4.out); (case s5 => exact qc_ HR1_5); (case s6 => exact HC1_5.out); rintro e w38 ⟨v466, rfl, ho0, hb⟩; refine ⟨_, rfl, ?_⟩; have HO467 := am_ (Kd.R_lower ho0 (below_size qb_)); replace BK460 := qkb_ BK460 hb; replace BK461 := qkb_ BK461 hb; replace BK462 := qkb_ BK462 hb; replace HB := qbs_ hb; (try clear hb); (try clear hb2); (try clear hk); (try clear hi); (try clear ho0); obtain ⟨z'39_0, z'39_1, z'39_2, z'39_3, z'39_4⟩ := qz5_ BK460; obtain ⟨y'39_0, y'39_1, y'39_2, y'39_3, y'39_4⟩ := qf5_ BK460; obtain ⟨z'40_0, z'40_1, z'40_2, z'40_3, z'40_4, z'40_5⟩ := qz6_ BK461; obtain ⟨y'40_0, y'40_1, y'40_2, y'40_3, y'40_4, y'40_5⟩ := qf6_ BK461) | ((with_reducible refine gate_callee (f := 14) rfl ?_); refine goesL_ (some 46) rfl rfl Try.func14 (by kernel_rfl) rfl #[.agg #[.int .i64 a0_0, .int .i64 a0_1, .int .i64 a0_2, .int .i64 a0_3, .bool a0_4], .agg #[.int .i64 a1_0, .int .i64 a1_1, .int .i64 a1_2, .slice A1_3 l1_3.length c1_3, .slice A1_4 l1_4.length c1_4, .slice A1_5 l1_5.length c1_5]] rfl ql_ ?_; (with_reducible refine (RfWeights.calls kj8 a0_0 a0_1 a0_2 a0_3 a0_4 a1_0 a1_1 a1_2 _ _ l1_3 _ _ l1_4 _ _ l1_5 t469 t472 _ ?s1 ?s2 ?s3 ?s4 ?s5 ?s6 A31.out).mono ?_); (case s1 => exact qc_ HR1_3); (case s2 => exact HC1_3.out); (case s3 => exact qc_ HR1_4); (case s4 => exact HC1_4.out); (case s5 => exact qc_ HR1_5); (case s6 => exact HC1_5.out); rintro e w41 ⟨v470, rfl, ho0, hb⟩; refine ⟨_, rfl, ?_⟩; have HO471 := am_ (Kd.R_lower (Kd.R_new' ho0 (Kd.R_lt (qr_ HO467))) (below_size qb_)); replace HO467 := qel_ HO467 ho0 hb; replace BK460 := qkb_ BK460 hb; replace BK461 := qkb_ BK461 hb; replace BK462 := qkb_ BK462 hb; replace HB := qbs_ hb; (try clear hb); (try clear hb2); (try clear hk); (try clear hi); (try clear ho0)))
    (try simp only [Act.put, List.setIfInBounds_toArray, List.set_cons_zero, List.set_cons_succ])
    go_cut [15] (fun v15 wc => ∃ (kq : Nat) (x15_31 : Bool), v15 = .bool x15_31 ∧ Aside0 (LwMeetingMatchesReference.j1 kq a2 l3 a4 a5 x15_31 a0_0 a0_1 a0_2 a0_3 a0_4 a1_0 a1_1 a1_2 l1_3 l1_4 l1_5 a6_0 a6_1 = some r) ∧ Aside0 (kq ≤ kj8) ∧ Aside0 (wc.heap[gb460]? = some (.cells #[.int .i64 a0_0, .int .i64 a0_1, .int .i64 a0_2, .int .i64 a0_3, .bool a0_4] 25 (0, 0))) ∧ Aside0 (wc.heap[gb461]? = some (.cells #[.int .i64 a1_0, .int .i64 a1_1, .int .i64 a1_2, (.slice A1_3 l1_3.length c1_3), (.slice A1_4 l1_4.length c1_4), (.slice A1_5 l1_5.length c1_5)] 30 (0, 0))) ∧ Aside0 (wc.heap[gb462]? = some (.cells #[.int .i64 a6_0, .int .i64 a6_1] 23 (0, 0))) ∧ Aside0 (Below w.heap.size w wc))
    case first =>
     have H := HC32.out
     clear HC32
     by_cases c42 : t463 = true
     ·subst c42
      have H1 : ((MgValid.f kj8 a1_0 a1_1 a1_2 l1_3 l1_4 l1_5).bind fun t473 => ((RfValid.f kj8 a1_0 a1_1 a1_2 l1_3 l1_4 l1_5).bind fun t474 => (if (t473 == t474) = true then ((RfSameInts.f kj8 t465 t469).bind fun t475 => (if t475 = true then (LwMeetingMatchesReference.j1 kj8 a2 l3 a4 a5 (t468 == t472) a0_0 a0_1 a0_2 a0_3 a0_4 a1_0 a1_1 a1_2 l1_3 l1_4 l1_5 a6_0 a6_1) else (LwMeetingMatchesReference.j1 kj8 a2 l3 a4 a5 false a0_0 a0_1 a0_2 a0_3 a0_4 a1_0 a1_1 a1_2 l1_3 l1_4 l1_5 a6_0 a6_1))) else (LwMeetingMatchesReference.j1 kj8 a2 l3 a4 a5 false a0_0 a0_1 a0_2 a0_3 a0_4 a1_0 a1_1 a1_2 l1_3 l1_4 l1_5 a6_0 a6_1)))) = some r := by rw [if_pos rfl] at H; exact H
      clear H
      have H := H1
      clear H1
      replace H := bm_ H
      obtain ⟨t473, A430, H⟩ := H
      replace H : ((RfValid.f kj8 a1_0 a1_1 a1_2 l1_3 l1_4 l1_5).bind fun t474 => (if (t473 == t474) = true then ((RfSameInts.f kj8 t465 t469).bind fun t475 => (if t475 = true then (LwMeetingMatchesReference.j1 kj8 a2 l3 a4 a5 (t468 == t472) a0_0 a0_1 a0_2 a0_3 a0_4 a1_0 a1_1 a1_2 l1_3 l1_4 l1_5 a6_0 a6_1) else (LwMeetingMatchesReference.j1 kj8 a2 l3 a4 a5 false a0_0 a0_1 a0_2 a0_3 a0_4 a1_0 a1_1 a1_2 l1_3 l1_4 l1_5 a6_0 a6_1))) else (LwMeetingMatchesReference.j1 kj8 a2 l3 a4 a5 false a0_0 a0_1 a0_2 a0_3 a0_4 a1_0 a1_1 a1_2 l1_3 l1_4 l1_5 a6_0 a6_1))) = some r := H
      have A43 := am_ A430
      clear A430
      replace H := bm_ H
      obtain ⟨t474, A440, H⟩ := H
      replace H : (if (t473 == t474) = true then ((RfSameInts.f kj8 t465 t469).bind fun t475 => (if t475 = true then (LwMeetingMatchesReference.j1 kj8 a2 l3 a4 a5 (t468 == t472) a0_0 a0_1 a0_2 a0_3 a0_4 a1_0 a1_1 a1_2 l1_3 l1_4 l1_5 a6_0 a6_1) else (LwMeetingMatchesReference.j1 kj8 a2 l3 a4 a5 false a0_0 a0_1 a0_2 a0_3 a0_4 a1_0 a1_1 a1_2 l1_3 l1_4 l1_5 a6_0 a6_1))) else (LwMeetingMatchesReference.j1 kj8 a2 l3 a4 a5 false a0_0 a0_1 a0_2 a0_3 a0_4 a1_0 a1_1 a1_2 l1_3 l1_4 l1_5 a6_0 a6_1)) = some r := H
      have A44 := am_ A440
      clear A440
      by_cases c45 : (t473 == t474) = true
      ·rw [if_pos c45] at H
       have c45b0 : (t473 == t474) = true := c45
       (try (have c45b1 : decide (t473 = t474) = true := by simpa using c45))
       (try (have c45b2 : (t473 == t474) = true := by simpa using c45))
       clear c45
       (first | rw [c45b0] | (simp only [i64_w, i32_w]; rw [c45b0]) | skip)
       replace H := bm_ H
       obtain ⟨t475, A460, H⟩ := H
       replace H : (if t475 = true then (LwMeetingMatchesReference.j1 kj8 a2 l3 a4 a5 (t468 == t472) a0_0 a0_1 a0_2 a0_3 a0_4 a1_0 a1_1 a1_2 l1_3 l1_4 l1_5 a6_0 a6_1) else (LwMeetingMatchesReference.j1 kj8 a2 l3 a4 a5 false a0_0 a0_1 a0_2 a0_3 a0_4 a1_0 a1_1 a1_2 l1_3 l1_4 l1_5 a6_0 a6_1)) = some r := H
       have A46 := am_ A460
       clear A460
       by_cases c47 : t475 = true
       ·subst c47
        have H1 : (LwMeetingMatchesReference.j1 kj8 a2 l3 a4 a5 (t468 == t472) a0_0 a0_1 a0_2 a0_3 a0_4 a1_0 a1_1 a1_2 l1_3 l1_4 l1_5 a6_0 a6_1) = some r := by rw [if_pos rfl] at H; exact H
        clear H
        have H := H1
        clear H1
        have H' := am_ H
        clear H
        try go_wp2
        replace HO467 := am_ (Kd.R_drew HO467.out)
        replace HO471 := am_ (Kd.R_drew HO471.out)
        replace BK460 := am_ (bd_ BK460.out)
        replace BK461 := am_ (bd_ BK461.out)
        replace BK462 := am_ (bd_ BK462.out)
        replace HB := am_ (ld_ HB.out)
        refine start_ (n := 19) (S := fun w' => w'.cell? ⟨gb461, 0, none⟩ = some (.int .i64 a1_0) ∧ w'.cell? ⟨gb461, 1, none⟩ = some (.int .i64 a1_1) ∧ w'.cell? ⟨gb461, 2, none⟩ = some (.int .i64 a1_2) ∧ w'.cell? ⟨gb461, 3, none⟩ = some (.slice A1_3 l1_3.length c1_3) ∧ w'.cell? ⟨gb461, 4, none⟩ = some (.slice A1_4 l1_4.length c1_4) ∧ w'.cell? ⟨gb461, 5, none⟩ = some (.slice A1_5 l1_5.length c1_5)) (ds := []) #[i_,i_,i_,i_,i_,i_,i_,i_,i_,i_,i_,i_,i_,i_,i_,i_,i_,i_,i_] (by kernel_rfl) rfl rfl ⟨(bc_ BK461.out 0).trans rfl, (bc_ BK461.out 1).trans rfl, (bc_ BK461.out 2).trans rfl, (bc_ BK461.out 3).trans rfl, (bc_ BK461.out 4).trans rfl, (bc_ BK461.out 5).trans rfl⟩ (fun hHeld => ?_); refine with_tabW LwMeetingMatchesReference.tab6 LwMeetingMatchesReference.bits6 (fun HT_ HW_ => ?_)
        generalize w41.drew = w48 at HO467 HO471 BK460 BK461 BK462 HB hHeld ⊢
        refine qpu_ 0 (some 49) #[o_,i_,i_,i_,i_,i_,i_,i_,i_,i_,i_,i_,i_,i_,i_,i_,i_,i_,i_] ?_
        refine qpu_ 1 (some 50) #[o_,o_,i_,i_,i_,i_,i_,i_,i_,i_,i_,i_,i_,i_,i_,i_,i_,i_,i_] ?_
        refine take_ (i := 2) (N := some 51) (v := ?_) (a' := ?_) #[o_,o_,o_,i_,i_,i_,i_,i_,i_,i_,i_,i_,i_,i_,i_,i_,i_,i_,i_] rfl rfl (take_ofW HT_.out HW_.out (by kernel_rfl)) (fun _ _ _ h => h) (Or.inl ⟨by rfl, ?_⟩) hHeld ?_ ?_
        rotate_left
        ·rintro w' ⟨s0, s1, s2, s3, s4, s5⟩
         go_simp
         with_reducible rfl
        rotate_left
        ·exact qp_
        refine take_ (i := 4) (N := some 53) (v := ?_) (a' := ?_) #[o_,o_,o_,i_,o_,i_,i_,i_,i_,i_,i_,i_,i_,i_,i_,i_,i_,i_,i_] rfl rfl (take_ofW HT_.out HW_.out (by kernel_rfl)) (fun _ _ _ h => h) (Or.inl ⟨by rfl, ?_⟩) hHeld ?_ ?_
        rotate_left
        ·rintro w' ⟨s0, s1, s2, s3, s4, s5⟩
         go_simp
         with_reducible rfl
        rotate_left
        ·exact qp_
        refine one_ (i := 3) (N := some 52) #[o_,o_,o_,o_,o_,i_,i_,i_,i_,i_,i_,i_,i_,i_,i_,i_,i_,i_,i_] rfl rfl (one_of HT_.out (by kernel_rfl)) (by decide) (fun K hK => ?_)
        refine goes_ Try.func15 (by kernel_rfl) rfl #[.agg #[.int .i64 a1_0, .int .i64 a1_1, .int .i64 a1_2, .slice A1_3 l1_3.length c1_3, .slice A1_4 l1_4.length c1_4, .slice A1_5 l1_5.length c1_5]] (by rfl) rfl rfl ql_ ?_
        with_reducible refine (MgValid.calls kj8 a1_0 a1_1 a1_2 _ _ l1_3 _ _ l1_4 _ _ l1_5 t473 _ ?s1 ?s2 ?s3 ?s4 ?s5 ?s6 A43.out).mono ?_
        (case s1 => exact qc_ HR1_3)
        (case s2 => exact HC1_3.out)
        (case s3 => exact qc_ HR1_4)
        (case s4 => exact HC1_4.out)
        (case s5 => exact qc_ HR1_5)
        (case s6 => exact HC1_5.out)
        rintro e w49 ⟨rfl, hb⟩
        refine ⟨_, rfl, ?_⟩
        replace HO467 := qrb_ HO467 hb
        replace HO471 := qrb_ HO471 hb
        replace BK460 := qkb_ BK460 hb
        replace BK461 := qkb_ BK461 hb
        replace BK462 := qkb_ BK462 hb
        replace HB := qbs_ hb
        (try clear hb)
        (try clear hb2)
        (try clear hk)
        (try clear hi)
        refine hK.out _ _ ⟨(bc_ BK461.out 0).trans rfl, (bc_ BK461.out 1).trans rfl, (bc_ BK461.out 2).trans rfl, (bc_ BK461.out 3).trans rfl, (bc_ BK461.out 4).trans rfl, (bc_ BK461.out 5).trans rfl⟩ (fun hHeld => ?_)
        clear hK K
        refine norm_ (a' := ?_) ?_ ?_
        rotate_left
        ·show Act.put _ (some 52) _ = _
         exact qp_
        refine one_ (i := 5) (N := some 54) #[o_,o_,o_,o_,o_,o_,i_,i_,i_,i_,i_,i_,i_,i_,i_,i_,i_,i_,i_] rfl rfl (one_of HT_.out (by kernel_rfl)) (by decide) (fun K hK => ?_)
        refine goes_ Try.func16 (by kernel_rfl) rfl #[.agg #[.int .i64 a1_0, .int .i64 a1_1, .int .i64 a1_2, .slice A1_3 l1_3.length c1_3, .slice A1_4 l1_4.length c1_4, .slice A1_5 l1_5.length c1_5]] (by rfl) rfl rfl ql_ ?_
        with_reducible refine (RfValid.calls kj8 a1_0 a1_1 a1_2 _ _ l1_3 _ _ l1_4 _ _ l1_5 t474 _ ?s1 ?s2 ?s3 ?s4 ?s5 ?s6 A44.out).mono ?_
        (case s1 => exact qc_ HR1_3)
        (case s2 => exact HC1_3.out)
        (case s3 => exact qc_ HR1_4)
        (case s4 => exact HC1_4.out)
        (case s5 => exact qc_ HR1_5)
        (case s6 => exact HC1_5.out)
        rintro e w50 ⟨rfl, hb⟩
        refine ⟨_, rfl, ?_⟩
        replace HO467 := qrb_ HO467 hb
        replace HO471 := qrb_ HO471 hb
        replace BK460 := qkb_ BK460 hb
        replace BK461 := qkb_ BK461 hb
        replace BK462 := qkb_ BK462 hb
        replace HB := qbs_ hb
        (try clear hb)
        (try clear hb2)
        (try clear hk)
        (try clear hi)
        obtain ⟨Ao51, co51, eo51⟩ := Kd.R_slice HO467.out
        (first | subst eo51 | (injection eo51 with f1_ f2_ f3_; have f4_ := f1_.symm; have f5_ := f3_.symm; clear f1_ f2_ f3_; subst f4_; subst f5_))
        obtain ⟨Ao52, co52, eo52⟩ := Kd.R_slice HO471.out
        (first | subst eo52 | (injection eo52 with f1_ f2_ f3_; have f4_ := f1_.symm; have f5_ := f3_.symm; clear f1_ f2_ f3_; subst f4_; subst f5_))
        refine hK.out _ _ ⟨(bc_ BK461.out 0).trans rfl, (bc_ BK461.out 1).trans rfl, (bc_ BK461.out 2).trans rfl, (bc_ BK461.out 3).trans rfl, (bc_ BK461.out 4).trans rfl, (bc_ BK461.out 5).trans rfl⟩ (fun hHeld => ?_)
        clear hK K
        refine norm_ (a' := ?_) ?_ ?_
        rotate_left
        ·show Act.put _ (some 54) _ = _
         exact qp_
        refine qpu_ 6 (some 55) #[o_,o_,o_,o_,o_,o_,o_,i_,i_,i_,i_,i_,i_,i_,i_,i_,i_,i_,i_] ?_
        refine qpu_ 7 (some 56) #[o_,o_,o_,o_,o_,o_,o_,o_,i_,i_,i_,i_,i_,i_,i_,i_,i_,i_,i_] ?_
        refine qpu_ 8 (some 57) #[o_,o_,o_,o_,o_,o_,o_,o_,o_,i_,i_,i_,i_,i_,i_,i_,i_,i_,i_] ?_
        refine qpu_ 9 (some 58) #[o_,o_,o_,o_,o_,o_,o_,o_,o_,o_,i_,i_,i_,i_,i_,i_,i_,i_,i_] ?_
        refine qpu_ 10 (some 59) #[o_,o_,o_,o_,o_,o_,o_,o_,o_,o_,o_,i_,i_,i_,i_,i_,i_,i_,i_] ?_
        refine one_ (i := 11) (N := some 60) #[o_,o_,o_,o_,o_,o_,o_,o_,o_,o_,o_,o_,i_,i_,i_,i_,i_,i_,i_] rfl rfl (one_of HT_.out (by kernel_rfl)) (by decide) (fun K hK => ?_)
        refine goes_ Try.func17 (by kernel_rfl) rfl #[.slice Ao51 t465.length co51, .slice Ao52 t469.length co52] (by rfl) rfl rfl ql_ ?_
        with_reducible refine (RfSameInts.calls kj8 _ _ t465 _ _ t469 true _ ?s1 ?s2 ?s3 ?s4 A46.out).mono ?_
        (case s1 => exact qv_ (Kd.R_reads' HO467.out).2.2)
        (case s2 => exact (Kd.R_reads' HO467.out).2.1)
        (case s3 => exact qv_ (Kd.R_reads' HO471.out).2.2)
        (case s4 => exact (Kd.R_reads' HO471.out).2.1)
        rintro e w' ⟨rfl, ⟨nd, rfl⟩⟩
        refine ⟨_, rfl, ?_⟩
        refine hK.out _ _ ⟨(bc_ BK461.out 0).trans rfl, (bc_ BK461.out 1).trans rfl, (bc_ BK461.out 2).trans rfl, (bc_ BK461.out 3).trans rfl, (bc_ BK461.out 4).trans rfl, (bc_ BK461.out 5).trans rfl⟩ (fun hHeld => ?_)
        clear hK K
        refine norm_ (a' := ?_) ?_ ?_
        rotate_left
        ·show Act.put _ (some 60) _ = _
         exact qp_
        refine qpu_ 12 (some 61) #[o_,o_,o_,o_,o_,o_,o_,o_,o_,o_,o_,o_,o_,i_,i_,i_,i_,i_,i_] ?_
        refine qpu_ 13 (some 62) #[o_,o_,o_,o_,o_,o_,o_,o_,o_,o_,o_,o_,o_,o_,i_,i_,i_,i_,i_] ?_
        refine qpu_ 14 (some 63) #[o_,o_,o_,o_,o_,o_,o_,o_,o_,o_,o_,o_,o_,o_,o_,i_,i_,i_,i_] ?_
        refine qpu_ 15 (some 64) #[o_,o_,o_,o_,o_,o_,o_,o_,o_,o_,o_,o_,o_,o_,o_,o_,i_,i_,i_] ?_
        refine qpu_ 16 (some 65) #[o_,o_,o_,o_,o_,o_,o_,o_,o_,o_,o_,o_,o_,o_,o_,o_,o_,i_,i_] ?_
        refine qpu_ 17 (some 66) #[o_,o_,o_,o_,o_,o_,o_,o_,o_,o_,o_,o_,o_,o_,o_,o_,o_,o_,i_] ?_
        refine qpu_ 18 (some 15) #[o_,o_,o_,o_,o_,o_,o_,o_,o_,o_,o_,o_,o_,o_,o_,o_,o_,o_,o_] ?_
        refine done_ (done_of HT_.out (by kernel_rfl)) ?_
        try go_wp2
        go_meet
        case rel => exact ⟨_, ((t468 == t472)), qs_, H', ⟨by have := HJ8.out; first | omega | exact Nat.le_refl _⟩, ⟨qk_ BK460⟩, ⟨qk_ BK461⟩, ⟨qk_ BK462⟩, ⟨qb_⟩⟩
       ·replace c47 := be_ c47
        subst c47
        have H1 : (LwMeetingMatchesReference.j1 kj8 a2 l3 a4 a5 false a0_0 a0_1 a0_2 a0_3 a0_4 a1_0 a1_1 a1_2 l1_3 l1_4 l1_5 a6_0 a6_1) = some r := by rw [if_neg (show ¬ (false = true) by decide)] at H; exact H
        clear H
        have H := H1
        clear H1
        have H' := am_ H
        clear H
        try go_wp2
        replace HO467 := am_ (Kd.R_drew HO467.out)
        replace HO471 := am_ (Kd.R_drew HO471.out)
        replace BK460 := am_ (bd_ BK460.out)
        replace BK461 := am_ (bd_ BK461.out)
        replace BK462 := am_ (bd_ BK462.out)
        replace HB := am_ (ld_ HB.out)
        refine start_ (n := 19) (S := fun w' => w'.cell? ⟨gb461, 0, none⟩ = some (.int .i64 a1_0) ∧ w'.cell? ⟨gb461, 1, none⟩ = some (.int .i64 a1_1) ∧ w'.cell? ⟨gb461, 2, none⟩ = some (.int .i64 a1_2) ∧ w'.cell? ⟨gb461, 3, none⟩ = some (.slice A1_3 l1_3.length c1_3) ∧ w'.cell? ⟨gb461, 4, none⟩ = some (.slice A1_4 l1_4.length c1_4) ∧ w'.cell? ⟨gb461, 5, none⟩ = some (.slice A1_5 l1_5.length c1_5)) (ds := []) #[i_,i_,i_,i_,i_,i_,i_,i_,i_,i_,i_,i_,i_,i_,i_,i_,i_,i_,i_] (by kernel_rfl) rfl rfl ⟨(bc_ BK461.out 0).trans rfl, (bc_ BK461.out 1).trans rfl, (bc_ BK461.out 2).trans rfl, (bc_ BK461.out 3).trans rfl, (bc_ BK461.out 4).trans rfl, (bc_ BK461.out 5).trans rfl⟩ (fun hHeld => ?_); refine with_tabW LwMeetingMatchesReference.tab6 LwMeetingMatchesReference.bits6 (fun HT_ HW_ => ?_)
        generalize w41.drew = w53 at HO467 HO471 BK460 BK461 BK462 HB hHeld ⊢
        refine qpu_ 0 (some 49) #[o_,i_,i_,i_,i_,i_,i_,i_,i_,i_,i_,i_,i_,i_,i_,i_,i_,i_,i_] ?_
        refine qpu_ 1 (some 50) #[o_,o_,i_,i_,i_,i_,i_,i_,i_,i_,i_,i_,i_,i_,i_,i_,i_,i_,i_] ?_
        refine take_ (i := 2) (N := some 51) (v := ?_) (a' := ?_) #[o_,o_,o_,i_,i_,i_,i_,i_,i_,i_,i_,i_,i_,i_,i_,i_,i_,i_,i_] rfl rfl (take_ofW HT_.out HW_.out (by kernel_rfl)) (fun _ _ _ h => h) (Or.inl ⟨by rfl, ?_⟩) hHeld ?_ ?_
        rotate_left
        ·rintro w' ⟨s0, s1, s2, s3, s4, s5⟩
         go_simp
         with_reducible rfl
        rotate_left
        ·exact qp_
        refine take_ (i := 4) (N := some 53) (v := ?_) (a' := ?_) #[o_,o_,o_,i_,o_,i_,i_,i_,i_,i_,i_,i_,i_,i_,i_,i_,i_,i_,i_] rfl rfl (take_ofW HT_.out HW_.out (by kernel_rfl)) (fun _ _ _ h => h) (Or.inl ⟨by rfl, ?_⟩) hHeld ?_ ?_
        rotate_left
        ·rintro w' ⟨s0, s1, s2, s3, s4, s5⟩
         go_simp
         with_reducible rfl
        rotate_left
        ·exact qp_
        refine one_ (i := 3) (N := some 52) #[o_,o_,o_,o_,o_,i_,i_,i_,i_,i_,i_,i_,i_,i_,i_,i_,i_,i_,i_] rfl rfl (one_of HT_.out (by kernel_rfl)) (by decide) (fun K hK => ?_)
        refine goes_ Try.func15 (by kernel_rfl) rfl #[.agg #[.int .i64 a1_0, .int .i64 a1_1, .int .i64 a1_2, .slice A1_3 l1_3.length c1_3, .slice A1_4 l1_4.length c1_4, .slice A1_5 l1_5.length c1_5]] (by rfl) rfl rfl ql_ ?_
        with_reducible refine (MgValid.calls kj8 a1_0 a1_1 a1_2 _ _ l1_3 _ _ l1_4 _ _ l1_5 t473 _ ?s1 ?s2 ?s3 ?s4 ?s5 ?s6 A43.out).mono ?_
        (case s1 => exact qc_ HR1_3)
        (case s2 => exact HC1_3.out)
        (case s3 => exact qc_ HR1_4)
        (case s4 => exact HC1_4.out)
        (case s5 => exact qc_ HR1_5)
        (case s6 => exact HC1_5.out)
        rintro e w54 ⟨rfl, hb⟩
        refine ⟨_, rfl, ?_⟩
        replace HO467 := qrb_ HO467 hb
        replace HO471 := qrb_ HO471 hb
        replace BK460 := qkb_ BK460 hb
        replace BK461 := qkb_ BK461 hb
        replace BK462 := qkb_ BK462 hb
        replace HB := qbs_ hb
        (try clear hb)
        (try clear hb2)
        (try clear hk)
        (try clear hi)
        refine hK.out _ _ ⟨(bc_ BK461.out 0).trans rfl, (bc_ BK461.out 1).trans rfl, (bc_ BK461.out 2).trans rfl, (bc_ BK461.out 3).trans rfl, (bc_ BK461.out 4).trans rfl, (bc_ BK461.out 5).trans rfl⟩ (fun hHeld => ?_)
        clear hK K
        refine norm_ (a' := ?_) ?_ ?_
        rotate_left
        ·show Act.put _ (some 52) _ = _
         exact qp_
        refine one_ (i := 5) (N := some 54) #[o_,o_,o_,o_,o_,o_,i_,i_,i_,i_,i_,i_,i_,i_,i_,i_,i_,i_,i_] rfl rfl (one_of HT_.out (by kernel_rfl)) (by decide) (fun K hK => ?_)
        refine goes_ Try.func16 (by kernel_rfl) rfl #[.agg #[.int .i64 a1_0, .int .i64 a1_1, .int .i64 a1_2, .slice A1_3 l1_3.length c1_3, .slice A1_4 l1_4.length c1_4, .slice A1_5 l1_5.length c1_5]] (by rfl) rfl rfl ql_ ?_
        with_reducible refine (RfValid.calls kj8 a1_0 a1_1 a1_2 _ _ l1_3 _ _ l1_4 _ _ l1_5 t474 _ ?s1 ?s2 ?s3 ?s4 ?s5 ?s6 A44.out).mono ?_
        (case s1 => exact qc_ HR1_3)
        (case s2 => exact HC1_3.out)
        (case s3 => exact qc_ HR1_4)
        (case s4 => exact HC1_4.out)
        (case s5 => exact qc_ HR1_5)
        (case s6 => exact HC1_5.out)
        rintro e w55 ⟨rfl, hb⟩
        refine ⟨_, rfl, ?_⟩
        replace HO467 := qrb_ HO467 hb
        replace HO471 := qrb_ HO471 hb
        replace BK460 := qkb_ BK460 hb
        replace BK461 := qkb_ BK461 hb
        replace BK462 := qkb_ BK462 hb
        replace HB := qbs_ hb
        (try clear hb)
        (try clear hb2)
        (try clear hk)
        (try clear hi)
        obtain ⟨Ao56, co56, eo56⟩ := Kd.R_slice HO467.out
        (first | subst eo56 | (injection eo56 with f1_ f2_ f3_; have f4_ := f1_.symm; have f5_ := f3_.symm; clear f1_ f2_ f3_; subst f4_; subst f5_))
        obtain ⟨Ao57, co57, eo57⟩ := Kd.R_slice HO471.out
        (first | subst eo57 | (injection eo57 with f1_ f2_ f3_; have f4_ := f1_.symm; have f5_ := f3_.symm; clear f1_ f2_ f3_; subst f4_; subst f5_))
        refine hK.out _ _ ⟨(bc_ BK461.out 0).trans rfl, (bc_ BK461.out 1).trans rfl, (bc_ BK461.out 2).trans rfl, (bc_ BK461.out 3).trans rfl, (bc_ BK461.out 4).trans rfl, (bc_ BK461.out 5).trans rfl⟩ (fun hHeld => ?_)
        clear hK K
        refine norm_ (a' := ?_) ?_ ?_
        rotate_left
        ·show Act.put _ (some 54) _ = _
         exact qp_
        refine qpu_ 6 (some 55) #[o_,o_,o_,o_,o_,o_,o_,i_,i_,i_,i_,i_,i_,i_,i_,i_,i_,i_,i_] ?_
        refine qpu_ 7 (some 56) #[o_,o_,o_,o_,o_,o_,o_,o_,i_,i_,i_,i_,i_,i_,i_,i_,i_,i_,i_] ?_
        refine qpu_ 8 (some 57) #[o_,o_,o_,o_,o_,o_,o_,o_,o_,i_,i_,i_,i_,i_,i_,i_,i_,i_,i_] ?_
        refine qpu_ 9 (some 58) #[o_,o_,o_,o_,o_,o_,o_,o_,o_,o_,i_,i_,i_,i_,i_,i_,i_,i_,i_] ?_
        refine qpu_ 10 (some 59) #[o_,o_,o_,o_,o_,o_,o_,o_,o_,o_,o_,i_,i_,i_,i_,i_,i_,i_,i_] ?_
        refine one_ (i := 11) (N := some 60) #[o_,o_,o_,o_,o_,o_,o_,o_,o_,o_,o_,o_,i_,i_,i_,i_,i_,i_,i_] rfl rfl (one_of HT_.out (by kernel_rfl)) (by decide) (fun K hK => ?_)
        refine goes_ Try.func17 (by kernel_rfl) rfl #[.slice Ao56 t465.length co56, .slice Ao57 t469.length co57] (by rfl) rfl rfl ql_ ?_
        with_reducible refine (RfSameInts.calls kj8 _ _ t465 _ _ t469 false _ ?s1 ?s2 ?s3 ?s4 A46.out).mono ?_
        (case s1 => exact qv_ (Kd.R_reads' HO467.out).2.2)
        (case s2 => exact (Kd.R_reads' HO467.out).2.1)
        (case s3 => exact qv_ (Kd.R_reads' HO471.out).2.2)
        (case s4 => exact (Kd.R_reads' HO471.out).2.1)
        rintro e w' ⟨rfl, ⟨nd, rfl⟩⟩
        refine ⟨_, rfl, ?_⟩
        refine hK.out _ _ ⟨(bc_ BK461.out 0).trans rfl, (bc_ BK461.out 1).trans rfl, (bc_ BK461.out 2).trans rfl, (bc_ BK461.out 3).trans rfl, (bc_ BK461.out 4).trans rfl, (bc_ BK461.out 5).trans rfl⟩ (fun hHeld => ?_)
        clear hK K
        refine norm_ (a' := ?_) ?_ ?_
        rotate_left
        ·show Act.put _ (some 60) _ = _
         exact qp_
        refine qpu_ 12 (some 61) #[o_,o_,o_,o_,o_,o_,o_,o_,o_,o_,o_,o_,o_,i_,i_,i_,i_,i_,i_] ?_
        refine qpu_ 13 (some 62) #[o_,o_,o_,o_,o_,o_,o_,o_,o_,o_,o_,o_,o_,o_,i_,i_,i_,i_,i_] ?_
        refine qpv_ 14 (some 63) #[o_,o_,o_,o_,o_,o_,o_,o_,o_,o_,o_,o_,o_,o_,o_,i_,i_,i_,i_] ?_
        refine qpv_ 15 (some 64) #[o_,o_,o_,o_,o_,o_,o_,o_,o_,o_,o_,o_,o_,o_,o_,o_,i_,i_,i_] ?_
        refine qpv_ 16 (some 65) #[o_,o_,o_,o_,o_,o_,o_,o_,o_,o_,o_,o_,o_,o_,o_,o_,o_,i_,i_] ?_
        refine qpu_ 17 (some 66) #[o_,o_,o_,o_,o_,o_,o_,o_,o_,o_,o_,o_,o_,o_,o_,o_,o_,o_,i_] ?_
        refine qpu_ 18 (some 15) #[o_,o_,o_,o_,o_,o_,o_,o_,o_,o_,o_,o_,o_,o_,o_,o_,o_,o_,o_] ?_
        refine done_ (done_of HT_.out (by kernel_rfl)) ?_
        try go_wp2
        go_meet
        case rel => exact ⟨_, (false), qs_, H', ⟨by have := HJ8.out; first | omega | exact Nat.le_refl _⟩, ⟨qk_ BK460⟩, ⟨qk_ BK461⟩, ⟨qk_ BK462⟩, ⟨qb_⟩⟩
      ·rw [if_neg c45] at H
       have c45b0 : (t473 == t474) = false := by simpa using c45
       (try (have c45b1 : decide (t473 = t474) = false := by simpa using c45))
       (try (have c45b2 : (t473 == t474) = false := by simpa using c45))
       (try (have c45b3 : ¬ (t473 = t474) := by simpa using c45))
       clear c45
       (first | rw [c45b0] | (simp only [i64_w, i32_w]; rw [c45b0]) | skip)
       have H' := am_ H
       clear H
       try go_wp2
       replace HO467 := am_ (Kd.R_drew HO467.out)
       replace HO471 := am_ (Kd.R_drew HO471.out)
       replace BK460 := am_ (bd_ BK460.out)
       replace BK461 := am_ (bd_ BK461.out)
       replace BK462 := am_ (bd_ BK462.out)
       replace HB := am_ (ld_ HB.out)
       refine start_ (n := 19) (S := fun w' => w'.cell? ⟨gb461, 0, none⟩ = some (.int .i64 a1_0) ∧ w'.cell? ⟨gb461, 1, none⟩ = some (.int .i64 a1_1) ∧ w'.cell? ⟨gb461, 2, none⟩ = some (.int .i64 a1_2) ∧ w'.cell? ⟨gb461, 3, none⟩ = some (.slice A1_3 l1_3.length c1_3) ∧ w'.cell? ⟨gb461, 4, none⟩ = some (.slice A1_4 l1_4.length c1_4) ∧ w'.cell? ⟨gb461, 5, none⟩ = some (.slice A1_5 l1_5.length c1_5)) (ds := []) #[i_,i_,i_,i_,i_,i_,i_,i_,i_,i_,i_,i_,i_,i_,i_,i_,i_,i_,i_] (by kernel_rfl) rfl rfl ⟨(bc_ BK461.out 0).trans rfl, (bc_ BK461.out 1).trans rfl, (bc_ BK461.out 2).trans rfl, (bc_ BK461.out 3).trans rfl, (bc_ BK461.out 4).trans rfl, (bc_ BK461.out 5).trans rfl⟩ (fun hHeld => ?_); refine with_tabW LwMeetingMatchesReference.tab6 LwMeetingMatchesReference.bits6 (fun HT_ HW_ => ?_)
       generalize w41.drew = w58 at HO467 HO471 BK460 BK461 BK462 HB hHeld ⊢
       refine qpu_ 0 (some 49) #[o_,i_,i_,i_,i_,i_,i_,i_,i_,i_,i_,i_,i_,i_,i_,i_,i_,i_,i_] ?_
       refine qpu_ 1 (some 50) #[o_,o_,i_,i_,i_,i_,i_,i_,i_,i_,i_,i_,i_,i_,i_,i_,i_,i_,i_] ?_
       refine take_ (i := 2) (N := some 51) (v := ?_) (a' := ?_) #[o_,o_,o_,i_,i_,i_,i_,i_,i_,i_,i_,i_,i_,i_,i_,i_,i_,i_,i_] rfl rfl (take_ofW HT_.out HW_.out (by kernel_rfl)) (fun _ _ _ h => h) (Or.inl ⟨by rfl, ?_⟩) hHeld ?_ ?_
       rotate_left
       ·rintro w' ⟨s0, s1, s2, s3, s4, s5⟩
        go_simp
        with_reducible rfl
       rotate_left
       ·exact qp_
       refine take_ (i := 4) (N := some 53) (v := ?_) (a' := ?_) #[o_,o_,o_,i_,o_,i_,i_,i_,i_,i_,i_,i_,i_,i_,i_,i_,i_,i_,i_] rfl rfl (take_ofW HT_.out HW_.out (by kernel_rfl)) (fun _ _ _ h => h) (Or.inl ⟨by rfl, ?_⟩) hHeld ?_ ?_
       rotate_left
       ·rintro w' ⟨s0, s1, s2, s3, s4, s5⟩
        go_simp
        with_reducible rfl
       rotate_left
       ·exact qp_
       refine one_ (i := 3) (N := some 52) #[o_,o_,o_,o_,o_,i_,i_,i_,i_,i_,i_,i_,i_,i_,i_,i_,i_,i_,i_] rfl rfl (one_of HT_.out (by kernel_rfl)) (by decide) (fun K hK => ?_)
       refine goes_ Try.func15 (by kernel_rfl) rfl #[.agg #[.int .i64 a1_0, .int .i64 a1_1, .int .i64 a1_2, .slice A1_3 l1_3.length c1_3, .slice A1_4 l1_4.length c1_4, .slice A1_5 l1_5.length c1_5]] (by rfl) rfl rfl ql_ ?_
       with_reducible refine (MgValid.calls kj8 a1_0 a1_1 a1_2 _ _ l1_3 _ _ l1_4 _ _ l1_5 t473 _ ?s1 ?s2 ?s3 ?s4 ?s5 ?s6 A43.out).mono ?_
       (case s1 => exact qc_ HR1_3)
       (case s2 => exact HC1_3.out)
       (case s3 => exact qc_ HR1_4)
       (case s4 => exact HC1_4.out)
       (case s5 => exact qc_ HR1_5)
       (case s6 => exact HC1_5.out)
       rintro e w59 ⟨rfl, hb⟩
       refine ⟨_, rfl, ?_⟩
       replace HO467 := qrb_ HO467 hb
       replace HO471 := qrb_ HO471 hb
       replace BK460 := qkb_ BK460 hb
       replace BK461 := qkb_ BK461 hb
       replace BK462 := qkb_ BK462 hb
       replace HB := qbs_ hb
       (try clear hb)
       (try clear hb2)
       (try clear hk)
       (try clear hi)
       refine hK.out _ _ ⟨(bc_ BK461.out 0).trans rfl, (bc_ BK461.out 1).trans rfl, (bc_ BK461.out 2).trans rfl, (bc_ BK461.out 3).trans rfl, (bc_ BK461.out 4).trans rfl, (bc_ BK461.out 5).trans rfl⟩ (fun hHeld => ?_)
       clear hK K
       refine norm_ (a' := ?_) ?_ ?_
       rotate_left
       ·show Act.put _ (some 52) _ = _
        exact qp_
       refine one_ (i := 5) (N := some 54) #[o_,o_,o_,o_,o_,o_,i_,i_,i_,i_,i_,i_,i_,i_,i_,i_,i_,i_,i_] rfl rfl (one_of HT_.out (by kernel_rfl)) (by decide) (fun K hK => ?_)
       refine goes_ Try.func16 (by kernel_rfl) rfl #[.agg #[.int .i64 a1_0, .int .i64 a1_1, .int .i64 a1_2, .slice A1_3 l1_3.length c1_3, .slice A1_4 l1_4.length c1_4, .slice A1_5 l1_5.length c1_5]] (by rfl) rfl rfl ql_ ?_
       with_reducible refine (RfValid.calls kj8 a1_0 a1_1 a1_2 _ _ l1_3 _ _ l1_4 _ _ l1_5 t474 _ ?s1 ?s2 ?s3 ?s4 ?s5 ?s6 A44.out).mono ?_
       (case s1 => exact qc_ HR1_3)
       (case s2 => exact HC1_3.out)
       (case s3 => exact qc_ HR1_4)
       (case s4 => exact HC1_4.out)
       (case s5 => exact qc_ HR1_5)
       (case s6 => exact HC1_5.out)
       rintro e w60 ⟨rfl, hb⟩
       refine ⟨_, rfl, ?_⟩
       replace HO467 := qrb_ HO467 hb
       replace HO471 := qrb_ HO471 hb
       replace BK460 := qkb_ BK460 hb
       replace BK461 := qkb_ BK461 hb
       replace BK462 := qkb_ BK462 hb
       replace HB := qbs_ hb
       (try clear hb)
       (try clear hb2)
       (try clear hk)
       (try clear hi)
       refine hK.out _ _ ⟨(bc_ BK461.out 0).trans rfl, (bc_ BK461.out 1).trans rfl, (bc_ BK461.out 2).trans rfl, (bc_ BK461.out 3).trans rfl, (bc_ BK461.out 4).trans rfl, (bc_ BK461.out 5).trans rfl⟩ (fun hHeld => ?_)
       clear hK K
       refine norm_ (a' := ?_) ?_ ?_
       rotate_left
       ·show Act.put _ (some 54) _ = _
        exact qp_
       refine qpu_ 6 (some 55) #[o_,o_,o_,o_,o_,o_,o_,i_,i_,i_,i_,i_,i_,i_,i_,i_,i_,i_,i_] ?_
       refine qpu_ 7 (some 56) #[o_,o_,o_,o_,o_,o_,o_,o_,i_,i_,i_,i_,i_,i_,i_,i_,i_,i_,i_] ?_
       refine qpu_ 8 (some 57) #[o_,o_,o_,o_,o_,o_,o_,o_,o_,i_,i_,i_,i_,i_,i_,i_,i_,i_,i_] ?_
       refine qpv_ 9 (some 58) #[o_,o_,o_,o_,o_,o_,o_,o_,o_,o_,i_,i_,i_,i_,i_,i_,i_,i_,i_] ?_
       refine qpv_ 10 (some 59) #[o_,o_,o_,o_,o_,o_,o_,o_,o_,o_,o_,i_,i_,i_,i_,i_,i_,i_,i_] ?_
       refine qpv_ 11 (some 60) #[o_,o_,o_,o_,o_,o_,o_,o_,o_,o_,o_,o_,i_,i_,i_,i_,i_,i_,i_] ?_
       refine qpu_ 12 (some 61) #[o_,o_,o_,o_,o_,o_,o_,o_,o_,o_,o_,o_,o_,i_,i_,i_,i_,i_,i_] ?_
       refine qpu_ 13 (some 62) #[o_,o_,o_,o_,o_,o_,o_,o_,o_,o_,o_,o_,o_,o_,i_,i_,i_,i_,i_] ?_
       refine qpv_ 14 (some 63) #[o_,o_,o_,o_,o_,o_,o_,o_,o_,o_,o_,o_,o_,o_,o_,i_,i_,i_,i_] ?_
       refine qpv_ 15 (some 64) #[o_,o_,o_,o_,o_,o_,o_,o_,o_,o_,o_,o_,o_,o_,o_,o_,i_,i_,i_] ?_
       refine qpv_ 16 (some 65) #[o_,o_,o_,o_,o_,o_,o_,o_,o_,o_,o_,o_,o_,o_,o_,o_,o_,i_,i_] ?_
       refine qpu_ 17 (some 66) #[o_,o_,o_,o_,o_,o_,o_,o_,o_,o_,o_,o_,o_,o_,o_,o_,o_,o_,i_] ?_
       refine qpu_ 18 (some 15) #[o_,o_,o_,o_,o_,o_,o_,o_,o_,o_,o_,o_,o_,o_,o_,o_,o_,o_,o_] ?_
       refine done_ (done_of HT_.out (by kernel_rfl)) ?_
       try go_wp2
       go_meet
       case rel => exact ⟨_, (false), qs_, H', ⟨by have := HJ8.out; first | omega | exact Nat.le_refl _⟩, ⟨qk_ BK460⟩, ⟨qk_ BK461⟩, ⟨qk_ BK462⟩, ⟨qb_⟩⟩
     ·replace c42 := be_ c42
      subst c42
      have H1 : (LwMeetingMatchesReference.j1 kj8 a2 l3 a4 a5 false a0_0 a0_1 a0_2 a0_3 a0_4 a1_0 a1_1 a1_2 l1_3 l1_4 l1_5 a6_0 a6_1) = some r := by rw [if_neg (show ¬ (false = true) by decide)] at H; exact H
      clear H
      have H := H1
      clear H1
      have H' := am_ H
      clear H
      try go_wp2
      replace HO467 := am_ (Kd.R_drew HO467.out)
      replace HO471 := am_ (Kd.R_drew HO471.out)
      replace BK460 := am_ (bd_ BK460.out)
      replace BK461 := am_ (bd_ BK461.out)
      replace BK462 := am_ (bd_ BK462.out)
      replace HB := am_ (ld_ HB.out)
      refine start_ (n := 19) (S := fun w' => True) (ds := []) #[i_,i_,i_,i_,i_,i_,i_,i_,i_,i_,i_,i_,i_,i_,i_,i_,i_,i_,i_] (by kernel_rfl) rfl rfl trivial (fun hHeld => ?_); refine with_tabW LwMeetingMatchesReference.tab6 LwMeetingMatchesReference.bits6 (fun HT_ HW_ => ?_)
      generalize w41.drew = w61 at HO467 HO471 BK460 BK461 BK462 HB hHeld ⊢
      refine qpu_ 0 (some 49) #[o_,i_,i_,i_,i_,i_,i_,i_,i_,i_,i_,i_,i_,i_,i_,i_,i_,i_,i_] ?_
      refine qpu_ 1 (some 50) #[o_,o_,i_,i_,i_,i_,i_,i_,i_,i_,i_,i_,i_,i_,i_,i_,i_,i_,i_] ?_
      refine qpv_ 2 (some 51) #[o_,o_,o_,i_,i_,i_,i_,i_,i_,i_,i_,i_,i_,i_,i_,i_,i_,i_,i_] ?_
      refine qpv_ 3 (some 52) #[o_,o_,o_,o_,i_,i_,i_,i_,i_,i_,i_,i_,i_,i_,i_,i_,i_,i_,i_] ?_
      refine qpv_ 4 (some 53) #[o_,o_,o_,o_,o_,i_,i_,i_,i_,i_,i_,i_,i_,i_,i_,i_,i_,i_,i_] ?_
      refine qpv_ 5 (some 54) #[o_,o_,o_,o_,o_,o_,i_,i_,i_,i_,i_,i_,i_,i_,i_,i_,i_,i_,i_] ?_
      refine qpv_ 6 (some 55) #[o_,o_,o_,o_,o_,o_,o_,i_,i_,i_,i_,i_,i_,i_,i_,i_,i_,i_,i_] ?_
      refine qpu_ 7 (some 56) #[o_,o_,o_,o_,o_,o_,o_,o_,i_,i_,i_,i_,i_,i_,i_,i_,i_,i_,i_] ?_
      refine qpu_ 8 (some 57) #[o_,o_,o_,o_,o_,o_,o_,o_,o_,i_,i_,i_,i_,i_,i_,i_,i_,i_,i_] ?_
      refine qpv_ 9 (some 58) #[o_,o_,o_,o_,o_,o_,o_,o_,o_,o_,i_,i_,i_,i_,i_,i_,i_,i_,i_] ?_
      refine qpv_ 10 (some 59) #[o_,o_,o_,o_,o_,o_,o_,o_,o_,o_,o_,i_,i_,i_,i_,i_,i_,i_,i_] ?_
      refine qpv_ 11 (some 60) #[o_,o_,o_,o_,o_,o_,o_,o_,o_,o_,o_,o_,i_,i_,i_,i_,i_,i_,i_] ?_
      refine qpu_ 12 (some 61) #[o_,o_,o_,o_,o_,o_,o_,o_,o_,o_,o_,o_,o_,i_,i_,i_,i_,i_,i_] ?_
      refine qpu_ 13 (some 62) #[o_,o_,o_,o_,o_,o_,o_,o_,o_,o_,o_,o_,o_,o_,i_,i_,i_,i_,i_] ?_
      refine qpv_ 14 (some 63) #[o_,o_,o_,o_,o_,o_,o_,o_,o_,o_,o_,o_,o_,o_,o_,i_,i_,i_,i_] ?_
      refine qpv_ 15 (some 64) #[o_,o_,o_,o_,o_,o_,o_,o_,o_,o_,o_,o_,o_,o_,o_,o_,i_,i_,i_] ?_
      refine qpv_ 16 (some 65) #[o_,o_,o_,o_,o_,o_,o_,o_,o_,o_,o_,o_,o_,o_,o_,o_,o_,i_,i_] ?_
      refine qpu_ 17 (some 66) #[o_,o_,o_,o_,o_,o_,o_,o_,o_,o_,o_,o_,o_,o_,o_,o_,o_,o_,i_] ?_
      refine qpu_ 18 (some 15) #[o_,o_,o_,o_,o_,o_,o_,o_,o_,o_,o_,o_,o_,o_,o_,o_,o_,o_,o_] ?_
      refine done_ (done_of HT_.out (by kernel_rfl)) ?_
      try go_wp2
      go_meet
      case rel => exact ⟨_, (false), qs_, H', ⟨by have := HJ8.out; first | omega | exact Nat.le_refl _⟩, ⟨qk_ BK460⟩, ⟨qk_ BK461⟩, ⟨qk_ BK462⟩, ⟨qb_⟩⟩
    case rest =>
     clear HC32
     try clear c1
     try clear p2
     try clear c4
     try clear c15
     try clear c16
     try clear c17
     try clear c42
     try clear c45
     try clear c45b0
     try clear c45b1
     try clear c45b2
     obtain ⟨kq, x15_31, rfl, HA, HJ31, BK460, BK461, BK462, HB⟩ := hcut
     cases kq with
     | zero => exact absurd HA.out (by simp [LwMeetingMatchesReference.j1])
     | succ kj31 =>
      have H := HA.out
      clear HA
      simp only [LwMeetingMatchesReference.j1] at H
      replace H := bm_ H
      obtain ⟨⟨t476, t479⟩, A620, H⟩ := H
      replace H : ((RfFlaws.f kj31 a0_0 a0_1 a0_2 a0_3 a0_4 a1_0 a1_1 a1_2 l1_3 l1_4 l1_5 a2 l3).bind fun bt480 => (if x15_31 = true then ((RfSameInts.f kj31 t476 bt480.1).bind fun t484 => (if t484 = true then (LwMeetingMatchesReference.j2 kj31 a4 a5 (t479 == bt480.2) a6_0 a6_1) else (LwMeetingMatchesReference.j2 kj31 a4 a5 false a6_0 a6_1))) else (LwMeetingMatchesReference.j2 kj31 a4 a5 false a6_0 a6_1))) = some r := H
      have A62 := am_ A620
      clear A620
      replace H := bm_ H
      obtain ⟨⟨t480, t483⟩, A630, H⟩ := H
      replace H : (if x15_31 = true then ((RfSameInts.f kj31 t476 t480).bind fun t484 => (if t484 = true then (LwMeetingMatchesReference.j2 kj31 a4 a5 (t479 == t483) a6_0 a6_1) else (LwMeetingMatchesReference.j2 kj31 a4 a5 false a6_0 a6_1))) else (LwMeetingMatchesReference.j2 kj31 a4 a5 false a6_0 a6_1)) = some r := H
      have A63 := am_ A630
      clear A630
      have HC64 := am_ H
      clear H
      have hnb65 := NB460_461.out
      have hnc65 := NB461_460.out
      have hnb66 := NB460_462.out
      have hnc66 := NB462_460.out
      obtain ⟨z'67_0, z'67_1, z'67_2, z'67_3, z'67_4⟩ := qz5_ BK460; obtain ⟨y'67_0, y'67_1, y'67_2, y'67_3, y'67_4⟩ := qf5_ BK460
      have hnb68 := NB461_462.out
      have hnc68 := NB462_461.out
      obtain ⟨z'69_0, z'69_1, z'69_2, z'69_3, z'69_4, z'69_5⟩ := qz6_ BK461; obtain ⟨y'69_0, y'69_1, y'69_2, y'69_3, y'69_4, y'69_5⟩ := qf6_ BK461
      go_upto_region 9 with (first | ((with_reducible refine gate_callee (f := 18) rfl ?_); refine goesL_ (some 72) rfl rfl Try.func18 (by kernel_rfl) rfl #[.agg #[.int .i64 a0_0, .int .i64 a0_1, .int .i64 a0_2, .int .i64 a0_3, .bool a0_4], .agg #[.int .i64 a1_0, .int .i64 a1_1, .int .i64 a1_2, .slice A1_3 l1_3.length c1_3, .slice A1_4 l1_4.length c1_4, .slice A1_5 l1_5.length c1_5], .string a2, .slice A3 l3.length c3] rfl ql_ ?_; (with_reducible refine (MgFlaws.calls kj31 a0_0 a0_1 a0_2 a0_3 a0_4 a1_0 a1_1 a1_2 _ _ l1_3 _ _ l1_4 _ _ l1_5 a2 _ _ l3 t476 t479 _ ?s1 ?s2 ?s3 ?s4 ?s5 ?s6 ?s7 ?s8 A62.out).mono ?_); (case s1 => exact qc_ HR1_3); (case s2 => exact HC1_3.out); (case s3 => exact qc_ HR1_4); (case s4 => exact HC1_4.out); (case s5 => exact qc_ HR1_5); (case s6 => exact HC1_5.out); (case s7 => exact qc_ HR3); (case s8 => exact HC3.out); rintro e w70 ⟨v477, rfl, ho0, hb⟩; refine ⟨_, rfl, ?_⟩; have HO478 := am_ (Kd.R_lower ho0 (below_size qb_)); replace BK460 := qkb_ BK460 hb; replace BK461 := qkb_ BK461 hb; replace BK462 := qkb_ BK462 hb; replace HB := qbs_ hb; (try clear hb); (try clear hb2); (try clear hk); (try clear hi); (try clear ho0); obtain ⟨z'71_0, z'71_1, z'71_2, z'71_3, z'71_4⟩ := qz5_ BK460; obtain ⟨y'71_0, y'71_1, y'71_2, y'71_3, y'71_4⟩ := qf5_ BK460; obtain ⟨z'72_0, z'72_1, z'72_2, z'72_3, z'72_4, z'72_5⟩ := qz6_ BK461; obtain ⟨y'72_0, y'72_1, y'72_2, y'72_3, y'72_4, y'72_5⟩ := qf6_ BK461) | ((with_reducible refine gate_callee (f := 19) rfl ?_); refine goesL_ (some 80) rfl rfl Try.func19 (by kernel_rfl) rfl #[.agg #[.int .i64 a0_0, .int .i64 a0_1, .int .i64 a0_2, .int .i64 a0_3, .bool a0_4], .agg #[.int .i64 a1_0, .int .i64 a1_1, .int .i64 a1_2, .slice A1_3 l1_3.length c1_3, .slice A1_4 l1_4.length c1_4, .slice A1_5 l1_5.length c1_5], .string a2, .slice A3 l3.length c3] rfl ql_ ?_; (with_reducible refine (RfFlaws.calls kj31 a0_0 a0_1 a0_2 a0_3 a0_4 a1_0 a1_1 a1_2 _ _ l1_3 _ _ l1_4 _ _ l1_5 a2 _ _ l3 t480 t483 _ ?s1 ?s2 ?s3 ?s4 ?s5 ?s6 ?s7 ?s8 A63.out).mono ?_); (case s1 => exact qc_ HR1_3); (case s2 => exact HC1_3.out); (case s3 => exact qc_ HR1_4); (case s4 => exact HC1_4.out); (case s5 => exact qc_ HR1_5); (case s6 => exact HC1_5.out); (case s7 => exact qc_ HR3); (case s8 => exact HC3.out); rintro e w73 ⟨v481, rfl, ho0, hb⟩; refine ⟨_, rfl, ?_⟩; have HO482 := am_ (Kd.R_lower (Kd.R_new' ho0 (Kd.R_lt (qr_ HO478))) (below_size qb_)); replace HO478 := qel_ HO478 ho0 hb; replace BK460 := qkb_ BK460 hb; replace BK461 := qkb_ BK461 hb; replace BK462 := qkb_ BK462 hb; replace HB := qbs_ hb; (try clear hb); (try clear hb2); (try clear hk); (try clear hi); (try clear ho0)))
      (try simp only [Act.put, List.setIfInBounds_toArray, List.set_cons_zero, List.set_cons_succ])
      go_cut [15] (fun v15 wc => ∃ (kq : Nat) (x15_63 : Bool), v15 = .bool x15_63 ∧ Aside0 (LwMeetingMatchesReference.j2 kq a4 a5 x15_63 a6_0 a6_1 = some r) ∧ Aside0 (kq ≤ kj31) ∧ Aside0 (wc.heap[gb460]? = some (.cells #[.int .i64 a0_0, .int .i64 a0_1, .int .i64 a0_2, .int .i64 a0_3, .bool a0_4] 25 (0, 0))) ∧ Aside0 (wc.heap[gb461]? = some (.cells #[.int .i64 a1_0, .int .i64 a1_1, .int .i64 a1_2, (.slice A1_3 l1_3.length c1_3), (.slice A1_4 l1_4.length c1_4), (.slice A1_5 l1_5.length c1_5)] 30 (0, 0))) ∧ Aside0 (wc.heap[gb462]? = some (.cells #[.int .i64 a6_0, .int .i64 a6_1] 23 (0, 0))) ∧ Aside0 (Below w.heap.size w wc))
      case first =>
       have H := HC64.out
       clear HC64
       by_cases c74 : x15_31 = true
       ·subst c74
        have H1 : ((RfSameInts.f kj31 t476 t480).bind fun t484 => (if t484 = true then (LwMeetingMatchesReference.j2 kj31 a4 a5 (t479 == t483) a6_0 a6_1) else (LwMeetingMatchesReference.j2 kj31 a4 a5 false a6_0 a6_1))) = some r := by rw [if_pos rfl] at H; exact H
        clear H
        have H := H1
        clear H1
        replace H := bm_ H
        obtain ⟨t484, A750, H⟩ := H
        replace H : (if t484 = true then (LwMeetingMatchesReference.j2 kj31 a4 a5 (t479 == t483) a6_0 a6_1) else (LwMeetingMatchesReference.j2 kj31 a4 a5 false a6_0 a6_1)) = some r := H
        have A75 := am_ A750
        clear A750
        by_cases c76 : t484 = true
        ·subst c76
         have H1 : (LwMeetingMatchesReference.j2 kj31 a4 a5 (t479 == t483) a6_0 a6_1) = some r := by rw [if_pos rfl] at H; exact H
         clear H
         have H := H1
         clear H1
         have H' := am_ H
         clear H
         obtain ⟨Ao77, co77, eo77⟩ := Kd.R_slice HO478.out
         subst eo77
         obtain ⟨Ao78, co78, eo78⟩ := Kd.R_slice HO482.out
         subst eo78
         go_wp2_with (first | (go_at_call 17; (with_reducible refine (RfSameInts.calls kj31 _ _ t476 _ _ t480 true _ ?s1 ?s2 ?s3 ?s4 A75.out).mono ?_); (case s1 => exact qv_ (Kd.R_reads' HO478.out).2.2); (case s2 => exact (Kd.R_reads' HO478.out).2.1); (case s3 => exact qv_ (Kd.R_reads' HO482.out).2.2); (case s4 => exact (Kd.R_reads' HO482.out).2.1); rintro e w' ⟨rfl, ⟨nd, rfl⟩⟩))
         go_meet
         case rel => exact ⟨_, ((t479 == t483)), qs_, H', ⟨by have := HJ8.out; have := HJ31.out; first | omega | exact Nat.le_refl _⟩, ⟨qk_ BK460⟩, ⟨qk_ BK461⟩, ⟨qk_ BK462⟩, ⟨qb_⟩⟩
        ·replace c76 := be_ c76
         subst c76
         have H1 : (LwMeetingMatchesReference.j2 kj31 a4 a5 false a6_0 a6_1) = some r := by rw [if_neg (show ¬ (false = true) by decide)] at H; exact H
         clear H
         have H := H1
         clear H1
         have H' := am_ H
         clear H
         obtain ⟨Ao79, co79, eo79⟩ := Kd.R_slice HO478.out
         subst eo79
         obtain ⟨Ao80, co80, eo80⟩ := Kd.R_slice HO482.out
         subst eo80
         go_wp2_with (first | (go_at_call 17; (with_reducible refine (RfSameInts.calls kj31 _ _ t476 _ _ t480 false _ ?s1 ?s2 ?s3 ?s4 A75.out).mono ?_); (case s1 => exact qv_ (Kd.R_reads' HO478.out).2.2); (case s2 => exact (Kd.R_reads' HO478.out).2.1); (case s3 => exact qv_ (Kd.R_reads' HO482.out).2.2); (case s4 => exact (Kd.R_reads' HO482.out).2.1); rintro e w' ⟨rfl, ⟨nd, rfl⟩⟩))
         go_meet
         case rel => exact ⟨_, (false), qs_, H', ⟨by have := HJ8.out; have := HJ31.out; first | omega | exact Nat.le_refl _⟩, ⟨qk_ BK460⟩, ⟨qk_ BK461⟩, ⟨qk_ BK462⟩, ⟨qb_⟩⟩
       ·replace c74 := be_ c74
        subst c74
        have H1 : (LwMeetingMatchesReference.j2 kj31 a4 a5 false a6_0 a6_1) = some r := by rw [if_neg (show ¬ (false = true) by decide)] at H; exact H
        clear H
        have H := H1
        clear H1
        have H' := am_ H
        clear H
        go_wp2
        go_meet
        case rel => exact ⟨_, (false), qs_, H', ⟨by have := HJ8.out; have := HJ31.out; first | omega | exact Nat.le_refl _⟩, ⟨qk_ BK460⟩, ⟨qk_ BK461⟩, ⟨qk_ BK462⟩, ⟨qb_⟩⟩
      case rest =>
       clear HC64
       try clear c1
       try clear p2
       try clear c3
       try clear c4
       try clear c6
       try clear c7
       try clear c15
       try clear c16
       try clear c17
       try clear c18
       try clear c19
       try clear c42
       try clear c45
       try clear c45b0
       try clear c45b1
       try clear c45b2
       try clear c65
       try clear c66
       try clear c68
       try clear c74
       try clear c76
       try clear z'67_0 z'67_1 z'67_2 z'67_3 z'67_4
       try clear z'69_0 z'69_1 z'69_2 z'69_3 z'69_4 z'69_5
       try clear z'71_0 z'71_1 z'71_2 z'71_3 z'71_4
       try clear z'72_0 z'72_1 z'72_2 z'72_3 z'72_4 z'72_5
       try clear y'67_0 y'67_1 y'67_2 y'67_3 y'67_4
       try clear y'69_0 y'69_1 y'69_2 y'69_3 y'69_4 y'69_5
       try clear y'71_0 y'71_1 y'71_2 y'71_3 y'71_4
       try clear y'72_0 y'72_1 y'72_2 y'72_3 y'72_4 y'72_5
       try clear p2
       obtain ⟨kq, x15_63, rfl, HA, HJ63, BK460, BK461, BK462, HB⟩ := hcut
       cases kq with
       | zero => exact absurd HA.out (by simp [LwMeetingMatchesReference.j2])
       | succ kj63 =>
        have H := HA.out
        clear HA
        simp only [LwMeetingMatchesReference.j2] at H
        replace H := bm_ H
        obtain ⟨⟨t485, t486⟩, A810, H⟩ := H
        replace H : ((RfPassed.f kj63 a4 a5 a6_0 a6_1).bind fun bt487 => (if x15_63 = true then (if (t485 == bt487.1) = true then (some (t486 == bt487.2)) else (some false)) else (some false))) = some r := H
        have A81 := am_ A810
        clear A810
        replace H := bm_ H
        obtain ⟨⟨t487, t488⟩, A820, H⟩ := H
        replace H : (if x15_63 = true then (if (t485 == t487) = true then (some (t486 == t488)) else (some false)) else (some false)) = some r := H
        have A82 := am_ A820
        clear A820
        by_cases c83 : x15_63 = true
        ·subst c83
         have H1 : (if (t485 == t487) = true then (some (t486 == t488)) else (some false)) = some r := by rw [if_pos rfl] at H; exact H
         clear H
         have H := H1
         clear H1
         by_cases c84 : (t485 == t487) = true
         ·rw [if_pos c84] at H
          have c84b0 : (t485 == t487) = true := c84
          (try (have c84b1 : decide (t485 = t487) = true := by simpa using c84))
          (try (have c84b2 : (t485 == t487) = true := by simpa using c84))
          clear c84
          obtain rfl := si_ H
          have hnb85 := NB462_460.out
          have hnc85 := NB460_462.out
          have hnb86 := NB462_461.out
          have hnc86 := NB461_462.out
          obtain ⟨z'87_0, z'87_1⟩ := qz2_ BK462; obtain ⟨y'87_0, y'87_1⟩ := qf2_ BK462
          go_wp2_with (first | ((with_reducible refine gate_callee (f := 20) rfl ?_); refine goesL_ (some 98) rfl rfl Try.func20 (by kernel_rfl) rfl #[.int .i64 a4, .int .i64 a5, .agg #[.int .i64 a6_0, .int .i64 a6_1]] rfl ql_ ?_; (with_reducible refine (MgPassed.calls kj63 a4 a5 a6_0 a6_1 t485 t486 _ A81.out).mono ?_); rintro e w88 ⟨rfl, hb⟩; refine ⟨_, rfl, ?_⟩; replace BK460 := qkb_ BK460 hb; replace BK461 := qkb_ BK461 hb; replace BK462 := qkb_ BK462 hb; replace HB := qbs_ hb; (try clear hb); (try clear hb2); (try clear hk); (try clear hi); obtain ⟨z'89_0, z'89_1⟩ := qz2_ BK462; obtain ⟨y'89_0, y'89_1⟩ := qf2_ BK462) | ((with_reducible refine gate_callee (f := 21) rfl ?_); refine goesL_ (some 105) rfl rfl Try.func21 (by kernel_rfl) rfl #[.int .i64 a4, .int .i64 a5, .agg #[.int .i64 a6_0, .int .i64 a6_1]] rfl ql_ ?_; (with_reducible refine (RfPassed.calls kj63 a4 a5 a6_0 a6_1 t487 t488 _ A82.out).mono ?_); rintro e w90 ⟨rfl, hb⟩; refine ⟨_, rfl, ?_⟩; replace BK460 := qkb_ BK460 hb; replace BK461 := qkb_ BK461 hb; replace BK462 := qkb_ BK462 hb; replace HB := qbs_ hb; (try clear hb); (try clear hb2); (try clear hk); (try clear hi)))
          go_ret
          exact ⟨qx_, qb_⟩
         ·rw [if_neg c84] at H
          have c84b0 : (t485 == t487) = false := by simpa using c84
          (try (have c84b1 : decide (t485 = t487) = false := by simpa using c84))
          (try (have c84b2 : (t485 == t487) = false := by simpa using c84))
          (try (have c84b3 : ¬ (t485 = t487) := by simpa using c84))
          clear c84
          obtain rfl := si_ H
          have hnb91 := NB462_460.out
          have hnc91 := NB460_462.out
          have hnb92 := NB462_461.out
          have hnc92 := NB461_462.out
          obtain ⟨z'93_0, z'93_1⟩ := qz2_ BK462; obtain ⟨y'93_0, y'93_1⟩ := qf2_ BK462
          go_wp2_with (first | ((with_reducible refine gate_callee (f := 20) rfl ?_); refine goesL_ (some 98) rfl rfl Try.func20 (by kernel_rfl) rfl #[.int .i64 a4, .int .i64 a5, .agg #[.int .i64 a6_0, .int .i64 a6_1]] rfl ql_ ?_; (with_reducible refine (MgPassed.calls kj63 a4 a5 a6_0 a6_1 t485 t486 _ A81.out).mono ?_); rintro e w94 ⟨rfl, hb⟩; refine ⟨_, rfl, ?_⟩; replace BK460 := qkb_ BK460 hb; replace BK461 := qkb_ BK461 hb; replace BK462 := qkb_ BK462 hb; replace HB := qbs_ hb; (try clear hb); (try clear hb2); (try clear hk); (try clear hi); obtain ⟨z'95_0, z'95_1⟩ := qz2_ BK462; obtain ⟨y'95_0, y'95_1⟩ := qf2_ BK462) | ((with_reducible refine gate_callee (f := 21) rfl ?_); refine goesL_ (some 105) rfl rfl Try.func21 (by kernel_rfl) rfl #[.int .i64 a4, .int .i64 a5, .agg #[.int .i64 a6_0, .int .i64 a6_1]] rfl ql_ ?_; (with_reducible refine (RfPassed.calls kj63 a4 a5 a6_0 a6_1 t487 t488 _ A82.out).mono ?_); rintro e w96 ⟨rfl, hb⟩; refine ⟨_, rfl, ?_⟩; replace BK460 := qkb_ BK460 hb; replace BK461 := qkb_ BK461 hb; replace BK462 := qkb_ BK462 hb; replace HB := qbs_ hb; (try clear hb); (try clear hb2); (try clear hk); (try clear hi)))
          go_ret
          exact ⟨qx_, qb_⟩
        ·replace c83 := be_ c83
         subst c83
         have H1 : (some false) = some r := by rw [if_neg (show ¬ (false = true) by decide)] at H; exact H
         clear H
         have H := H1
         clear H1
         obtain rfl := si_ H
         have hnb97 := NB462_460.out
         have hnc97 := NB460_462.out
         have hnb98 := NB462_461.out
         have hnc98 := NB461_462.out
         obtain ⟨z'99_0, z'99_1⟩ := qz2_ BK462; obtain ⟨y'99_0, y'99_1⟩ := qf2_ BK462
         go_wp2_with (first | ((with_reducible refine gate_callee (f := 20) rfl ?_); refine goesL_ (some 98) rfl rfl Try.func20 (by kernel_rfl) rfl #[.int .i64 a4, .int .i64 a5, .agg #[.int .i64 a6_0, .int .i64 a6_1]] rfl ql_ ?_; (with_reducible refine (MgPassed.calls kj63 a4 a5 a6_0 a6_1 t485 t486 _ A81.out).mono ?_); rintro e w100 ⟨rfl, hb⟩; refine ⟨_, rfl, ?_⟩; replace BK460 := qkb_ BK460 hb; replace BK461 := qkb_ BK461 hb; replace BK462 := qkb_ BK462 hb; replace HB := qbs_ hb; (try clear hb); (try clear hb2); (try clear hk); (try clear hi); obtain ⟨z'101_0, z'101_1⟩ := qz2_ BK462; obtain ⟨y'101_0, y'101_1⟩ := qf2_ BK462) | ((with_reducible refine gate_callee (f := 21) rfl ?_); refine goesL_ (some 105) rfl rfl Try.func21 (by kernel_rfl) rfl #[.int .i64 a4, .int .i64 a5, .agg #[.int .i64 a6_0, .int .i64 a6_1]] rfl ql_ ?_; (with_reducible refine (RfPassed.calls kj63 a4 a5 a6_0 a6_1 t487 t488 _ A82.out).mono ?_); rintro e w102 ⟨rfl, hb⟩; refine ⟨_, rfl, ?_⟩; replace BK460 := qkb_ BK460 hb; replace BK461 := qkb_ BK461 hb; replace BK462 := qkb_ BK462 hb; replace HB := qbs_ hb; (try clear hb); (try clear hb2); (try clear hk); (try clear hi)))
         go_ret
         exact ⟨qx_, qb_⟩
end Go.Proofs.Ytemnlgefngjliaa.Px
