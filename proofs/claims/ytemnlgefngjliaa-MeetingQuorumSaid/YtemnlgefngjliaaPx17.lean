/- Contracts of Go functions, printed. Conditions: as each theorem states. -/
import Derived.Test.YtemnlgefngjliaaPx0
import Derived.Test.YtemnlgefngjliaaPx16
namespace Go.Proofs.Ytemnlgefngjliaa.Px
open Go.Proofs.Ytemnlgefngjliaa.Given
open Go.RowKit Go.Proofs.YtemnlgefngjliaaW.PrintWords Go.Proofs.YtemnlgefngjliaaW.PrintLast Go.Proofs.YtemnlgefngjliaaW.PrintMore
attribute [local go_sem] a2f a2g a2r a2s a1x a1y a2h a2i
set_option linter.unusedVariables false
set_option linter.unusedSimpArgs false
def a4m.f (k : Nat) (a0_0 a0_1 : Int) : Option (Bool) := (a4p.f k a0_0 a0_1).bind fun t361 => (if t361 = true then (if a0_0 ≥ 0 then (some (decide (a0_0 ≤ a0_1))) else (some false)) else (some false))
theorem a4m.mono : ∀ a0 a1 k, LeO (a4m.f k a0 a1) (a4m.f (k + 1) a0 a1) := by
 intro a0 a1 k
 unfold a4m.f
 with_reducible (repeat' first | apply a4p.mono | apply LeO.refl | apply LeO.none | apply LeO.ite | refine LeO.bind ?_ (fun _ => ?_))
set_option maxHeartbeats 8000000 in
set_option maxRecDepth 100000 in
theorem a4m.calls (k : Nat) (a0_0 a0_1 : Int) (r : Bool) (w : World) (h : a4m.f k a0_0 a0_1 = some r) :
  Calls Try.prog 53 #[.agg #[.int .i64 a0_0, .int .i64 a0_1]] w fun e w' => e = .returned (.bool r) ∧ Below w.heap.size w w' := by
 have hu23 := Try.underlying23
 have HB := am_ (Below.refl w.heap.size w)
 have H : ((a4p.f k a0_0 a0_1).bind fun t361 => (if t361 = true then (if a0_0 ≥ 0 then (some (decide (a0_0 ≤ a0_1))) else (some false)) else (some false))) = some r := h
 clear h
 replace H := bm_ H
 obtain ⟨t361, A20, H⟩ := H
 replace H : (if t361 = true then (if a0_0 ≥ 0 then (some (decide (a0_0 ≤ a0_1))) else (some false)) else (some false)) = some r := H
 have A2 := am_ A20
 clear A20
 by_cases c3 : t361 = true
 ·subst c3
  have H1 : (if a0_0 ≥ 0 then (some (decide (a0_0 ≤ a0_1))) else (some false)) = some r := by rw [if_pos rfl] at H; exact H
  clear H
  have H := H1
  clear H1
  by_cases c4 : a0_0 ≥ 0
  ·rw [if_pos c4] at H
   have c4b0 : decide (0 ≤ a0_0) = true := decide_eq_true c4
   clear c4
   obtain rfl := si_ H
   go_enter Try.func53, Try.ntmps53
   go_wp2_with (first | ((with_reducible refine a0f (N := 1) rfl ?_); refine qev_ 1 #[.int .i64 a0_0, .int .i64 a0_1] 23 ?_; intro gb360 hg w5 hbox hb; have BK360 := am_ (hbox); have GW360 := qga_ hg; have GE360 := qga_ hg; replace HB := qbs_ hb; clear hb hbox hg; obtain ⟨z'6_0, z'6_1⟩ := qz2_ BK360; obtain ⟨y'6_0, y'6_1⟩ := qf2_ BK360) | ((with_reducible refine a0e (f := 68) rfl ?_); refine a0w (some 4) rfl rfl Try.func68 (by kernel_rfl) rfl #[.agg #[.int .i64 a0_0, .int .i64 a0_1]] rfl ql_ ?_; (with_reducible refine (a4p.calls k a0_0 a0_1 true _ A2.out).mono ?_); rintro e w7 ⟨rfl, hb⟩; refine ⟨_, rfl, ?_⟩; replace BK360 := qkb_ BK360 hb; replace HB := qbs_ hb; (try clear hb); (try clear hb2); (try clear hk); (try clear hi); obtain ⟨z'8_0, z'8_1⟩ := qz2_ BK360; obtain ⟨y'8_0, y'8_1⟩ := qf2_ BK360))
   go_ret
   exact ⟨qx_, qb_⟩
  ·rw [if_neg c4] at H
   have c4b0 : decide (0 ≤ a0_0) = false := decide_eq_false c4
   clear c4
   obtain rfl := si_ H
   go_enter Try.func53, Try.ntmps53
   go_wp2_with (first | ((with_reducible refine a0f (N := 1) rfl ?_); refine qev_ 1 #[.int .i64 a0_0, .int .i64 a0_1] 23 ?_; intro gb360 hg w9 hbox hb; have BK360 := am_ (hbox); have GW360 := qga_ hg; have GE360 := qga_ hg; replace HB := qbs_ hb; clear hb hbox hg; obtain ⟨z'10_0, z'10_1⟩ := qz2_ BK360; obtain ⟨y'10_0, y'10_1⟩ := qf2_ BK360) | ((with_reducible refine a0e (f := 68) rfl ?_); refine a0w (some 4) rfl rfl Try.func68 (by kernel_rfl) rfl #[.agg #[.int .i64 a0_0, .int .i64 a0_1]] rfl ql_ ?_; (with_reducible refine (a4p.calls k a0_0 a0_1 true _ A2.out).mono ?_); rintro e w11 ⟨rfl, hb⟩; refine ⟨_, rfl, ?_⟩; replace BK360 := qkb_ BK360 hb; replace HB := qbs_ hb; (try clear hb); (try clear hb2); (try clear hk); (try clear hi); obtain ⟨z'12_0, z'12_1⟩ := qz2_ BK360; obtain ⟨y'12_0, y'12_1⟩ := qf2_ BK360))
   go_ret
   exact ⟨qx_, qb_⟩
 ·replace c3 := be_ c3
  subst c3
  have H1 : (some false) = some r := by rw [if_neg (show ¬ (false = true) by decide)] at H; exact H
  clear H
  have H := H1
  clear H1
  obtain rfl := si_ H
  go_enter Try.func53, Try.ntmps53
  go_wp2_with (first | ((with_reducible refine a0f (N := 1) rfl ?_); refine qev_ 1 #[.int .i64 a0_0, .int .i64 a0_1] 23 ?_; intro gb360 hg w13 hbox hb; have BK360 := am_ (hbox); have GW360 := qga_ hg; have GE360 := qga_ hg; replace HB := qbs_ hb; clear hb hbox hg; obtain ⟨z'14_0, z'14_1⟩ := qz2_ BK360; obtain ⟨y'14_0, y'14_1⟩ := qf2_ BK360) | ((with_reducible refine a0e (f := 68) rfl ?_); refine a0w (some 4) rfl rfl Try.func68 (by kernel_rfl) rfl #[.agg #[.int .i64 a0_0, .int .i64 a0_1]] rfl ql_ ?_; (with_reducible refine (a4p.calls k a0_0 a0_1 false _ A2.out).mono ?_); rintro e w15 ⟨rfl, hb⟩; refine ⟨_, rfl, ?_⟩; replace BK360 := qkb_ BK360 hb; replace HB := qbs_ hb; (try clear hb); (try clear hb2); (try clear hk); (try clear hi)))
  go_ret
  exact ⟨qx_, qb_⟩
def a3e.f (k : Nat) (a0_0 a0_1 a0_2 a0_3 : Int) (a0_4 : Bool) : Option (Bool) := if a0_0 ≥ 0 then (if a0_0 ≤ 1000 then ((a4m.f k a0_1 a0_2).bind fun t363 => (if t363 = true then (if a0_3 ≥ 0 then (some (decide (a0_3 ≤ 64))) else (some false)) else (some false))) else (some false)) else (some false)
theorem a3e.mono : ∀ a0 a1 a2 a3 a4 k, LeO (a3e.f k a0 a1 a2 a3 a4) (a3e.f (k + 1) a0 a1 a2 a3 a4) := by
 intro a0 a1 a2 a3 a4 k
 unfold a3e.f
 with_reducible (repeat' first | apply a4m.mono | apply LeO.refl | apply LeO.none | apply LeO.ite | refine LeO.bind ?_ (fun _ => ?_))
set_option maxHeartbeats 8000000 in
set_option maxRecDepth 100000 in
theorem a3e.calls (k : Nat) (a0_0 a0_1 a0_2 a0_3 : Int) (a0_4 r : Bool) (w : World) (h : a3e.f k a0_0 a0_1 a0_2 a0_3 a0_4 = some r) :
  Calls Try.prog 35 #[.agg #[.int .i64 a0_0, .int .i64 a0_1, .int .i64 a0_2, .int .i64 a0_3, .bool a0_4]] w fun e w' => e = .returned (.bool r) ∧ Below w.heap.size w w' := by
 have hu25 := Try.underlying25
 have hu23 := Try.underlying23
 have HB := am_ (Below.refl w.heap.size w)
 have H : (if a0_0 ≥ 0 then (if a0_0 ≤ 1000 then ((a4m.f k a0_1 a0_2).bind fun t363 => (if t363 = true then (if a0_3 ≥ 0 then (some (decide (a0_3 ≤ 64))) else (some false)) else (some false))) else (some false)) else (some false)) = some r := h
 clear h
 by_cases c2 : a0_0 ≥ 0
 ·rw [if_pos c2] at H
  have c2b0 : decide (0 ≤ a0_0) = true := decide_eq_true c2
  clear c2
  by_cases c3 : a0_0 ≤ 1000
  ·rw [if_pos c3] at H
   have c3b0 : decide (a0_0 ≤ 1000) = true := decide_eq_true c3
   clear c3
   replace H := bm_ H
   obtain ⟨t363, A40, H⟩ := H
   replace H : (if t363 = true then (if a0_3 ≥ 0 then (some (decide (a0_3 ≤ 64))) else (some false)) else (some false)) = some r := H
   have A4 := am_ A40
   clear A40
   by_cases c5 : t363 = true
   ·subst c5
    have H1 : (if a0_3 ≥ 0 then (some (decide (a0_3 ≤ 64))) else (some false)) = some r := by rw [if_pos rfl] at H; exact H
    clear H
    have H := H1
    clear H1
    by_cases c6 : a0_3 ≥ 0
    ·rw [if_pos c6] at H
     have c6b0 : decide (0 ≤ a0_3) = true := decide_eq_true c6
     clear c6
     obtain rfl := si_ H
     go_enter Try.func35, Try.ntmps35
     go_wp2_with (first | ((with_reducible refine a0f (N := 1) rfl ?_); refine qev_ 1 #[.int .i64 a0_0, .int .i64 a0_1, .int .i64 a0_2, .int .i64 a0_3, .bool a0_4] 25 ?_; intro gb362 hg w7 hbox hb; have BK362 := am_ (hbox); have GW362 := qga_ hg; have GE362 := qga_ hg; replace HB := qbs_ hb; clear hb hbox hg; obtain ⟨z'8_0, z'8_1, z'8_2, z'8_3, z'8_4⟩ := qz5_ BK362; obtain ⟨y'8_0, y'8_1, y'8_2, y'8_3, y'8_4⟩ := qf5_ BK362) | (go_at_call 53; (with_reducible refine (a4m.calls k a0_1 a0_2 true _ A4.out).mono ?_); rintro e w9 ⟨rfl, hb⟩; replace BK362 := qkb_ BK362 hb; replace HB := qbs_ hb; (try clear hb); (try clear hb2); (try clear hk); (try clear hi); obtain ⟨z'10_0, z'10_1, z'10_2, z'10_3, z'10_4⟩ := qz5_ BK362; obtain ⟨y'10_0, y'10_1, y'10_2, y'10_3, y'10_4⟩ := qf5_ BK362))
     go_ret
     exact ⟨qx_, qb_⟩
    ·rw [if_neg c6] at H
     have c6b0 : decide (0 ≤ a0_3) = false := decide_eq_false c6
     clear c6
     obtain rfl := si_ H
     go_enter Try.func35, Try.ntmps35
     go_wp2_with (first | ((with_reducible refine a0f (N := 1) rfl ?_); refine qev_ 1 #[.int .i64 a0_0, .int .i64 a0_1, .int .i64 a0_2, .int .i64 a0_3, .bool a0_4] 25 ?_; intro gb362 hg w11 hbox hb; have BK362 := am_ (hbox); have GW362 := qga_ hg; have GE362 := qga_ hg; replace HB := qbs_ hb; clear hb hbox hg; obtain ⟨z'12_0, z'12_1, z'12_2, z'12_3, z'12_4⟩ := qz5_ BK362; obtain ⟨y'12_0, y'12_1, y'12_2, y'12_3, y'12_4⟩ := qf5_ BK362) | (go_at_call 53; (with_reducible refine (a4m.calls k a0_1 a0_2 true _ A4.out).mono ?_); rintro e w13 ⟨rfl, hb⟩; replace BK362 := qkb_ BK362 hb; replace HB := qbs_ hb; (try clear hb); (try clear hb2); (try clear hk); (try clear hi); obtain ⟨z'14_0, z'14_1, z'14_2, z'14_3, z'14_4⟩ := qz5_ BK362; obtain ⟨y'14_0, y'14_1, y'14_2, y'14_3, y'14_4⟩ := qf5_ BK362))
     go_ret
     exact ⟨qx_, qb_⟩
   ·replace c5 := be_ c5
    subst c5
    have H1 : (some false) = some r := by rw [if_neg (show ¬ (false = true) by decide)] at H; exact H
    clear H
    have H := H1
    clear H1
    obtain rfl := si_ H
    go_enter Try.func35, Try.ntmps35
    go_wp2_with (first | ((with_reducible refine a0f (N := 1) rfl ?_); refine qev_ 1 #[.int .i64 a0_0, .int .i64 a0_1, .int .i64 a0_2, .int .i64 a0_3, .bool a0_4] 25 ?_; intro gb362 hg w15 hbox hb; have BK362 := am_ (hbox); have GW362 := qga_ hg; have GE362 := qga_ hg; replace HB := qbs_ hb; clear hb hbox hg; obtain ⟨z'16_0, z'16_1, z'16_2, z'16_3, z'16_4⟩ := qz5_ BK362; obtain ⟨y'16_0, y'16_1, y'16_2, y'16_3, y'16_4⟩ := qf5_ BK362) | (go_at_call 53; (with_reducible refine (a4m.calls k a0_1 a0_2 false _ A4.out).mono ?_); rintro e w17 ⟨rfl, hb⟩; replace BK362 := qkb_ BK362 hb; replace HB := qbs_ hb; (try clear hb); (try clear hb2); (try clear hk); (try clear hi)))
    go_ret
    exact ⟨qx_, qb_⟩
  ·rw [if_neg c3] at H
   have c3b0 : decide (a0_0 ≤ 1000) = false := decide_eq_false c3
   clear c3
   obtain rfl := si_ H
   go_enter Try.func35, Try.ntmps35
   go_wp2_with (first | ((with_reducible refine a0f (N := 1) rfl ?_); refine qev_ 1 #[.int .i64 a0_0, .int .i64 a0_1, .int .i64 a0_2, .int .i64 a0_3, .bool a0_4] 25 ?_; intro gb362 hg w18 hbox hb; have BK362 := am_ (hbox); have GW362 := qga_ hg; have GE362 := qga_ hg; replace HB := qbs_ hb; clear hb hbox hg; obtain ⟨z'19_0, z'19_1, z'19_2, z'19_3, z'19_4⟩ := qz5_ BK362; obtain ⟨y'19_0, y'19_1, y'19_2, y'19_3, y'19_4⟩ := qf5_ BK362))
   go_ret
   exact ⟨qx_, qb_⟩
 ·rw [if_neg c2] at H
  have c2b0 : decide (0 ≤ a0_0) = false := decide_eq_false c2
  clear c2
  obtain rfl := si_ H
  go_enter Try.func35, Try.ntmps35
  go_wp2_with (first | ((with_reducible refine a0f (N := 1) rfl ?_); refine qev_ 1 #[.int .i64 a0_0, .int .i64 a0_1, .int .i64 a0_2, .int .i64 a0_3, .bool a0_4] 25 ?_; intro gb362 hg w20 hbox hb; have BK362 := am_ (hbox); have GW362 := qga_ hg; have GE362 := qga_ hg; replace HB := qbs_ hb; clear hb hbox hg; obtain ⟨z'21_0, z'21_1, z'21_2, z'21_3, z'21_4⟩ := qz5_ BK362; obtain ⟨y'21_0, y'21_1, y'21_2, y'21_3, y'21_4⟩ := qf5_ BK362))
  go_ret
  exact ⟨qx_, qb_⟩
def RcIn.f (a0 : Int) : Option (Bool) := if a0 ≥ 0 then (some (decide (a0 ≤ 36524))) else (some false)
set_option maxHeartbeats 8000000 in
set_option maxRecDepth 100000 in
theorem RcIn.calls (a0 : Int) (r : Bool) (w : World) (h : RcIn.f a0 = some r) :
  Calls Try.prog 39 #[.int .i64 a0] w fun e w' => e = .returned (.bool r) ∧ a1j w w' := by
 have H : (if a0 ≥ 0 then (some (decide (a0 ≤ 36524))) else (some false)) = some r := h
 clear h
 by_cases c2 : a0 ≥ 0
 ·rw [if_pos c2] at H
  have c2b0 : decide (0 ≤ a0) = true := decide_eq_true c2
  clear c2
  obtain rfl := si_ H
  go_enter Try.func39, Try.ntmps39
  go_wp2
  go_ret
  exact ⟨qs_, qy_⟩
 ·rw [if_neg c2] at H
  have c2b0 : decide (0 ≤ a0) = false := decide_eq_false c2
  clear c2
  obtain rfl := si_ H
  go_enter Try.func39, Try.ntmps39
  go_wp2
  go_ret
  exact ⟨qs_, qy_⟩
mutual
def a1d.j0 : Nat → ByteArray → Bool → Option (Bool)
 | 0, _, _ => none
 | k + 1, x0, x12 => if x12 = true then (some false) else (a1d.l0 k x0 0)
def a1d.l0 : Nat → ByteArray → Int → Option (Bool)
 | 0, _, _ => none
 | k + 1, x0, x3 => if x3 < (x0.size : Int) then (if 0 ≤ x3 then (if (bt x0 x3) < 97 then (if x3 = 0 then (a1d.j2 k x0 x3 true) else (if (bt x0 x3) = 95 then (a1d.j2 k x0 x3 false) else (if (bt x0 x3) < 48 then (a1d.j2 k x0 x3 true) else (a1d.j2 k x0 x3 (decide ((bt x0 x3) > 57)))))) else (if (bt x0 x3) > 122 then (if x3 = 0 then (a1d.j2 k x0 x3 true) else (if (bt x0 x3) = 95 then (a1d.j2 k x0 x3 false) else (if (bt x0 x3) < 48 then (a1d.j2 k x0 x3 true) else (a1d.j2 k x0 x3 (decide ((bt x0 x3) > 57)))))) else (a1d.j2 k x0 x3 false))) else (none)) else (some true)
def a1d.j2 : Nat → ByteArray → Int → Bool → Option (Bool)
 | 0, _, _, _ => none
 | k + 1, x0, x3, x43 => if x43 = true then (some false) else (a1d.l0 k x0 (wrap64 (x3 + 1)))
end
def a1d.f (k : Nat) (a0 : ByteArray) : Option (Bool) := if (a0.size : Int) < 1 then (a1d.j0 k a0 true) else (a1d.j0 k a0 (decide ((a0.size : Int) > 16)))
theorem a1d.a0t : ∀ k, (∀ y0 y1, LeO (a1d.j0 k y0 y1) (a1d.j0 (k + 1) y0 y1)) ∧ (∀ y0 y1, LeO (a1d.l0 k y0 y1) (a1d.l0 (k + 1) y0 y1)) ∧ (∀ y0 y1 y2, LeO (a1d.j2 k y0 y1 y2) (a1d.j2 (k + 1) y0 y1 y2))
 | 0 => ⟨fun _ _ r h => by simp [a1d.j0] at h, fun _ _ r h => by simp [a1d.l0] at h, fun _ _ _ r h => by simp [a1d.j2] at h⟩
 | k + 1 => by
  obtain ⟨ih0, ih1, ih2⟩ := a1d.a0t k
  refine ⟨?_, ?_, ?_⟩
  ·intro y0 y1
   unfold a1d.j0
   with_reducible (repeat' first | apply ih0 | apply ih1 | apply ih2 | apply LeO.refl | apply LeO.none | apply LeO.ite | refine LeO.bind ?_ (fun _ => ?_))
  ·intro y0 y1
   unfold a1d.l0
   with_reducible (repeat' first | apply ih0 | apply ih1 | apply ih2 | apply LeO.refl | apply LeO.none | apply LeO.ite | refine LeO.bind ?_ (fun _ => ?_))
  ·intro y0 y1 y2
   unfold a1d.j2
   with_reducible (repeat' first | apply ih0 | apply ih1 | apply ih2 | apply LeO.refl | apply LeO.none | apply LeO.ite | refine LeO.bind ?_ (fun _ => ?_))
theorem a1d.mono : ∀ a0 k, LeO (a1d.f k a0) (a1d.f (k + 1) a0) := by
 intro a0 k
 obtain ⟨ih0, ih1, ih2⟩ := a1d.a0t k
 unfold a1d.f
 with_reducible (repeat' first | apply ih0 | apply ih1 | apply ih2 | apply LeO.refl | apply LeO.none | apply LeO.ite | refine LeO.bind ?_ (fun _ => ?_))
set_option maxHeartbeats 8000000 in
set_option maxRecDepth 100000 in
theorem a1d.calls (k : Nat) (a0 : ByteArray) (r : Bool) (w : World) (h : a1d.f k a0 = some r) :
  Calls Try.prog 25 #[.string a0] w fun e w' => e = .returned (.bool r) ∧ a1j w w' := by
 have H : (if (a0.size : Int) < 1 then (a1d.j0 k a0 true) else (a1d.j0 k a0 (decide ((a0.size : Int) > 16)))) = some r := h
 clear h
 have HC2 := am_ H
 clear H
 go_enter Try.func25, Try.ntmps25
 go_upto_region 1 with (fail)
 go_cut [12] (fun v12 wc => ∃ (kq : Nat) (x12_1 : Bool), v12 = .bool x12_1 ∧ Aside0 (a1d.j0 kq a0 x12_1 = some r) ∧ Aside0 (kq ≤ k) ∧ a1j w wc)
 case first =>
  have H := HC2.out
  clear HC2
  by_cases c3 : (a0.size : Int) < 1
  ·rw [if_pos c3] at H
   have c3b0 : decide ((a0.size : Int) < 1) = true := decide_eq_true c3
   have c3b1 : decide (a0.size < 1) = true := decide_eq_true (by omega)
   clear c3
   (first | rw [c3b0] | (simp only [a3h, a3u]; rw [c3b0]) | skip)
   have H' := am_ H
   clear H
   go_wp2
   go_meet
   case rel => exact ⟨_, (true), qs_, H', ⟨qo_⟩, qy_⟩
  ·rw [if_neg c3] at H
   have c3b0 : decide ((a0.size : Int) < 1) = false := decide_eq_false c3
   have c3b1 : decide (a0.size < 1) = false := decide_eq_false (by omega)
   clear c3
   (first | rw [c3b0] | (simp only [a3h, a3u]; rw [c3b0]) | skip)
   have H' := am_ H
   clear H
   go_wp2
   go_meet
   case rel => exact ⟨_, (decide ((a0.size : Int) > 16)), qs_, H', ⟨qo_⟩, qy_⟩
 case rest =>
  clear HC2
  try clear c2
  try clear p2
  try clear c3
  try clear c3b0
  try clear c3b1
  obtain ⟨kq, x12_1, rfl, HA, HJ1, ⟨mc1, rfl⟩⟩ := hcut
  cases kq with
  | zero => exact absurd HA.out (by simp [a1d.j0])
  | succ kj1 =>
   have H := HA.out
   clear HA
   simp only [a1d.j0] at H
   by_cases c4 : x12_1 = true
   ·subst c4
    have H1 : (some false) = some r := by rw [if_pos rfl] at H; exact H
    clear H
    have H := H1
    clear H1
    obtain rfl := si_ H
    go_wp2
    go_ret
    exact ⟨qs_, qy_⟩
   ·replace c4 := be_ c4
    subst c4
    have H1 : (a1d.l0 kj1 a0 0) = some r := by rw [if_neg (show ¬ (false = true) by decide)] at H; exact H
    clear H
    have H := H1
    clear H1
    have H' := am_ H
    clear H
    go_wp2
    go_loopg [3] kj1 (fun kq v3 w' => ∃ (x3_2 : Int), v3 = .int .i64 x3_2 ∧ Aside0 (a1d.l0 kq a0 x3_2 = some r) ∧ Aside0 (kq ≤ kj1) ∧ a1j w w')
    case atStart => exact ⟨(0), qs_, H', ⟨Nat.le_refl _⟩, qy_⟩
    case round =>
     clear H'
     try clear c1
     try clear c2
     try clear p2
     try clear c3
     try clear c3b0
     try clear c3b1
     try clear c4
     try clear p2
     obtain ⟨x3_2, rfl, HA, HK2, ⟨m2, rfl⟩⟩ := hrel
     cases gk with
     | zero => exact absurd HA.out (by simp [a1d.l0])
     | succ k2 =>
      have H := HA.out
      clear HA
      simp only [a1d.l0] at H
      by_cases c5 : x3_2 < (a0.size : Int)
      ·rw [if_pos c5] at H
       have c5b0 : decide (x3_2 < (a0.size : Int)) = true := decide_eq_true c5
       clear c5
       by_cases c6 : 0 ≤ x3_2
       ·rw [if_pos c6] at H
        have c6b0 : decide (0 ≤ x3_2) = true := decide_eq_true c6
        clear c6
        have HC8 := am_ H
        clear H
        have p7 : 0 ≤ (x3_2 : Int) := ot_
        have q7 : x3_2 < (a0.size : Int) := ot_
        have hx7 := b8e a0 x3_2
        replace p7 := eq_true p7
        replace q7 := eq_true q7
        go_upto_region 7 with (fail)
        go_cut [43] (fun v43 wc => ∃ (kq : Nat) (x43_7 : Bool), v43 = .bool x43_7 ∧ Aside0 (a1d.j2 kq a0 x3_2 x43_7 = some r) ∧ Aside0 (kq ≤ k2) ∧ a1j w wc)
        case first =>
         have H := HC8.out
         clear HC8
         by_cases c9 : (bt a0 x3_2) < 97
         ·rw [if_pos c9] at H
          have c9b0 : decide ((bt a0 x3_2) < 97) = true := decide_eq_true c9
          clear c9
          (first | rw [c9b0] | (simp only [a3h, a3u]; rw [c9b0]) | skip)
          by_cases c10 : x3_2 = 0
          ·rw [if_pos c10] at H
           have c10b0 : (x3_2 == 0) = true := beq_iff_eq.mpr c10
           have c10b1 : (x3_2 != 0) = false := bne_eq_false_iff_eq.mpr c10
           clear c10
           have H' := am_ H
           clear H
           go_wp2
           go_meet
           case rel => exact ⟨_, (true), qs_, H', ⟨by have := HJ1.out; have := HK2.out; first | omega | exact Nat.le_refl _⟩, qy_⟩
          ·rw [if_neg c10] at H
           have c10b0 : (x3_2 == 0) = false := beq_eq_false_iff_ne.mpr c10
           have c10b1 : (x3_2 != 0) = true := bne_iff_ne.mpr c10
           by_cases c11 : (bt a0 x3_2) = 95
           ·rw [if_pos c11] at H
            have c11b0 : ((bt a0 x3_2) == 95) = true := beq_iff_eq.mpr c11
            have c11b1 : ((bt a0 x3_2) != 95) = false := bne_eq_false_iff_eq.mpr c11
            clear c11
            have H' := am_ H
            clear H
            go_wp2
            go_meet
            case rel => exact ⟨_, (false), qs_, H', ⟨by have := HJ1.out; have := HK2.out; first | omega | exact Nat.le_refl _⟩, qy_⟩
           ·rw [if_neg c11] at H
            have c11b0 : ((bt a0 x3_2) == 95) = false := beq_eq_false_iff_ne.mpr c11
            have c11b1 : ((bt a0 x3_2) != 95) = true := bne_iff_ne.mpr c11
            by_cases c12 : (bt a0 x3_2) < 48
            ·rw [if_pos c12] at H
             have c12b0 : decide ((bt a0 x3_2) < 48) = true := decide_eq_true c12
             clear c12
             have H' := am_ H
             clear H
             go_wp2
             go_meet
             case rel => exact ⟨_, (true), qs_, H', ⟨by have := HJ1.out; have := HK2.out; first | omega | exact Nat.le_refl _⟩, qy_⟩
            ·rw [if_neg c12] at H
             have c12b0 : decide ((bt a0 x3_2) < 48) = false := decide_eq_false c12
             clear c12
             have H' := am_ H
             clear H
             go_wp2
             go_meet
             case rel => exact ⟨_, (decide ((bt a0 x3_2) > 57)), qs_, H', ⟨by have := HJ1.out; have := HK2.out; first | omega | exact Nat.le_refl _⟩, qy_⟩
         ·rw [if_neg c9] at H
          have c9b0 : decide ((bt a0 x3_2) < 97) = false := decide_eq_false c9
          clear c9
          (first | rw [c9b0] | (simp only [a3h, a3u]; rw [c9b0]) | skip)
          by_cases c13 : (bt a0 x3_2) > 122
          ·rw [if_pos c13] at H
           have c13b0 : decide (122 < (bt a0 x3_2)) = true := decide_eq_true c13
           clear c13
           by_cases c14 : x3_2 = 0
           ·rw [if_pos c14] at H
            have c14b0 : (x3_2 == 0) = true := beq_iff_eq.mpr c14
            have c14b1 : (x3_2 != 0) = false := bne_eq_false_iff_eq.mpr c14
            clear c14
            have H' := am_ H
            clear H
            go_wp2
            go_meet
            case rel => exact ⟨_, (true), qs_, H', ⟨by have := HJ1.out; have := HK2.out; first | omega | exact Nat.le_refl _⟩, qy_⟩
           ·rw [if_neg c14] at H
            have c14b0 : (x3_2 == 0) = false := beq_eq_false_iff_ne.mpr c14
            have c14b1 : (x3_2 != 0) = true := bne_iff_ne.mpr c14
            by_cases c15 : (bt a0 x3_2) = 95
            ·rw [if_pos c15] at H
             have c15b0 : ((bt a0 x3_2) == 95) = true := beq_iff_eq.mpr c15
             have c15b1 : ((bt a0 x3_2) != 95) = false := bne_eq_false_iff_eq.mpr c15
             clear c15
             have H' := am_ H
             clear H
             go_wp2
             go_meet
             case rel => exact ⟨_, (false), qs_, H', ⟨by have := HJ1.out; have := HK2.out; first | omega | exact Nat.le_refl _⟩, qy_⟩
            ·rw [if_neg c15] at H
             have c15b0 : ((bt a0 x3_2) == 95) = false := beq_eq_false_iff_ne.mpr c15
             have c15b1 : ((bt a0 x3_2) != 95) = true := bne_iff_ne.mpr c15
             by_cases c16 : (bt a0 x3_2) < 48
             ·rw [if_pos c16] at H
              have c16b0 : decide ((bt a0 x3_2) < 48) = true := decide_eq_true c16
              clear c16
              have H' := am_ H
              clear H
              go_wp2
              go_meet
              case rel => exact ⟨_, (true), qs_, H', ⟨by have := HJ1.out; have := HK2.out; first | omega | exact Nat.le_refl _⟩, qy_⟩
             ·rw [if_neg c16] at H
              have c16b0 : decide ((bt a0 x3_2) < 48) = false := decide_eq_false c16
              clear c16
              have H' := am_ H
              clear H
              go_wp2
              go_meet
              case rel => exact ⟨_, (decide ((bt a0 x3_2) > 57)), qs_, H', ⟨by have := HJ1.out; have := HK2.out; first | omega | exact Nat.le_refl _⟩, qy_⟩
          ·rw [if_neg c13] at H
           have c13b0 : decide (122 < (bt a0 x3_2)) = false := decide_eq_false c13
           clear c13
           have H' := am_ H
           clear H
           go_wp2
           go_meet
           case rel => exact ⟨_, (false), qs_, H', ⟨by have := HJ1.out; have := HK2.out; first | omega | exact Nat.le_refl _⟩, qy_⟩
        case rest =>
         clear HC8
         try clear c1
         try clear c2
         try clear p2
         try clear c3
         try clear c3b0
         try clear c3b1
         try clear c4
         try clear c5
         try clear c5b0
         try clear c6
         try clear c6b0
         try clear p7
         try clear q7
         try clear hx7
         try clear c9
         try clear c9b0
         try clear c10
         try clear c10b0
         try clear c10b1
         try clear c11
         try clear c11b0
         try clear c11b1
         try clear c12
         try clear c12b0
         try clear c13
         try clear c13b0
         try clear c14
         try clear c14b0
         try clear c14b1
         try clear c15
         try clear c15b0
         try clear c15b1
         try clear c16
         try clear c16b0
         try clear p2
         try clear p7
         try clear q7
         obtain ⟨kq, x43_7, rfl, HA, HJ7, ⟨mc7, rfl⟩⟩ := hcut
         cases kq with
         | zero => exact absurd HA.out (by simp [a1d.j2])
         | succ kj7 =>
          have H := HA.out
          clear HA
          simp only [a1d.j2] at H
          by_cases c17 : x43_7 = true
          ·subst c17
           have H1 : (some false) = some r := by rw [if_pos rfl] at H; exact H
           clear H
           have H := H1
           clear H1
           obtain rfl := si_ H
           go_wp2
           go_ret
           exact ⟨qs_, qy_⟩
          ·replace c17 := be_ c17
           subst c17
           have H1 : (a1d.l0 kj7 a0 (wrap64 (x3_2 + 1))) = some r := by rw [if_neg (show ¬ (false = true) by decide)] at H; exact H
           clear H
           have H := H1
           clear H1
           have H' := am_ H
           clear H
           go_wp2
           go_roundg kj7
           case measure => have := HJ1.out; have := HK2.out; have := HJ7.out; omega
           case rel => exact ⟨(wrap64 (x3_2 + 1)), qs_, H', ⟨by have := HJ1.out; have := HK2.out; have := HJ7.out; omega⟩, qy_⟩
       ·rw [if_neg c6] at H
        exact absurd H (by simp)
      ·rw [if_neg c5] at H
       have c5b0 : decide (x3_2 < (a0.size : Int)) = false := decide_eq_false c5
       clear c5
       obtain rfl := si_ H
       go_wp2
       go_ret
       exact ⟨qs_, qy_⟩
def a3f.l0 : Nat → List ByteArray → ByteArray → Int → Option (Bool)
 | 0, _, _, _ => none
 | k + 1, x0, x1, x5 => if x5 < (x0.length : Int) then (if 0 ≤ x5 then (if (rdOf ByteArray.empty x0 x5).toList = x1.toList then (some true) else (a3f.l0 k x0 x1 (wrap64 (x5 + 1)))) else (none)) else (some false)
def a3f.f (k : Nat) (l0 : List ByteArray) (a1 : ByteArray) : Option (Bool) := a3f.l0 k l0 a1 0
theorem a3f.a0t : ∀ k, (∀ y0 y1 y2, LeO (a3f.l0 k y0 y1 y2) (a3f.l0 (k + 1) y0 y1 y2))
 | 0 => fun _ _ _ r h => by simp [a3f.l0] at h
 | k + 1 => by
  have ih0 := a3f.a0t k
  ·intro y0 y1 y2
   unfold a3f.l0
   with_reducible (repeat' first | apply ih0 | apply LeO.refl | apply LeO.none | apply LeO.ite | refine LeO.bind ?_ (fun _ => ?_))
theorem a3f.mono : ∀ a0 a1 k, LeO (a3f.f k a0 a1) (a3f.f (k + 1) a0 a1) := by
 intro a0 a1 k
 have ih0 := a3f.a0t k
 unfold a3f.f
 with_reducible (repeat' first | apply ih0 | apply LeO.refl | apply LeO.none | apply LeO.ite | refine LeO.bind ?_ (fun _ => ?_))
set_option maxHeartbeats 8000000 in
set_option maxRecDepth 100000 in
theorem a3f.calls (k : Nat) (A0 : Option Addr) (c0 : Nat) (l0 : List ByteArray) (a1 : ByteArray) (r : Bool) (w : World) (hr0 : Kd.C Kd.string w A0 l0.length l0) (hc0 : l0.length ≤ c0) (h : a3f.f k l0 a1 = some r) :
  Calls Try.prog 28 #[.slice A0 l0.length c0, .string a1] w fun e w' => e = .returned (.bool r) ∧ a1j w w' := by
 have HR0 := am_ hr0
 have HC0 := am_ hc0
 clear hr0 hc0
 have H : (a3f.l0 k l0 a1 0) = some r := h
 clear h
 have H' := am_ H
 clear H
 go_enter Try.func28, Try.ntmps28
 go_wp2
 go_loopg [5] k (fun kq v5 w' => ∃ (x5_1 : Int), v5 = .int .i64 x5_1 ∧ Aside0 (a3f.l0 kq l0 a1 x5_1 = some r) ∧ Aside0 (kq ≤ k) ∧ a1j w w')
 case atStart => exact ⟨(0), qs_, H', ⟨Nat.le_refl _⟩, qy_⟩
 case round =>
  clear H'
  try clear c2
  try clear p2
  obtain ⟨x5_1, rfl, HA, HK1, ⟨m1, rfl⟩⟩ := hrel
  cases gk with
  | zero => exact absurd HA.out (by simp [a3f.l0])
  | succ k1 =>
   have H := HA.out
   clear HA
   simp only [a3f.l0] at H
   by_cases c3 : x5_1 < (l0.length : Int)
   ·rw [if_pos c3] at H
    have c3b0 : decide (x5_1 < (l0.length : Int)) = true := decide_eq_true c3
    clear c3
    by_cases c4 : 0 ≤ x5_1
    ·rw [if_pos c4] at H
     have c4b0 : decide (0 ≤ x5_1) = true := decide_eq_true c4
     clear c4
     by_cases c5 : (rdOf ByteArray.empty l0 x5_1).toList = a1.toList
     ·rw [if_pos c5] at H
      have c5b0 : ((rdOf ByteArray.empty l0 x5_1).toList == a1.toList) = true := beq_iff_eq.mpr c5
      have c5b1 : ((rdOf ByteArray.empty l0 x5_1).toList != a1.toList) = false := bne_eq_false_iff_eq.mpr c5
      clear c5
      obtain rfl := si_ H
      have p364 : 0 ≤ (x5_1 : Int) := ot_
      have q364 : x5_1 < (l0.length : Int) := ot_
      obtain ⟨ad364, e364, hx364_0⟩ := Kd.a4d HR0.out x5_1 p364 q364
      cases e364
      replace p364 := eq_true p364
      replace q364 := eq_true q364
      go_wp2
      go_ret
      exact ⟨qs_, qy_⟩
     ·rw [if_neg c5] at H
      have c5b0 : ((rdOf ByteArray.empty l0 x5_1).toList == a1.toList) = false := beq_eq_false_iff_ne.mpr c5
      have c5b1 : ((rdOf ByteArray.empty l0 x5_1).toList != a1.toList) = true := bne_iff_ne.mpr c5
      have H' := am_ H
      clear H
      have p364 : 0 ≤ (x5_1 : Int) := ot_
      have q364 : x5_1 < (l0.length : Int) := ot_
      obtain ⟨ad364, e364, hx364_0⟩ := Kd.a4d HR0.out x5_1 p364 q364
      cases e364
      replace p364 := eq_true p364
      replace q364 := eq_true q364
      go_wp2
      go_roundg k1
      case measure => have := HK1.out; omega
      case rel => exact ⟨(wrap64 (x5_1 + 1)), qs_, H', ⟨by have := HK1.out; omega⟩, qy_⟩
    ·rw [if_neg c4] at H
     exact absurd H (by simp)
   ·rw [if_neg c3] at H
    have c3b0 : decide (x5_1 < (l0.length : Int)) = false := decide_eq_false c3
    clear c3
    obtain rfl := si_ H
    go_wp2
    go_ret
    exact ⟨qs_, qy_⟩
end Go.Proofs.Ytemnlgefngjliaa.Px
