/- Contracts of Go functions, printed. Conditions: as each theorem states. -/
import Derived.Test.YtfbgkcadnmcakaaPx0
namespace Go.Proofs.Ytfbgkcadnmcakaa.Px
open Go.Proofs.Ytfbgkcadnmcakaa.Given
open Go.RowKit Go.Proofs.YtfbgkcadnmcakaaW.PrintWords Go.Proofs.YtfbgkcadnmcakaaW.PrintLast Go.Proofs.YtfbgkcadnmcakaaW.PrintMore
attribute [local go_sem] a2w a2u a3d a3c a2q a2r a2x a2y
set_option linter.unusedVariables false
set_option linter.unusedSimpArgs false
def cmp_isNaN_int.f (a0 : Int) : Option (Bool) := some (a0 != a0)
set_option maxHeartbeats 8000000 in
set_option maxRecDepth 100000 in
theorem cmp_isNaN_int.calls (a0 : Int) (r : Bool) (w : World) (h : cmp_isNaN_int.f a0 = some r) :
  Calls Try.prog 50 #[.int .i64 a0] w fun e w' => e = .returned (.bool r) ∧ a3j w w' := by
 have H : (some (a0 != a0)) = some r := h
 clear h
 obtain rfl := si_ H
 go_enter Try.func50, Try.ntmps50
 go_wp2
 go_ret
 exact ⟨qs_, qy_⟩
def cmp_Compare_int.f (a0 a1 : Int) : Option (Int) := (cmp_isNaN_int.f a0).bind fun t132 => ((cmp_isNaN_int.f a1).bind fun t133 => (if t132 = true then (if t133 = true then (some 0) else (some (-1))) else (if t133 = true then (some 1) else (if a0 < a1 then (some (-1)) else (if a0 > a1 then (some 1) else (some 0))))))
set_option maxHeartbeats 8000000 in
set_option maxRecDepth 100000 in
theorem cmp_Compare_int.calls (a0 a1 r : Int) (w : World) (h : cmp_Compare_int.f a0 a1 = some r) :
  Calls Try.prog 32 #[.int .i64 a0, .int .i64 a1] w fun e w' => e = .returned (.int .i64 r) ∧ a3j w w' := by
 have H : ((cmp_isNaN_int.f a0).bind fun t132 => ((cmp_isNaN_int.f a1).bind fun t133 => (if t132 = true then (if t133 = true then (some 0) else (some (-1))) else (if t133 = true then (some 1) else (if a0 < a1 then (some (-1)) else (if a0 > a1 then (some 1) else (some 0))))))) = some r := h
 clear h
 replace H := bm_ H
 obtain ⟨t132, A30, H⟩ := H
 replace H : ((cmp_isNaN_int.f a1).bind fun t133 => (if t132 = true then (if t133 = true then (some 0) else (some (-1))) else (if t133 = true then (some 1) else (if a0 < a1 then (some (-1)) else (if a0 > a1 then (some 1) else (some 0)))))) = some r := H
 have A3 := am_ A30
 clear A30
 replace H := bm_ H
 obtain ⟨t133, A40, H⟩ := H
 replace H : (if t132 = true then (if t133 = true then (some 0) else (some (-1))) else (if t133 = true then (some 1) else (if a0 < a1 then (some (-1)) else (if a0 > a1 then (some 1) else (some 0))))) = some r := H
 have A4 := am_ A40
 clear A40
 by_cases c5 : t132 = true
 ·subst c5
  have H1 : (if t133 = true then (some 0) else (some (-1))) = some r := by rw [if_pos rfl] at H; exact H
  clear H
  have H := H1
  clear H1
  by_cases c6 : t133 = true
  ·subst c6
   have H1 : (some 0) = some r := by rw [if_pos rfl] at H; exact H
   clear H
   have H := H1
   clear H1
   obtain rfl := si_ H
   go_enter Try.func32, Try.ntmps32
   go_wp2_with (first | ((with_reducible refine a1c (f := 50) rfl ?_); refine a1y (some 8) rfl rfl Try.func50 (by kernel_rfl) rfl #[.int .i64 a0] rfl ql_ ?_; (with_reducible refine (cmp_isNaN_int.calls a0 true _ A3.out).mono ?_); rintro e w' ⟨rfl, ⟨nd, rfl⟩⟩; refine ⟨_, rfl, ?_⟩) | ((with_reducible refine a1c (f := 50) rfl ?_); refine a1y (some 10) rfl rfl Try.func50 (by kernel_rfl) rfl #[.int .i64 a1] rfl ql_ ?_; (with_reducible refine (cmp_isNaN_int.calls a1 true _ A4.out).mono ?_); rintro e w' ⟨rfl, ⟨nd, rfl⟩⟩; refine ⟨_, rfl, ?_⟩))
   go_ret
   exact ⟨qs_, qy_⟩
  ·replace c6 := be_ c6
   subst c6
   have H1 : (some (-1)) = some r := by rw [if_neg (show ¬ (false = true) by decide)] at H; exact H
   clear H
   have H := H1
   clear H1
   obtain rfl := si_ H
   go_enter Try.func32, Try.ntmps32
   go_wp2_with (first | ((with_reducible refine a1c (f := 50) rfl ?_); refine a1y (some 8) rfl rfl Try.func50 (by kernel_rfl) rfl #[.int .i64 a0] rfl ql_ ?_; (with_reducible refine (cmp_isNaN_int.calls a0 true _ A3.out).mono ?_); rintro e w' ⟨rfl, ⟨nd, rfl⟩⟩; refine ⟨_, rfl, ?_⟩) | ((with_reducible refine a1c (f := 50) rfl ?_); refine a1y (some 10) rfl rfl Try.func50 (by kernel_rfl) rfl #[.int .i64 a1] rfl ql_ ?_; (with_reducible refine (cmp_isNaN_int.calls a1 false _ A4.out).mono ?_); rintro e w' ⟨rfl, ⟨nd, rfl⟩⟩; refine ⟨_, rfl, ?_⟩))
   go_ret
   exact ⟨qs_, qy_⟩
 ·replace c5 := be_ c5
  subst c5
  have H1 : (if t133 = true then (some 1) else (if a0 < a1 then (some (-1)) else (if a0 > a1 then (some 1) else (some 0)))) = some r := by rw [if_neg (show ¬ (false = true) by decide)] at H; exact H
  clear H
  have H := H1
  clear H1
  by_cases c7 : t133 = true
  ·subst c7
   have H1 : (some 1) = some r := by rw [if_pos rfl] at H; exact H
   clear H
   have H := H1
   clear H1
   obtain rfl := si_ H
   go_enter Try.func32, Try.ntmps32
   go_wp2_with (first | ((with_reducible refine a1c (f := 50) rfl ?_); refine a1y (some 8) rfl rfl Try.func50 (by kernel_rfl) rfl #[.int .i64 a0] rfl ql_ ?_; (with_reducible refine (cmp_isNaN_int.calls a0 false _ A3.out).mono ?_); rintro e w' ⟨rfl, ⟨nd, rfl⟩⟩; refine ⟨_, rfl, ?_⟩) | ((with_reducible refine a1c (f := 50) rfl ?_); refine a1y (some 10) rfl rfl Try.func50 (by kernel_rfl) rfl #[.int .i64 a1] rfl ql_ ?_; (with_reducible refine (cmp_isNaN_int.calls a1 true _ A4.out).mono ?_); rintro e w' ⟨rfl, ⟨nd, rfl⟩⟩; refine ⟨_, rfl, ?_⟩))
   go_ret
   exact ⟨qs_, qy_⟩
  ·replace c7 := be_ c7
   subst c7
   have H1 : (if a0 < a1 then (some (-1)) else (if a0 > a1 then (some 1) else (some 0))) = some r := by rw [if_neg (show ¬ (false = true) by decide)] at H; exact H
   clear H
   have H := H1
   clear H1
   by_cases c8 : a0 < a1
   ·rw [if_pos c8] at H
    have c8b0 : decide (a0 < a1) = true := decide_eq_true c8
    clear c8
    obtain rfl := si_ H
    go_enter Try.func32, Try.ntmps32
    go_wp2_with (first | ((with_reducible refine a1c (f := 50) rfl ?_); refine a1y (some 8) rfl rfl Try.func50 (by kernel_rfl) rfl #[.int .i64 a0] rfl ql_ ?_; (with_reducible refine (cmp_isNaN_int.calls a0 false _ A3.out).mono ?_); rintro e w' ⟨rfl, ⟨nd, rfl⟩⟩; refine ⟨_, rfl, ?_⟩) | ((with_reducible refine a1c (f := 50) rfl ?_); refine a1y (some 10) rfl rfl Try.func50 (by kernel_rfl) rfl #[.int .i64 a1] rfl ql_ ?_; (with_reducible refine (cmp_isNaN_int.calls a1 false _ A4.out).mono ?_); rintro e w' ⟨rfl, ⟨nd, rfl⟩⟩; refine ⟨_, rfl, ?_⟩))
    go_ret
    exact ⟨qs_, qy_⟩
   ·rw [if_neg c8] at H
    have c8b0 : decide (a0 < a1) = false := decide_eq_false c8
    clear c8
    by_cases c9 : a0 > a1
    ·rw [if_pos c9] at H
     have c9b0 : decide (a1 < a0) = true := decide_eq_true c9
     clear c9
     obtain rfl := si_ H
     go_enter Try.func32, Try.ntmps32
     go_wp2_with (first | ((with_reducible refine a1c (f := 50) rfl ?_); refine a1y (some 8) rfl rfl Try.func50 (by kernel_rfl) rfl #[.int .i64 a0] rfl ql_ ?_; (with_reducible refine (cmp_isNaN_int.calls a0 false _ A3.out).mono ?_); rintro e w' ⟨rfl, ⟨nd, rfl⟩⟩; refine ⟨_, rfl, ?_⟩) | ((with_reducible refine a1c (f := 50) rfl ?_); refine a1y (some 10) rfl rfl Try.func50 (by kernel_rfl) rfl #[.int .i64 a1] rfl ql_ ?_; (with_reducible refine (cmp_isNaN_int.calls a1 false _ A4.out).mono ?_); rintro e w' ⟨rfl, ⟨nd, rfl⟩⟩; refine ⟨_, rfl, ?_⟩))
     go_ret
     exact ⟨qs_, qy_⟩
    ·rw [if_neg c9] at H
     have c9b0 : decide (a1 < a0) = false := decide_eq_false c9
     clear c9
     obtain rfl := si_ H
     go_enter Try.func32, Try.ntmps32
     go_wp2_with (first | ((with_reducible refine a1c (f := 50) rfl ?_); refine a1y (some 8) rfl rfl Try.func50 (by kernel_rfl) rfl #[.int .i64 a0] rfl ql_ ?_; (with_reducible refine (cmp_isNaN_int.calls a0 false _ A3.out).mono ?_); rintro e w' ⟨rfl, ⟨nd, rfl⟩⟩; refine ⟨_, rfl, ?_⟩) | ((with_reducible refine a1c (f := 50) rfl ?_); refine a1y (some 10) rfl rfl Try.func50 (by kernel_rfl) rfl #[.int .i64 a1] rfl ql_ ?_; (with_reducible refine (cmp_isNaN_int.calls a1 false _ A4.out).mono ?_); rintro e w' ⟨rfl, ⟨nd, rfl⟩⟩; refine ⟨_, rfl, ?_⟩))
     go_ret
     exact ⟨qs_, qy_⟩
def a2h.f (a0_0 a0_1 a0_2 a0_3 a1_0 a1_1 a1_2 a1_3 : Int) : Option (Int) := (cmp_Compare_int.f a0_3 a1_3).bind fun t136 => (some t136)
set_option maxHeartbeats 8000000 in
set_option maxRecDepth 100000 in
theorem a2h.calls (a0_0 a0_1 a0_2 a0_3 a1_0 a1_1 a1_2 a1_3 r : Int) (w : World) (h : a2h.f a0_0 a0_1 a0_2 a0_3 a1_0 a1_1 a1_2 a1_3 = some r) :
  Calls Try.prog 44 #[.agg #[.int .i64 a0_0, .int .i64 a0_1, .int .i64 a0_2, .int .i64 a0_3], .agg #[.int .i64 a1_0, .int .i64 a1_1, .int .i64 a1_2, .int .i64 a1_3]] w fun e w' => e = .returned (.int .i64 r) ∧ Below w.heap.size w w' := by
 have hu26 := Try.underlying26
 have HB := am_ (Below.refl w.heap.size w)
 have H : ((cmp_Compare_int.f a0_3 a1_3).bind fun t136 => (some t136)) = some r := h
 clear h
 replace H := bm_ H
 obtain ⟨t136, A30, H⟩ := H
 replace H : (some t136) = some r := H
 have A3 := am_ A30
 clear A30
 obtain rfl := si_ H
 go_enter Try.func44, Try.ntmps44
 go_wp2_with (first | ((with_reducible refine a1g (N := 2) rfl ?_); refine qev_ 2 #[.int .i64 a0_0, .int .i64 a0_1, .int .i64 a0_2, .int .i64 a0_3] 26 ?_; intro gb134 hg w4 hbox hb; have BK134 := am_ (hbox); have GW134 := qga_ hg; have GE134 := qga_ hg; replace HB := qbs_ hb; clear hb hbox hg) | ((with_reducible refine a1g (N := 3) rfl ?_); refine qev_ 3 #[.int .i64 a1_0, .int .i64 a1_1, .int .i64 a1_2, .int .i64 a1_3] 26 ?_; intro gb135 hg w5 hbox hb; have BK135 := am_ (hbox); have GW135 := qga_ hg; have GE135 := qga_ hg; replace HB := qbs_ hb; have NB134_135 := am_ ((by rw [hg]; exact Nat.ne_of_lt (a2d (qk_ BK134)) : gb134 ≠ gb135)); have NB135_134 := am_ ((by rw [hg]; exact Nat.ne_of_gt (a2d (qk_ BK134)) : gb135 ≠ gb134)); replace BK134 := qkb_ BK134 hb; clear hb hbox hg; have hnb6 := NB134_135.out; have hnc6 := NB135_134.out; obtain ⟨z'7_0, z'7_1, z'7_2, z'7_3⟩ := qz4_ BK134; obtain ⟨y'7_0, y'7_1, y'7_2, y'7_3⟩ := qf4_ BK134; obtain ⟨z'8_0, z'8_1, z'8_2, z'8_3⟩ := qz4_ BK135; obtain ⟨y'8_0, y'8_1, y'8_2, y'8_3⟩ := qf4_ BK135) | ((with_reducible refine a1c (f := 32) rfl ?_); refine a1y (some 9) rfl rfl Try.func32 (by kernel_rfl) rfl #[.int .i64 a0_3, .int .i64 a1_3] rfl ql_ ?_; (with_reducible refine (cmp_Compare_int.calls a0_3 a1_3 t136 _ A3.out).mono ?_); rintro e w' ⟨rfl, ⟨nd, rfl⟩⟩; refine ⟨_, rfl, ?_⟩))
 go_ret
 exact ⟨qx_, qb_⟩
end Go.Proofs.Ytfbgkcadnmcakaa.Px
