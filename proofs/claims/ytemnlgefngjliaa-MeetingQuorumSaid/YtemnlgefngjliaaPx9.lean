/- Contracts of Go functions, printed. Conditions: as each theorem states. -/
import Derived.Test.YtemnlgefngjliaaPx0
import Derived.Test.YtemnlgefngjliaaPx8
import Derived.Test.YtemnlgefngjliaaGRat
namespace Go.Proofs.Ytemnlgefngjliaa.Px
open Go.Proofs.Ytemnlgefngjliaa.Given
open Go.RowKit Go.Proofs.YtemnlgefngjliaaW.PrintWords Go.Proofs.YtemnlgefngjliaaW.PrintLast Go.Proofs.YtemnlgefngjliaaW.PrintMore
attribute [local go_sem] a2f a2g a2r a2s a1x a1y a2h a2i
set_option linter.unusedVariables false
set_option linter.unusedSimpArgs false
def a6h.f (a0_0 a0_1 : Int) : Option (Bool) := if a0_1 ≥ 1 then (if a0_1 ≤ 1000000000 then (if a0_0 ≥ (-1000000000) then (if a0_0 ≤ 1000000000 then ((a5c.f a0_0).bind fun t196 => ((a5c.f a0_1).bind fun t197 => ((a5d.f t196 t197).bind fun t198 => (some (t198 == 1))))) else (some false)) else (some false)) else (some false)) else (some false)
set_option maxHeartbeats 8000000 in
set_option maxRecDepth 100000 in
theorem a6h.calls (a0_0 a0_1 : Int) (r : Bool) (w : World) (h : a6h.f a0_0 a0_1 = some r) :
  Calls Try.prog 67 #[.agg #[.int .i64 a0_0, .int .i64 a0_1]] w fun e w' => e = .returned (.bool r) ∧ Below w.heap.size w w' := by
 have hu23 := Try.underlying23
 have HB := am_ (Below.refl w.heap.size w)
 have H : (if a0_1 ≥ 1 then (if a0_1 ≤ 1000000000 then (if a0_0 ≥ (-1000000000) then (if a0_0 ≤ 1000000000 then ((a5c.f a0_0).bind fun t196 => ((a5c.f a0_1).bind fun t197 => ((a5d.f t196 t197).bind fun t198 => (some (t198 == 1))))) else (some false)) else (some false)) else (some false)) else (some false)) = some r := h
 clear h
 by_cases c2 : a0_1 ≥ 1
 ·rw [if_pos c2] at H
  have c2b0 : decide (1 ≤ a0_1) = true := decide_eq_true c2
  clear c2
  by_cases c3 : a0_1 ≤ 1000000000
  ·rw [if_pos c3] at H
   have c3b0 : decide (a0_1 ≤ 1000000000) = true := decide_eq_true c3
   clear c3
   by_cases c4 : a0_0 ≥ (-1000000000)
   ·rw [if_pos c4] at H
    have c4b0 : decide ((-1000000000) ≤ a0_0) = true := decide_eq_true c4
    clear c4
    by_cases c5 : a0_0 ≤ 1000000000
    ·rw [if_pos c5] at H
     have c5b0 : decide (a0_0 ≤ 1000000000) = true := decide_eq_true c5
     clear c5
     replace H := bm_ H
     obtain ⟨t196, A60, H⟩ := H
     replace H : ((a5c.f a0_1).bind fun t197 => ((a5d.f t196 t197).bind fun t198 => (some (t198 == 1)))) = some r := H
     have A6 := am_ A60
     clear A60
     replace H := bm_ H
     obtain ⟨t197, A70, H⟩ := H
     replace H : ((a5d.f t196 t197).bind fun t198 => (some (t198 == 1))) = some r := H
     have A7 := am_ A70
     clear A70
     replace H := bm_ H
     obtain ⟨t198, A80, H⟩ := H
     replace H : (some (t198 == 1)) = some r := H
     have A8 := am_ A80
     clear A80
     obtain rfl := si_ H
     go_enter Try.func67, Try.ntmps67
     go_wp2_with (first | ((with_reducible refine a0f (N := 1) rfl ?_); refine qev_ 1 #[.int .i64 a0_0, .int .i64 a0_1] 23 ?_; intro gb195 hg w9 hbox hb; have BK195 := am_ (hbox); have GW195 := qga_ hg; have GE195 := qga_ hg; replace HB := qbs_ hb; clear hb hbox hg; obtain ⟨z'10_0, z'10_1⟩ := qz2_ BK195; obtain ⟨y'10_0, y'10_1⟩ := qf2_ BK195) | (go_at_call 79; (with_reducible refine (a5c.calls a0_0 t196 _ A6.out).mono ?_); rintro e w' ⟨rfl, ⟨nd, rfl⟩⟩; (try exact qw_)) | (go_at_call 79; (with_reducible refine (a5c.calls a0_1 t197 _ A7.out).mono ?_); rintro e w' ⟨rfl, ⟨nd, rfl⟩⟩; (try exact qw_)) | (go_at_call 78; (with_reducible refine (a5d.calls t196 t197 t198 _ A8.out).mono ?_); rintro e w' ⟨rfl, ⟨nd, rfl⟩⟩; (try exact qw_)))
     repeat (go_quiet (first | ((with_reducible refine a0f (N := 1) rfl ?_); refine qev_ 1 #[.int .i64 a0_0, .int .i64 a0_1] 23 ?_; intro gb195 hg w9 hbox hb; have BK195 := am_ (hbox); have GW195 := qga_ hg; have GE195 := qga_ hg; replace HB := qbs_ hb; clear hb hbox hg; obtain ⟨z'10_0, z'10_1⟩ := qz2_ BK195; obtain ⟨y'10_0, y'10_1⟩ := qf2_ BK195) | (go_at_call 79; (with_reducible refine (a5c.calls a0_0 t196 _ A6.out).mono ?_); rintro e w' ⟨rfl, ⟨nd, rfl⟩⟩; (try exact qw_)) | (go_at_call 79; (with_reducible refine (a5c.calls a0_1 t197 _ A7.out).mono ?_); rintro e w' ⟨rfl, ⟨nd, rfl⟩⟩; (try exact qw_)) | (go_at_call 78; (with_reducible refine (a5d.calls t196 t197 t198 _ A8.out).mono ?_); rintro e w' ⟨rfl, ⟨nd, rfl⟩⟩; (try exact qw_))); try go_wp2_with (first | ((with_reducible refine a0f (N := 1) rfl ?_); refine qev_ 1 #[.int .i64 a0_0, .int .i64 a0_1] 23 ?_; intro gb195 hg w9 hbox hb; have BK195 := am_ (hbox); have GW195 := qga_ hg; have GE195 := qga_ hg; replace HB := qbs_ hb; clear hb hbox hg; obtain ⟨z'10_0, z'10_1⟩ := qz2_ BK195; obtain ⟨y'10_0, y'10_1⟩ := qf2_ BK195) | (go_at_call 79; (with_reducible refine (a5c.calls a0_0 t196 _ A6.out).mono ?_); rintro e w' ⟨rfl, ⟨nd, rfl⟩⟩; (try exact qw_)) | (go_at_call 79; (with_reducible refine (a5c.calls a0_1 t197 _ A7.out).mono ?_); rintro e w' ⟨rfl, ⟨nd, rfl⟩⟩; (try exact qw_)) | (go_at_call 78; (with_reducible refine (a5d.calls t196 t197 t198 _ A8.out).mono ?_); rintro e w' ⟨rfl, ⟨nd, rfl⟩⟩; (try exact qw_))))
     go_ret
     exact ⟨qx_, qb_⟩
    ·rw [if_neg c5] at H
     have c5b0 : decide (a0_0 ≤ 1000000000) = false := decide_eq_false c5
     clear c5
     obtain rfl := si_ H
     go_enter Try.func67, Try.ntmps67
     go_wp2_with (first | ((with_reducible refine a0f (N := 1) rfl ?_); refine qev_ 1 #[.int .i64 a0_0, .int .i64 a0_1] 23 ?_; intro gb195 hg w11 hbox hb; have BK195 := am_ (hbox); have GW195 := qga_ hg; have GE195 := qga_ hg; replace HB := qbs_ hb; clear hb hbox hg; obtain ⟨z'12_0, z'12_1⟩ := qz2_ BK195; obtain ⟨y'12_0, y'12_1⟩ := qf2_ BK195))
     repeat (go_quiet (first | ((with_reducible refine a0f (N := 1) rfl ?_); refine qev_ 1 #[.int .i64 a0_0, .int .i64 a0_1] 23 ?_; intro gb195 hg w11 hbox hb; have BK195 := am_ (hbox); have GW195 := qga_ hg; have GE195 := qga_ hg; replace HB := qbs_ hb; clear hb hbox hg; obtain ⟨z'12_0, z'12_1⟩ := qz2_ BK195; obtain ⟨y'12_0, y'12_1⟩ := qf2_ BK195)); try go_wp2_with (first | ((with_reducible refine a0f (N := 1) rfl ?_); refine qev_ 1 #[.int .i64 a0_0, .int .i64 a0_1] 23 ?_; intro gb195 hg w11 hbox hb; have BK195 := am_ (hbox); have GW195 := qga_ hg; have GE195 := qga_ hg; replace HB := qbs_ hb; clear hb hbox hg; obtain ⟨z'12_0, z'12_1⟩ := qz2_ BK195; obtain ⟨y'12_0, y'12_1⟩ := qf2_ BK195)))
     go_ret
     exact ⟨qx_, qb_⟩
   ·rw [if_neg c4] at H
    have c4b0 : decide ((-1000000000) ≤ a0_0) = false := decide_eq_false c4
    clear c4
    obtain rfl := si_ H
    go_enter Try.func67, Try.ntmps67
    go_wp2_with (first | ((with_reducible refine a0f (N := 1) rfl ?_); refine qev_ 1 #[.int .i64 a0_0, .int .i64 a0_1] 23 ?_; intro gb195 hg w13 hbox hb; have BK195 := am_ (hbox); have GW195 := qga_ hg; have GE195 := qga_ hg; replace HB := qbs_ hb; clear hb hbox hg; obtain ⟨z'14_0, z'14_1⟩ := qz2_ BK195; obtain ⟨y'14_0, y'14_1⟩ := qf2_ BK195))
    repeat (go_quiet (first | ((with_reducible refine a0f (N := 1) rfl ?_); refine qev_ 1 #[.int .i64 a0_0, .int .i64 a0_1] 23 ?_; intro gb195 hg w13 hbox hb; have BK195 := am_ (hbox); have GW195 := qga_ hg; have GE195 := qga_ hg; replace HB := qbs_ hb; clear hb hbox hg; obtain ⟨z'14_0, z'14_1⟩ := qz2_ BK195; obtain ⟨y'14_0, y'14_1⟩ := qf2_ BK195)); try go_wp2_with (first | ((with_reducible refine a0f (N := 1) rfl ?_); refine qev_ 1 #[.int .i64 a0_0, .int .i64 a0_1] 23 ?_; intro gb195 hg w13 hbox hb; have BK195 := am_ (hbox); have GW195 := qga_ hg; have GE195 := qga_ hg; replace HB := qbs_ hb; clear hb hbox hg; obtain ⟨z'14_0, z'14_1⟩ := qz2_ BK195; obtain ⟨y'14_0, y'14_1⟩ := qf2_ BK195)))
    go_ret
    exact ⟨qx_, qb_⟩
  ·rw [if_neg c3] at H
   have c3b0 : decide (a0_1 ≤ 1000000000) = false := decide_eq_false c3
   clear c3
   obtain rfl := si_ H
   go_enter Try.func67, Try.ntmps67
   go_wp2_with (first | ((with_reducible refine a0f (N := 1) rfl ?_); refine qev_ 1 #[.int .i64 a0_0, .int .i64 a0_1] 23 ?_; intro gb195 hg w15 hbox hb; have BK195 := am_ (hbox); have GW195 := qga_ hg; have GE195 := qga_ hg; replace HB := qbs_ hb; clear hb hbox hg; obtain ⟨z'16_0, z'16_1⟩ := qz2_ BK195; obtain ⟨y'16_0, y'16_1⟩ := qf2_ BK195))
   repeat (go_quiet (first | ((with_reducible refine a0f (N := 1) rfl ?_); refine qev_ 1 #[.int .i64 a0_0, .int .i64 a0_1] 23 ?_; intro gb195 hg w15 hbox hb; have BK195 := am_ (hbox); have GW195 := qga_ hg; have GE195 := qga_ hg; replace HB := qbs_ hb; clear hb hbox hg; obtain ⟨z'16_0, z'16_1⟩ := qz2_ BK195; obtain ⟨y'16_0, y'16_1⟩ := qf2_ BK195)); try go_wp2_with (first | ((with_reducible refine a0f (N := 1) rfl ?_); refine qev_ 1 #[.int .i64 a0_0, .int .i64 a0_1] 23 ?_; intro gb195 hg w15 hbox hb; have BK195 := am_ (hbox); have GW195 := qga_ hg; have GE195 := qga_ hg; replace HB := qbs_ hb; clear hb hbox hg; obtain ⟨z'16_0, z'16_1⟩ := qz2_ BK195; obtain ⟨y'16_0, y'16_1⟩ := qf2_ BK195)))
   go_ret
   exact ⟨qx_, qb_⟩
 ·rw [if_neg c2] at H
  have c2b0 : decide (1 ≤ a0_1) = false := decide_eq_false c2
  clear c2
  obtain rfl := si_ H
  go_enter Try.func67, Try.ntmps67
  go_wp2_with (first | ((with_reducible refine a0f (N := 1) rfl ?_); refine qev_ 1 #[.int .i64 a0_0, .int .i64 a0_1] 23 ?_; intro gb195 hg w17 hbox hb; have BK195 := am_ (hbox); have GW195 := qga_ hg; have GE195 := qga_ hg; replace HB := qbs_ hb; clear hb hbox hg; obtain ⟨z'18_0, z'18_1⟩ := qz2_ BK195; obtain ⟨y'18_0, y'18_1⟩ := qf2_ BK195))
  repeat (go_quiet (first | ((with_reducible refine a0f (N := 1) rfl ?_); refine qev_ 1 #[.int .i64 a0_0, .int .i64 a0_1] 23 ?_; intro gb195 hg w17 hbox hb; have BK195 := am_ (hbox); have GW195 := qga_ hg; have GE195 := qga_ hg; replace HB := qbs_ hb; clear hb hbox hg; obtain ⟨z'18_0, z'18_1⟩ := qz2_ BK195; obtain ⟨y'18_0, y'18_1⟩ := qf2_ BK195)); try go_wp2_with (first | ((with_reducible refine a0f (N := 1) rfl ?_); refine qev_ 1 #[.int .i64 a0_0, .int .i64 a0_1] 23 ?_; intro gb195 hg w17 hbox hb; have BK195 := am_ (hbox); have GW195 := qga_ hg; have GE195 := qga_ hg; replace HB := qbs_ hb; clear hb hbox hg; obtain ⟨z'18_0, z'18_1⟩ := qz2_ BK195; obtain ⟨y'18_0, y'18_1⟩ := qf2_ BK195)))
  go_ret
  exact ⟨qx_, qb_⟩
def a3y.f (a0_0 a0_1 : Int) : Option (Bool) := (a6h.f a0_0 a0_1).bind fun t200 => (if t200 = true then ((a0s.f a0_0 0 a0_1).bind fun t201 => (some t201)) else (some false))
set_option maxHeartbeats 8000000 in
set_option maxRecDepth 100000 in
theorem a3y.calls (a0_0 a0_1 : Int) (r : Bool) (w : World) (h : a3y.f a0_0 a0_1 = some r) :
  Calls Try.prog 52 #[.agg #[.int .i64 a0_0, .int .i64 a0_1]] w fun e w' => e = .returned (.bool r) ∧ Below w.heap.size w w' := by
 have hu23 := Try.underlying23
 have HB := am_ (Below.refl w.heap.size w)
 have H : ((a6h.f a0_0 a0_1).bind fun t200 => (if t200 = true then ((a0s.f a0_0 0 a0_1).bind fun t201 => (some t201)) else (some false))) = some r := h
 clear h
 replace H := bm_ H
 obtain ⟨t200, A20, H⟩ := H
 replace H : (if t200 = true then ((a0s.f a0_0 0 a0_1).bind fun t201 => (some t201)) else (some false)) = some r := H
 have A2 := am_ A20
 clear A20
 by_cases c3 : t200 = true
 ·subst c3
  have H1 : ((a0s.f a0_0 0 a0_1).bind fun t201 => (some t201)) = some r := by rw [if_pos rfl] at H; exact H
  clear H
  have H := H1
  clear H1
  replace H := bm_ H
  obtain ⟨t201, A40, H⟩ := H
  replace H : (some t201) = some r := H
  have A4 := am_ A40
  clear A40
  obtain rfl := si_ H
  go_enter Try.func52, Try.ntmps52
  go_wp2_with (first | ((with_reducible refine a0f (N := 1) rfl ?_); refine qev_ 1 #[.int .i64 a0_0, .int .i64 a0_1] 23 ?_; intro gb199 hg w5 hbox hb; have BK199 := am_ (hbox); have GW199 := qga_ hg; have GE199 := qga_ hg; replace HB := qbs_ hb; clear hb hbox hg; obtain ⟨z'6_0, z'6_1⟩ := qz2_ BK199; obtain ⟨y'6_0, y'6_1⟩ := qf2_ BK199) | ((with_reducible refine a0e (f := 67) rfl ?_); refine a0w (some 4) rfl rfl Try.func67 (by kernel_rfl) rfl #[.agg #[.int .i64 a0_0, .int .i64 a0_1]] rfl ql_ ?_; (with_reducible refine (a6h.calls a0_0 a0_1 true _ A2.out).mono ?_); rintro e w7 ⟨rfl, hb⟩; refine ⟨_, rfl, ?_⟩; replace BK199 := qkb_ BK199 hb; replace HB := qbs_ hb; (try clear hb); (try clear hb2); (try clear hk); (try clear hi); obtain ⟨z'8_0, z'8_1⟩ := qz2_ BK199; obtain ⟨y'8_0, y'8_1⟩ := qf2_ BK199) | (go_at_call 51; (with_reducible refine (a0s.calls a0_0 0 a0_1 t201 _ A4.out).mono ?_); rintro e w' ⟨rfl, ⟨nd, rfl⟩⟩))
  go_ret
  exact ⟨qx_, qb_⟩
 ·replace c3 := be_ c3
  subst c3
  have H1 : (some false) = some r := by rw [if_neg (show ¬ (false = true) by decide)] at H; exact H
  clear H
  have H := H1
  clear H1
  obtain rfl := si_ H
  go_enter Try.func52, Try.ntmps52
  go_wp2_with (first | ((with_reducible refine a0f (N := 1) rfl ?_); refine qev_ 1 #[.int .i64 a0_0, .int .i64 a0_1] 23 ?_; intro gb199 hg w9 hbox hb; have BK199 := am_ (hbox); have GW199 := qga_ hg; have GE199 := qga_ hg; replace HB := qbs_ hb; clear hb hbox hg; obtain ⟨z'10_0, z'10_1⟩ := qz2_ BK199; obtain ⟨y'10_0, y'10_1⟩ := qf2_ BK199) | ((with_reducible refine a0e (f := 67) rfl ?_); refine a0w (some 4) rfl rfl Try.func67 (by kernel_rfl) rfl #[.agg #[.int .i64 a0_0, .int .i64 a0_1]] rfl ql_ ?_; (with_reducible refine (a6h.calls a0_0 a0_1 false _ A2.out).mono ?_); rintro e w11 ⟨rfl, hb⟩; refine ⟨_, rfl, ?_⟩; replace BK199 := qkb_ BK199 hb; replace HB := qbs_ hb; (try clear hb); (try clear hb2); (try clear hk); (try clear hi)))
  go_ret
  exact ⟨qx_, qb_⟩
def a3p.f (a0_0 a0_1 a0_2 a0_3 : Int) (a0_4 : Bool) : Option (Bool) := (a0s.f a0_0 0 1000).bind fun t203 => (if t203 = true then ((a3y.f a0_1 a0_2).bind fun t204 => (if t204 = true then ((a0s.f a0_3 0 64).bind fun t205 => (some t205)) else (some false))) else (some false))
set_option maxHeartbeats 8000000 in
set_option maxRecDepth 100000 in
theorem a3p.calls (a0_0 a0_1 a0_2 a0_3 : Int) (a0_4 r : Bool) (w : World) (h : a3p.f a0_0 a0_1 a0_2 a0_3 a0_4 = some r) :
  Calls Try.prog 30 #[.agg #[.int .i64 a0_0, .int .i64 a0_1, .int .i64 a0_2, .int .i64 a0_3, .bool a0_4]] w fun e w' => e = .returned (.bool r) ∧ Below w.heap.size w w' := by
 have hu25 := Try.underlying25
 have hu23 := Try.underlying23
 have HB := am_ (Below.refl w.heap.size w)
 have H : ((a0s.f a0_0 0 1000).bind fun t203 => (if t203 = true then ((a3y.f a0_1 a0_2).bind fun t204 => (if t204 = true then ((a0s.f a0_3 0 64).bind fun t205 => (some t205)) else (some false))) else (some false))) = some r := h
 clear h
 replace H := bm_ H
 obtain ⟨t203, A20, H⟩ := H
 replace H : (if t203 = true then ((a3y.f a0_1 a0_2).bind fun t204 => (if t204 = true then ((a0s.f a0_3 0 64).bind fun t205 => (some t205)) else (some false))) else (some false)) = some r := H
 have A2 := am_ A20
 clear A20
 by_cases c3 : t203 = true
 ·subst c3
  have H1 : ((a3y.f a0_1 a0_2).bind fun t204 => (if t204 = true then ((a0s.f a0_3 0 64).bind fun t205 => (some t205)) else (some false))) = some r := by rw [if_pos rfl] at H; exact H
  clear H
  have H := H1
  clear H1
  replace H := bm_ H
  obtain ⟨t204, A40, H⟩ := H
  replace H : (if t204 = true then ((a0s.f a0_3 0 64).bind fun t205 => (some t205)) else (some false)) = some r := H
  have A4 := am_ A40
  clear A40
  by_cases c5 : t204 = true
  ·subst c5
   have H1 : ((a0s.f a0_3 0 64).bind fun t205 => (some t205)) = some r := by rw [if_pos rfl] at H; exact H
   clear H
   have H := H1
   clear H1
   replace H := bm_ H
   obtain ⟨t205, A60, H⟩ := H
   replace H : (some t205) = some r := H
   have A6 := am_ A60
   clear A60
   obtain rfl := si_ H
   go_enter Try.func30, Try.ntmps30
   go_wp2_with (first | ((with_reducible refine a0f (N := 1) rfl ?_); refine qev_ 1 #[.int .i64 a0_0, .int .i64 a0_1, .int .i64 a0_2, .int .i64 a0_3, .bool a0_4] 25 ?_; intro gb202 hg w7 hbox hb; have BK202 := am_ (hbox); have GW202 := qga_ hg; have GE202 := qga_ hg; replace HB := qbs_ hb; clear hb hbox hg; obtain ⟨z'8_0, z'8_1, z'8_2, z'8_3, z'8_4⟩ := qz5_ BK202; obtain ⟨y'8_0, y'8_1, y'8_2, y'8_3, y'8_4⟩ := qf5_ BK202) | ((with_reducible refine a0e (f := 51) rfl ?_); refine a0w (some 5) rfl rfl Try.func51 (by kernel_rfl) rfl #[.int .i64 a0_0, .int .i64 0, .int .i64 1000] rfl ql_ ?_; (with_reducible refine (a0s.calls a0_0 0 1000 true _ A2.out).mono ?_); rintro e w' ⟨rfl, ⟨nd, rfl⟩⟩; refine ⟨_, rfl, ?_⟩) | (go_at_call 52; (with_reducible refine (a3y.calls a0_1 a0_2 true _ A4.out).mono ?_); rintro e w9 ⟨rfl, hb⟩; replace BK202 := qkb_ BK202 hb; replace HB := qbs_ hb; (try clear hb); (try clear hb2); (try clear hk); (try clear hi); obtain ⟨z'10_0, z'10_1, z'10_2, z'10_3, z'10_4⟩ := qz5_ BK202; obtain ⟨y'10_0, y'10_1, y'10_2, y'10_3, y'10_4⟩ := qf5_ BK202) | (go_at_call 51; (with_reducible refine (a0s.calls a0_3 0 64 t205 _ A6.out).mono ?_); rintro e w' ⟨rfl, ⟨nd, rfl⟩⟩))
   go_ret
   exact ⟨qx_, qb_⟩
  ·replace c5 := be_ c5
   subst c5
   have H1 : (some false) = some r := by rw [if_neg (show ¬ (false = true) by decide)] at H; exact H
   clear H
   have H := H1
   clear H1
   obtain rfl := si_ H
   go_enter Try.func30, Try.ntmps30
   go_wp2_with (first | ((with_reducible refine a0f (N := 1) rfl ?_); refine qev_ 1 #[.int .i64 a0_0, .int .i64 a0_1, .int .i64 a0_2, .int .i64 a0_3, .bool a0_4] 25 ?_; intro gb202 hg w11 hbox hb; have BK202 := am_ (hbox); have GW202 := qga_ hg; have GE202 := qga_ hg; replace HB := qbs_ hb; clear hb hbox hg; obtain ⟨z'12_0, z'12_1, z'12_2, z'12_3, z'12_4⟩ := qz5_ BK202; obtain ⟨y'12_0, y'12_1, y'12_2, y'12_3, y'12_4⟩ := qf5_ BK202) | ((with_reducible refine a0e (f := 51) rfl ?_); refine a0w (some 5) rfl rfl Try.func51 (by kernel_rfl) rfl #[.int .i64 a0_0, .int .i64 0, .int .i64 1000] rfl ql_ ?_; (with_reducible refine (a0s.calls a0_0 0 1000 true _ A2.out).mono ?_); rintro e w' ⟨rfl, ⟨nd, rfl⟩⟩; refine ⟨_, rfl, ?_⟩) | (go_at_call 52; (with_reducible refine (a3y.calls a0_1 a0_2 false _ A4.out).mono ?_); rintro e w13 ⟨rfl, hb⟩; replace BK202 := qkb_ BK202 hb; replace HB := qbs_ hb; (try clear hb); (try clear hb2); (try clear hk); (try clear hi)))
   go_ret
   exact ⟨qx_, qb_⟩
 ·replace c3 := be_ c3
  subst c3
  have H1 : (some false) = some r := by rw [if_neg (show ¬ (false = true) by decide)] at H; exact H
  clear H
  have H := H1
  clear H1
  obtain rfl := si_ H
  go_enter Try.func30, Try.ntmps30
  go_wp2_with (first | ((with_reducible refine a0f (N := 1) rfl ?_); refine qev_ 1 #[.int .i64 a0_0, .int .i64 a0_1, .int .i64 a0_2, .int .i64 a0_3, .bool a0_4] 25 ?_; intro gb202 hg w14 hbox hb; have BK202 := am_ (hbox); have GW202 := qga_ hg; have GE202 := qga_ hg; replace HB := qbs_ hb; clear hb hbox hg; obtain ⟨z'15_0, z'15_1, z'15_2, z'15_3, z'15_4⟩ := qz5_ BK202; obtain ⟨y'15_0, y'15_1, y'15_2, y'15_3, y'15_4⟩ := qf5_ BK202) | ((with_reducible refine a0e (f := 51) rfl ?_); refine a0w (some 5) rfl rfl Try.func51 (by kernel_rfl) rfl #[.int .i64 a0_0, .int .i64 0, .int .i64 1000] rfl ql_ ?_; (with_reducible refine (a0s.calls a0_0 0 1000 false _ A2.out).mono ?_); rintro e w' ⟨rfl, ⟨nd, rfl⟩⟩; refine ⟨_, rfl, ?_⟩))
  go_ret
  exact ⟨qx_, qb_⟩
end Go.Proofs.Ytemnlgefngjliaa.Px
