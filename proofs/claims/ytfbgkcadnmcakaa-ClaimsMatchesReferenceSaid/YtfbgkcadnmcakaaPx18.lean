/- Contracts of Go functions, printed. Conditions: as each theorem states. -/
import Derived.Test.YtfbgkcadnmcakaaPx0
namespace Go.Proofs.Ytfbgkcadnmcakaa.Px
open Go.Proofs.Ytfbgkcadnmcakaa.Given
open Go.RowKit Go.Proofs.YtfbgkcadnmcakaaW.PrintWords Go.Proofs.YtfbgkcadnmcakaaW.PrintLast Go.Proofs.YtfbgkcadnmcakaaW.PrintMore
attribute [local go_sem] a2y a2v a3h a3e a2q a2r a2z a3a
set_option linter.unusedVariables false
set_option linter.unusedSimpArgs false
def a0l.f (a0 a1 a2 : Int) : Option (Bool) := if a0 ≥ a1 then (some (decide (a0 ≤ a2))) else (some false)
set_option maxHeartbeats 8000000 in
set_option maxRecDepth 100000 in
theorem a0l.calls (a0 a1 a2 : Int) (r : Bool) (w : World) (h : a0l.f a0 a1 a2 = some r) :
  Calls Try.prog 35 #[.int .i64 a0, .int .i64 a1, .int .i64 a2] w fun e w' => e = .returned (.bool r) ∧ a2w w w' := by
 have H : (if a0 ≥ a1 then (some (decide (a0 ≤ a2))) else (some false)) = some r := h
 clear h
 by_cases c4 : a0 ≥ a1
 ·rw [if_pos c4] at H
  have c4b0 : decide (a1 ≤ a0) = true := decide_eq_true c4
  clear c4
  obtain rfl := si_ H
  go_enter Try.func35, Try.ntmps35
  go_wp2
  go_ret
  exact ⟨qs_, qy_⟩
 ·rw [if_neg c4] at H
  have c4b0 : decide (a1 ≤ a0) = false := decide_eq_false c4
  clear c4
  obtain rfl := si_ H
  go_enter Try.func35, Try.ntmps35
  go_wp2
  go_ret
  exact ⟨qs_, qy_⟩
def a3g.f (a0_0 a0_1 : Int) : Option (Bool) := if a0_0 ≥ 0 then (if a0_0 < a0_1 then (some (decide (a0_1 ≤ 36525))) else (some false)) else (some false)
set_option maxHeartbeats 8000000 in
set_option maxRecDepth 100000 in
theorem a3g.calls (a0_0 a0_1 : Int) (r : Bool) (w : World) (h : a3g.f a0_0 a0_1 = some r) :
  Calls Try.prog 51 #[.agg #[.int .i64 a0_0, .int .i64 a0_1]] w fun e w' => e = .returned (.bool r) ∧ Below w.heap.size w w' := by
 have hu28 := Try.underlying28
 have HB := am_ (Below.refl w.heap.size w)
 have H : (if a0_0 ≥ 0 then (if a0_0 < a0_1 then (some (decide (a0_1 ≤ 36525))) else (some false)) else (some false)) = some r := h
 clear h
 by_cases c2 : a0_0 ≥ 0
 ·rw [if_pos c2] at H
  have c2b0 : decide (0 ≤ a0_0) = true := decide_eq_true c2
  clear c2
  by_cases c3 : a0_0 < a0_1
  ·rw [if_pos c3] at H
   have c3b0 : decide (a0_0 < a0_1) = true := decide_eq_true c3
   clear c3
   obtain rfl := si_ H
   go_enter Try.func51, Try.ntmps51
   go_wp2_with (first | ((with_reducible refine a1m (N := 1) rfl ?_); refine qev_ 1 #[.int .i64 a0_0, .int .i64 a0_1] 28 ?_; intro gb327 hg w4 hbox hb; have BK327 := am_ (hbox); have GW327 := qga_ hg; have GE327 := qga_ hg; replace HB := qbs_ hb; clear hb hbox hg; obtain ⟨z'5_0, z'5_1⟩ := qz2_ BK327; obtain ⟨y'5_0, y'5_1⟩ := qf2_ BK327))
   go_ret
   exact ⟨qx_, qb_⟩
  ·rw [if_neg c3] at H
   have c3b0 : decide (a0_0 < a0_1) = false := decide_eq_false c3
   clear c3
   obtain rfl := si_ H
   go_enter Try.func51, Try.ntmps51
   go_wp2_with (first | ((with_reducible refine a1m (N := 1) rfl ?_); refine qev_ 1 #[.int .i64 a0_0, .int .i64 a0_1] 28 ?_; intro gb327 hg w6 hbox hb; have BK327 := am_ (hbox); have GW327 := qga_ hg; have GE327 := qga_ hg; replace HB := qbs_ hb; clear hb hbox hg; obtain ⟨z'7_0, z'7_1⟩ := qz2_ BK327; obtain ⟨y'7_0, y'7_1⟩ := qf2_ BK327))
   go_ret
   exact ⟨qx_, qb_⟩
 ·rw [if_neg c2] at H
  have c2b0 : decide (0 ≤ a0_0) = false := decide_eq_false c2
  clear c2
  obtain rfl := si_ H
  go_enter Try.func51, Try.ntmps51
  go_wp2_with (first | ((with_reducible refine a1m (N := 1) rfl ?_); refine qev_ 1 #[.int .i64 a0_0, .int .i64 a0_1] 28 ?_; intro gb327 hg w8 hbox hb; have BK327 := am_ (hbox); have GW327 := qga_ hg; have GE327 := qga_ hg; replace HB := qbs_ hb; clear hb hbox hg; obtain ⟨z'9_0, z'9_1⟩ := qz2_ BK327; obtain ⟨y'9_0, y'9_1⟩ := qf2_ BK327))
  go_ret
  exact ⟨qx_, qb_⟩
def a0o.j0 : Nat → Bool → Int → Int → Int → Int → Int → Int → Option (Bool)
 | 0, _, _, _, _, _, _, _ => none
 | k + 1, x24, u0, u1, u2, u3, u4, u5 => if x24 = true then (some false) else ((a3g.f u4 u5).bind fun t333 => (some t333))
def a0o.f (k : Nat) (a0_0 a0_1 a0_2 a0_3 a0_4 a0_5 : Int) : Option (Bool) := (a0l.f a0_0 1 1000000).bind fun t329 => (if t329 = true then ((a0l.f a0_1 1 1000000).bind fun t330 => (if t330 = true then ((a0l.f a0_2 1 1000000).bind fun t331 => (if t331 = true then ((a0l.f a0_3 1 1000000000).bind fun t332 => (a0o.j0 k (!t332) a0_0 a0_1 a0_2 a0_3 a0_4 a0_5)) else (a0o.j0 k true a0_0 a0_1 a0_2 a0_3 a0_4 a0_5))) else (a0o.j0 k true a0_0 a0_1 a0_2 a0_3 a0_4 a0_5))) else (a0o.j0 k true a0_0 a0_1 a0_2 a0_3 a0_4 a0_5))
theorem a0o.a1p : ∀ k, (∀ y0 y1 y2 y3 y4 y5 y6, LeO (a0o.j0 k y0 y1 y2 y3 y4 y5 y6) (a0o.j0 (k + 1) y0 y1 y2 y3 y4 y5 y6))
 | 0 => fun _ _ _ _ _ _ _ r h => by simp [a0o.j0] at h
 | k + 1 => by
  have ih0 := a0o.a1p k
  ·intro y0 y1 y2 y3 y4 y5 y6
   unfold a0o.j0
   with_reducible (repeat' first | apply ih0 | apply LeO.refl | apply LeO.none | apply LeO.ite | refine LeO.bind ?_ (fun _ => ?_))
theorem a0o.mono : ∀ a0 a1 a2 a3 a4 a5 k, LeO (a0o.f k a0 a1 a2 a3 a4 a5) (a0o.f (k + 1) a0 a1 a2 a3 a4 a5) := by
 intro a0 a1 a2 a3 a4 a5 k
 have ih0 := a0o.a1p k
 unfold a0o.f
 with_reducible (repeat' first | apply ih0 | apply LeO.refl | apply LeO.none | apply LeO.ite | refine LeO.bind ?_ (fun _ => ?_))
set_option maxHeartbeats 8000000 in
set_option maxRecDepth 100000 in
theorem a0o.calls (k : Nat) (a0_0 a0_1 a0_2 a0_3 a0_4 a0_5 : Int) (r : Bool) (w : World) (h : a0o.f k a0_0 a0_1 a0_2 a0_3 a0_4 a0_5 = some r) :
  Calls Try.prog 33 #[.agg #[.int .i64 a0_0, .int .i64 a0_1, .int .i64 a0_2, .int .i64 a0_3, .int .i64 a0_4, .int .i64 a0_5]] w fun e w' => e = .returned (.bool r) ∧ Below w.heap.size w w' := by
 have hu30 := Try.underlying30
 have hu28 := Try.underlying28
 have HB := am_ (Below.refl w.heap.size w)
 have H : ((a0l.f a0_0 1 1000000).bind fun t329 => (if t329 = true then ((a0l.f a0_1 1 1000000).bind fun t330 => (if t330 = true then ((a0l.f a0_2 1 1000000).bind fun t331 => (if t331 = true then ((a0l.f a0_3 1 1000000000).bind fun t332 => (a0o.j0 k (!t332) a0_0 a0_1 a0_2 a0_3 a0_4 a0_5)) else (a0o.j0 k true a0_0 a0_1 a0_2 a0_3 a0_4 a0_5))) else (a0o.j0 k true a0_0 a0_1 a0_2 a0_3 a0_4 a0_5))) else (a0o.j0 k true a0_0 a0_1 a0_2 a0_3 a0_4 a0_5))) = some r := h
 clear h
 have HC2 := am_ H
 clear H
 go_enter Try.func33, Try.ntmps33
 go_upto_region 1 with (first | ((with_reducible refine a1m (N := 1) rfl ?_); refine qev_ 1 #[.int .i64 a0_0, .int .i64 a0_1, .int .i64 a0_2, .int .i64 a0_3, .int .i64 a0_4, .int .i64 a0_5] 30 ?_; intro gb328 hg w3 hbox hb; have BK328 := am_ (hbox); have GW328 := qga_ hg; have GE328 := qga_ hg; replace HB := qbs_ hb; clear hb hbox hg))
 (try simp only [Act.put, List.setIfInBounds_toArray, List.set_cons_zero, List.set_cons_succ])
 go_cut [24] (fun v24 wc => ∃ (kq : Nat) (x24_1 : Bool), v24 = .bool x24_1 ∧ Aside0 (a0o.j0 kq x24_1 a0_0 a0_1 a0_2 a0_3 a0_4 a0_5 = some r) ∧ Aside0 (kq ≤ k) ∧ Aside0 (wc.heap[gb328]? = some (.cells #[.int .i64 a0_0, .int .i64 a0_1, .int .i64 a0_2, .int .i64 a0_3, .int .i64 a0_4, .int .i64 a0_5] 30 (0, 0))) ∧ Aside0 (Below w.heap.size w wc))
 case first =>
  have H := HC2.out
  clear HC2
  replace H := bm_ H
  obtain ⟨t329, A40, H⟩ := H
  replace H : (if t329 = true then ((a0l.f a0_1 1 1000000).bind fun t330 => (if t330 = true then ((a0l.f a0_2 1 1000000).bind fun t331 => (if t331 = true then ((a0l.f a0_3 1 1000000000).bind fun t332 => (a0o.j0 k (!t332) a0_0 a0_1 a0_2 a0_3 a0_4 a0_5)) else (a0o.j0 k true a0_0 a0_1 a0_2 a0_3 a0_4 a0_5))) else (a0o.j0 k true a0_0 a0_1 a0_2 a0_3 a0_4 a0_5))) else (a0o.j0 k true a0_0 a0_1 a0_2 a0_3 a0_4 a0_5)) = some r := H
  have A4 := am_ A40
  clear A40
  by_cases c5 : t329 = true
  ·subst c5
   have H1 : ((a0l.f a0_1 1 1000000).bind fun t330 => (if t330 = true then ((a0l.f a0_2 1 1000000).bind fun t331 => (if t331 = true then ((a0l.f a0_3 1 1000000000).bind fun t332 => (a0o.j0 k (!t332) a0_0 a0_1 a0_2 a0_3 a0_4 a0_5)) else (a0o.j0 k true a0_0 a0_1 a0_2 a0_3 a0_4 a0_5))) else (a0o.j0 k true a0_0 a0_1 a0_2 a0_3 a0_4 a0_5))) = some r := by rw [if_pos rfl] at H; exact H
   clear H
   have H := H1
   clear H1
   replace H := bm_ H
   obtain ⟨t330, A60, H⟩ := H
   replace H : (if t330 = true then ((a0l.f a0_2 1 1000000).bind fun t331 => (if t331 = true then ((a0l.f a0_3 1 1000000000).bind fun t332 => (a0o.j0 k (!t332) a0_0 a0_1 a0_2 a0_3 a0_4 a0_5)) else (a0o.j0 k true a0_0 a0_1 a0_2 a0_3 a0_4 a0_5))) else (a0o.j0 k true a0_0 a0_1 a0_2 a0_3 a0_4 a0_5)) = some r := H
   have A6 := am_ A60
   clear A60
   by_cases c7 : t330 = true
   ·subst c7
    have H1 : ((a0l.f a0_2 1 1000000).bind fun t331 => (if t331 = true then ((a0l.f a0_3 1 1000000000).bind fun t332 => (a0o.j0 k (!t332) a0_0 a0_1 a0_2 a0_3 a0_4 a0_5)) else (a0o.j0 k true a0_0 a0_1 a0_2 a0_3 a0_4 a0_5))) = some r := by rw [if_pos rfl] at H; exact H
    clear H
    have H := H1
    clear H1
    replace H := bm_ H
    obtain ⟨t331, A80, H⟩ := H
    replace H : (if t331 = true then ((a0l.f a0_3 1 1000000000).bind fun t332 => (a0o.j0 k (!t332) a0_0 a0_1 a0_2 a0_3 a0_4 a0_5)) else (a0o.j0 k true a0_0 a0_1 a0_2 a0_3 a0_4 a0_5)) = some r := H
    have A8 := am_ A80
    clear A80
    by_cases c9 : t331 = true
    ·subst c9
     have H1 : ((a0l.f a0_3 1 1000000000).bind fun t332 => (a0o.j0 k (!t332) a0_0 a0_1 a0_2 a0_3 a0_4 a0_5)) = some r := by rw [if_pos rfl] at H; exact H
     clear H
     have H := H1
     clear H1
     replace H := bm_ H
     obtain ⟨t332, A100, H⟩ := H
     replace H : (a0o.j0 k (!t332) a0_0 a0_1 a0_2 a0_3 a0_4 a0_5) = some r := H
     have A10 := am_ A100
     clear A100
     have H' := am_ H
     clear H
     obtain ⟨z'11_0, z'11_1, z'11_2, z'11_3, z'11_4, z'11_5⟩ := qz6_ BK328; obtain ⟨y'11_0, y'11_1, y'11_2, y'11_3, y'11_4, y'11_5⟩ := qf6_ BK328
     go_wp2_with (first | ((with_reducible refine a1a (f := 35) rfl ?_); refine a1r (some 5) rfl rfl Try.func35 (by kernel_rfl) rfl #[.int .i64 a0_0, .int .i64 1, .int .i64 1000000] rfl ql_ ?_; (with_reducible refine (a0l.calls a0_0 1 1000000 true _ A4.out).mono ?_); rintro e w' ⟨rfl, ⟨nd, rfl⟩⟩; refine ⟨_, rfl, ?_⟩) | (go_at_call 35; (with_reducible refine (a0l.calls a0_1 1 1000000 true _ A6.out).mono ?_); rintro e w' ⟨rfl, ⟨nd, rfl⟩⟩) | (go_at_call 35; (with_reducible refine (a0l.calls a0_2 1 1000000 true _ A8.out).mono ?_); rintro e w' ⟨rfl, ⟨nd, rfl⟩⟩) | (go_at_call 35; (with_reducible refine (a0l.calls a0_3 1 1000000000 t332 _ A10.out).mono ?_); rintro e w' ⟨rfl, ⟨nd, rfl⟩⟩))
     go_meet
     case rel => exact ⟨_, (!t332), qs_, H', ⟨qo_⟩, ⟨qk_ BK328⟩, ⟨qb_⟩⟩
    ·replace c9 := be_ c9
     subst c9
     have H1 : (a0o.j0 k true a0_0 a0_1 a0_2 a0_3 a0_4 a0_5) = some r := by rw [if_neg (show ¬ (false = true) by decide)] at H; exact H
     clear H
     have H := H1
     clear H1
     have H' := am_ H
     clear H
     obtain ⟨z'12_0, z'12_1, z'12_2, z'12_3, z'12_4, z'12_5⟩ := qz6_ BK328; obtain ⟨y'12_0, y'12_1, y'12_2, y'12_3, y'12_4, y'12_5⟩ := qf6_ BK328
     go_wp2_with (first | ((with_reducible refine a1a (f := 35) rfl ?_); refine a1r (some 5) rfl rfl Try.func35 (by kernel_rfl) rfl #[.int .i64 a0_0, .int .i64 1, .int .i64 1000000] rfl ql_ ?_; (with_reducible refine (a0l.calls a0_0 1 1000000 true _ A4.out).mono ?_); rintro e w' ⟨rfl, ⟨nd, rfl⟩⟩; refine ⟨_, rfl, ?_⟩) | (go_at_call 35; (with_reducible refine (a0l.calls a0_1 1 1000000 true _ A6.out).mono ?_); rintro e w' ⟨rfl, ⟨nd, rfl⟩⟩) | (go_at_call 35; (with_reducible refine (a0l.calls a0_2 1 1000000 false _ A8.out).mono ?_); rintro e w' ⟨rfl, ⟨nd, rfl⟩⟩))
     go_meet
     case rel => exact ⟨_, (true), qs_, H', ⟨qo_⟩, ⟨qk_ BK328⟩, ⟨qb_⟩⟩
   ·replace c7 := be_ c7
    subst c7
    have H1 : (a0o.j0 k true a0_0 a0_1 a0_2 a0_3 a0_4 a0_5) = some r := by rw [if_neg (show ¬ (false = true) by decide)] at H; exact H
    clear H
    have H := H1
    clear H1
    have H' := am_ H
    clear H
    obtain ⟨z'13_0, z'13_1, z'13_2, z'13_3, z'13_4, z'13_5⟩ := qz6_ BK328; obtain ⟨y'13_0, y'13_1, y'13_2, y'13_3, y'13_4, y'13_5⟩ := qf6_ BK328
    go_wp2_with (first | ((with_reducible refine a1a (f := 35) rfl ?_); refine a1r (some 5) rfl rfl Try.func35 (by kernel_rfl) rfl #[.int .i64 a0_0, .int .i64 1, .int .i64 1000000] rfl ql_ ?_; (with_reducible refine (a0l.calls a0_0 1 1000000 true _ A4.out).mono ?_); rintro e w' ⟨rfl, ⟨nd, rfl⟩⟩; refine ⟨_, rfl, ?_⟩) | (go_at_call 35; (with_reducible refine (a0l.calls a0_1 1 1000000 false _ A6.out).mono ?_); rintro e w' ⟨rfl, ⟨nd, rfl⟩⟩))
    go_meet
    case rel => exact ⟨_, (true), qs_, H', ⟨qo_⟩, ⟨qk_ BK328⟩, ⟨qb_⟩⟩
  ·replace c5 := be_ c5
   subst c5
   have H1 : (a0o.j0 k true a0_0 a0_1 a0_2 a0_3 a0_4 a0_5) = some r := by rw [if_neg (show ¬ (false = true) by decide)] at H; exact H
   clear H
   have H := H1
   clear H1
   have H' := am_ H
   clear H
   obtain ⟨z'14_0, z'14_1, z'14_2, z'14_3, z'14_4, z'14_5⟩ := qz6_ BK328; obtain ⟨y'14_0, y'14_1, y'14_2, y'14_3, y'14_4, y'14_5⟩ := qf6_ BK328
   go_wp2_with (first | ((with_reducible refine a1a (f := 35) rfl ?_); refine a1r (some 5) rfl rfl Try.func35 (by kernel_rfl) rfl #[.int .i64 a0_0, .int .i64 1, .int .i64 1000000] rfl ql_ ?_; (with_reducible refine (a0l.calls a0_0 1 1000000 false _ A4.out).mono ?_); rintro e w' ⟨rfl, ⟨nd, rfl⟩⟩; refine ⟨_, rfl, ?_⟩))
   go_meet
   case rel => exact ⟨_, (true), qs_, H', ⟨qo_⟩, ⟨qk_ BK328⟩, ⟨qb_⟩⟩
 case rest =>
  clear HC2
  try clear p2
  try clear c3
  try clear c5
  try clear c7
  try clear c9
  try clear z'11_0 z'11_1 z'11_2 z'11_3 z'11_4 z'11_5
  try clear z'12_0 z'12_1 z'12_2 z'12_3 z'12_4 z'12_5
  try clear z'13_0 z'13_1 z'13_2 z'13_3 z'13_4 z'13_5
  try clear z'14_0 z'14_1 z'14_2 z'14_3 z'14_4 z'14_5
  try clear y'11_0 y'11_1 y'11_2 y'11_3 y'11_4 y'11_5
  try clear y'12_0 y'12_1 y'12_2 y'12_3 y'12_4 y'12_5
  try clear y'13_0 y'13_1 y'13_2 y'13_3 y'13_4 y'13_5
  try clear y'14_0 y'14_1 y'14_2 y'14_3 y'14_4 y'14_5
  obtain ⟨kq, x24_1, rfl, HA, HJ1, BK328, HB⟩ := hcut
  cases kq with
  | zero => exact absurd HA.out (by simp [a0o.j0])
  | succ kj1 =>
   have H := HA.out
   clear HA
   simp only [a0o.j0] at H
   by_cases c15 : x24_1 = true
   ·subst c15
    have H1 : (some false) = some r := by rw [if_pos rfl] at H; exact H
    clear H
    have H := H1
    clear H1
    obtain rfl := si_ H
    go_wp2
    go_ret
    exact ⟨qx_, qb_⟩
   ·replace c15 := be_ c15
    subst c15
    have H1 : ((a3g.f a0_4 a0_5).bind fun t333 => (some t333)) = some r := by rw [if_neg (show ¬ (false = true) by decide)] at H; exact H
    clear H
    have H := H1
    clear H1
    replace H := bm_ H
    obtain ⟨t333, A160, H⟩ := H
    replace H : (some t333) = some r := H
    have A16 := am_ A160
    clear A160
    obtain rfl := si_ H
    obtain ⟨z'17_0, z'17_1, z'17_2, z'17_3, z'17_4, z'17_5⟩ := qz6_ BK328; obtain ⟨y'17_0, y'17_1, y'17_2, y'17_3, y'17_4, y'17_5⟩ := qf6_ BK328
    go_wp2_with (first | ((with_reducible refine a1a (f := 51) rfl ?_); refine a1r (some 27) rfl rfl Try.func51 (by kernel_rfl) rfl #[.agg #[.int .i64 a0_4, .int .i64 a0_5]] rfl ql_ ?_; (with_reducible refine (a3g.calls a0_4 a0_5 t333 _ A16.out).mono ?_); rintro e w18 ⟨rfl, hb⟩; refine ⟨_, rfl, ?_⟩; replace BK328 := qkb_ BK328 hb; replace HB := qbs_ hb; (try clear hb); (try clear hb2); (try clear hk); (try clear hi)))
    go_ret
    exact ⟨qx_, qb_⟩
mutual
def a0k.l0 : Nat → List (S26) → Int → Option (Bool)
 | 0, _, _ => none
 | k + 1, x0, x3 => if x3 < (x0.length : Int) then (if 0 ≤ x3 then ((a0l.f ((a0c x0 x3).f0) 1 1000000).bind fun t336 => (if t336 = true then ((a0l.f ((a0c x0 x3).f1) 1 1000000).bind fun t337 => (if t337 = true then ((a0l.f ((a0c x0 x3).f2) 1 1000000).bind fun t338 => (if t338 = true then ((a0l.f ((a0c x0 x3).f3) 0 36524).bind fun t339 => (a0k.j1 k x0 x3 (!t339))) else (a0k.j1 k x0 x3 true))) else (a0k.j1 k x0 x3 true))) else (a0k.j1 k x0 x3 true))) else (none)) else (some (decide ((x0.length : Int) ≤ 1000)))
def a0k.j1 : Nat → List (S26) → Int → Bool → Option (Bool)
 | 0, _, _, _ => none
 | k + 1, x0, x3, x36 => if x36 = true then (some false) else (a0k.l0 k x0 (wrap64 (x3 + 1)))
end
def a0k.f (k : Nat) (l0 : List (S26)) : Option (Bool) := a0k.l0 k l0 0
theorem a0k.a1p : ∀ k, (∀ y0 y1, LeO (a0k.l0 k y0 y1) (a0k.l0 (k + 1) y0 y1)) ∧ (∀ y0 y1 y2, LeO (a0k.j1 k y0 y1 y2) (a0k.j1 (k + 1) y0 y1 y2))
 | 0 => ⟨fun _ _ r h => by simp [a0k.l0] at h, fun _ _ _ r h => by simp [a0k.j1] at h⟩
 | k + 1 => by
  obtain ⟨ih0, ih1⟩ := a0k.a1p k
  refine ⟨?_, ?_⟩
  ·intro y0 y1
   unfold a0k.l0
   with_reducible (repeat' first | apply ih0 | apply ih1 | apply LeO.refl | apply LeO.none | apply LeO.ite | refine LeO.bind ?_ (fun _ => ?_))
  ·intro y0 y1 y2
   unfold a0k.j1
   with_reducible (repeat' first | apply ih0 | apply ih1 | apply LeO.refl | apply LeO.none | apply LeO.ite | refine LeO.bind ?_ (fun _ => ?_))
theorem a0k.mono : ∀ a0 k, LeO (a0k.f k a0) (a0k.f (k + 1) a0) := by
 intro a0 k
 obtain ⟨ih0, ih1⟩ := a0k.a1p k
 unfold a0k.f
 with_reducible (repeat' first | apply ih0 | apply ih1 | apply LeO.refl | apply LeO.none | apply LeO.ite | refine LeO.bind ?_ (fun _ => ?_))
set_option maxHeartbeats 8000000 in
set_option maxRecDepth 100000 in
theorem a0k.calls (k : Nat) (A0 : Option Addr) (c0 : Nat) (l0 : List (S26)) (r : Bool) (w : World) (hr0 : Kd.C k26 w A0 l0.length l0) (hc0 : l0.length ≤ c0) (h : a0k.f k l0 = some r) :
  Calls Try.prog 34 #[.slice A0 l0.length c0] w fun e w' => e = .returned (.bool r) ∧ Below w.heap.size w w' := by
 have hu26 := Try.underlying26
 have HR0 := am_ hr0
 have HC0 := am_ hc0
 clear hr0 hc0
 have HB := am_ (Below.refl w.heap.size w)
 have H : (a0k.l0 k l0 0) = some r := h
 clear h
 have H' := am_ H
 clear H
 go_enter Try.func34, Try.ntmps34
 go_wp2
 go_loopg [3] k (fun kq v3 w' => ∃ (x3_1 : Int), v3 = .int .i64 x3_1 ∧ Aside0 (a0k.l0 kq l0 x3_1 = some r) ∧ Aside0 (kq ≤ k) ∧ Aside0 (Below w.heap.size w w'))
 case atStart => exact ⟨(0), qs_, H', ⟨Nat.le_refl _⟩, ⟨qb_⟩⟩
 case round =>
  clear H'
  obtain ⟨x3_1, rfl, HA, HK1, HB⟩ := hrel
  cases gk with
  | zero => exact absurd HA.out (by simp [a0k.l0])
  | succ k1 =>
   have H := HA.out
   clear HA
   simp only [a0k.l0] at H
   by_cases c2 : x3_1 < (l0.length : Int)
   ·rw [if_pos c2] at H
    have c2b0 : decide (x3_1 < (l0.length : Int)) = true := decide_eq_true c2
    clear c2
    by_cases c3 : 0 ≤ x3_1
    ·rw [if_pos c3] at H
     have c3b0 : decide (0 ≤ x3_1) = true := decide_eq_true c3
     clear c3
     have HC4 := am_ H
     clear H
     have p334 : 0 ≤ (x3_1 : Int) := ot_
     have q334 : x3_1 < (l0.length : Int) := ot_
     obtain ⟨ad334, e334, hx334_0, hx334_1, hx334_2, hx334_3⟩ := a2j HR0.out x3_1 p334 q334
     cases e334
     replace hx334_0 := qh_ HB hx334_0
     replace hx334_1 := qh_ HB hx334_1
     replace hx334_2 := qh_ HB hx334_2
     replace hx334_3 := qh_ HB hx334_3
     replace p334 := eq_true p334
     replace q334 := eq_true q334
     go_upto_region 5 with (first | ((with_reducible refine a1m (N := 4) rfl ?_); refine qev_ 4 #[.int .i64 0, .int .i64 0, .int .i64 0, .int .i64 0] 26 ?_; intro gb335 hg w5 hbox hb; have BK335 := am_ (hbox); have GW335 := qga_ hg; have GE335 := qga_ hg; replace HB := qbs_ hb; clear hb hbox hg; obtain ⟨z'6_0, z'6_1, z'6_2, z'6_3⟩ := qz4_ BK335; obtain ⟨y'6_0, y'6_1, y'6_2, y'6_3⟩ := qf4_ BK335))
     (try simp only [Act.put, List.setIfInBounds_toArray, List.set_cons_zero, List.set_cons_succ])
     go_cut [36] (fun v36 wc => ∃ (kq : Nat) (x36_3 : Bool), v36 = .bool x36_3 ∧ Aside0 (a0k.j1 kq l0 x3_1 x36_3 = some r) ∧ Aside0 (kq ≤ k1) ∧ Aside0 (wc.heap[gb335]? = some (.cells #[.int .i64 ((a0c l0 x3_1).f0), .int .i64 ((a0c l0 x3_1).f1), .int .i64 ((a0c l0 x3_1).f2), .int .i64 ((a0c l0 x3_1).f3)] 26 (0, 0))) ∧ Aside0 (Below w.heap.size w wc))
     case first =>
      have H := HC4.out
      clear HC4
      replace H := bm_ H
      obtain ⟨t336, A70, H⟩ := H
      replace H : (if t336 = true then ((a0l.f ((a0c l0 x3_1).f1) 1 1000000).bind fun t337 => (if t337 = true then ((a0l.f ((a0c l0 x3_1).f2) 1 1000000).bind fun t338 => (if t338 = true then ((a0l.f ((a0c l0 x3_1).f3) 0 36524).bind fun t339 => (a0k.j1 k1 l0 x3_1 (!t339))) else (a0k.j1 k1 l0 x3_1 true))) else (a0k.j1 k1 l0 x3_1 true))) else (a0k.j1 k1 l0 x3_1 true)) = some r := H
      have A7 := am_ A70
      clear A70
      by_cases c8 : t336 = true
      ·subst c8
       have H1 : ((a0l.f ((a0c l0 x3_1).f1) 1 1000000).bind fun t337 => (if t337 = true then ((a0l.f ((a0c l0 x3_1).f2) 1 1000000).bind fun t338 => (if t338 = true then ((a0l.f ((a0c l0 x3_1).f3) 0 36524).bind fun t339 => (a0k.j1 k1 l0 x3_1 (!t339))) else (a0k.j1 k1 l0 x3_1 true))) else (a0k.j1 k1 l0 x3_1 true))) = some r := by rw [if_pos rfl] at H; exact H
       clear H
       have H := H1
       clear H1
       replace H := bm_ H
       obtain ⟨t337, A90, H⟩ := H
       replace H : (if t337 = true then ((a0l.f ((a0c l0 x3_1).f2) 1 1000000).bind fun t338 => (if t338 = true then ((a0l.f ((a0c l0 x3_1).f3) 0 36524).bind fun t339 => (a0k.j1 k1 l0 x3_1 (!t339))) else (a0k.j1 k1 l0 x3_1 true))) else (a0k.j1 k1 l0 x3_1 true)) = some r := H
       have A9 := am_ A90
       clear A90
       by_cases c10 : t337 = true
       ·subst c10
        have H1 : ((a0l.f ((a0c l0 x3_1).f2) 1 1000000).bind fun t338 => (if t338 = true then ((a0l.f ((a0c l0 x3_1).f3) 0 36524).bind fun t339 => (a0k.j1 k1 l0 x3_1 (!t339))) else (a0k.j1 k1 l0 x3_1 true))) = some r := by rw [if_pos rfl] at H; exact H
        clear H
        have H := H1
        clear H1
        replace H := bm_ H
        obtain ⟨t338, A110, H⟩ := H
        replace H : (if t338 = true then ((a0l.f ((a0c l0 x3_1).f3) 0 36524).bind fun t339 => (a0k.j1 k1 l0 x3_1 (!t339))) else (a0k.j1 k1 l0 x3_1 true)) = some r := H
        have A11 := am_ A110
        clear A110
        by_cases c12 : t338 = true
        ·subst c12
         have H1 : ((a0l.f ((a0c l0 x3_1).f3) 0 36524).bind fun t339 => (a0k.j1 k1 l0 x3_1 (!t339))) = some r := by rw [if_pos rfl] at H; exact H
         clear H
         have H := H1
         clear H1
         replace H := bm_ H
         obtain ⟨t339, A130, H⟩ := H
         replace H : (a0k.j1 k1 l0 x3_1 (!t339)) = some r := H
         have A13 := am_ A130
         clear A130
         have H' := am_ H
         clear H
         obtain ⟨z'14_0, z'14_1, z'14_2, z'14_3⟩ := qz4_ BK335; obtain ⟨y'14_0, y'14_1, y'14_2, y'14_3⟩ := qf4_ BK335
         go_wp2_with (first | ((with_reducible refine a1a (f := 35) rfl ?_); refine a1r (some 17) rfl rfl Try.func35 (by kernel_rfl) rfl #[.int .i64 ((a0c l0 x3_1).f0), .int .i64 1, .int .i64 1000000] rfl ql_ ?_; (with_reducible refine (a0l.calls ((a0c l0 x3_1).f0) 1 1000000 true _ A7.out).mono ?_); rintro e w' ⟨rfl, ⟨nd, rfl⟩⟩; refine ⟨_, rfl, ?_⟩) | (go_at_call 35; (with_reducible refine (a0l.calls ((a0c l0 x3_1).f1) 1 1000000 true _ A9.out).mono ?_); rintro e w' ⟨rfl, ⟨nd, rfl⟩⟩) | (go_at_call 35; (with_reducible refine (a0l.calls ((a0c l0 x3_1).f2) 1 1000000 true _ A11.out).mono ?_); rintro e w' ⟨rfl, ⟨nd, rfl⟩⟩) | (go_at_call 35; (with_reducible refine (a0l.calls ((a0c l0 x3_1).f3) 0 36524 t339 _ A13.out).mono ?_); rintro e w' ⟨rfl, ⟨nd, rfl⟩⟩))
         go_meet
         case rel => exact ⟨_, (!t339), qs_, H', ⟨by have := HK1.out; first | omega | exact Nat.le_refl _⟩, ⟨by refine qd_ ?_; refine a0u (cs := #[.int .i64 ((a0c l0 x3_1).f0), .int .i64 ((a0c l0 x3_1).f1), .int .i64 ((a0c l0 x3_1).f2), .int .i64 0]) ?_ 3 _ rfl; refine qd_ ?_; refine a0u (cs := #[.int .i64 ((a0c l0 x3_1).f0), .int .i64 ((a0c l0 x3_1).f1), .int .i64 0, .int .i64 0]) ?_ 2 _ rfl; refine qd_ ?_; refine a0u (cs := #[.int .i64 ((a0c l0 x3_1).f0), .int .i64 0, .int .i64 0, .int .i64 0]) ?_ 1 _ rfl; refine qd_ ?_; refine a0u (cs := #[.int .i64 0, .int .i64 0, .int .i64 0, .int .i64 0]) ?_ 0 _ rfl; refine qd_ ?_; exact BK335.out⟩, ⟨qb_⟩⟩
        ·replace c12 := be_ c12
         subst c12
         have H1 : (a0k.j1 k1 l0 x3_1 true) = some r := by rw [if_neg (show ¬ (false = true) by decide)] at H; exact H
         clear H
         have H := H1
         clear H1
         have H' := am_ H
         clear H
         obtain ⟨z'15_0, z'15_1, z'15_2, z'15_3⟩ := qz4_ BK335; obtain ⟨y'15_0, y'15_1, y'15_2, y'15_3⟩ := qf4_ BK335
         go_wp2_with (first | ((with_reducible refine a1a (f := 35) rfl ?_); refine a1r (some 17) rfl rfl Try.func35 (by kernel_rfl) rfl #[.int .i64 ((a0c l0 x3_1).f0), .int .i64 1, .int .i64 1000000] rfl ql_ ?_; (with_reducible refine (a0l.calls ((a0c l0 x3_1).f0) 1 1000000 true _ A7.out).mono ?_); rintro e w' ⟨rfl, ⟨nd, rfl⟩⟩; refine ⟨_, rfl, ?_⟩) | (go_at_call 35; (with_reducible refine (a0l.calls ((a0c l0 x3_1).f1) 1 1000000 true _ A9.out).mono ?_); rintro e w' ⟨rfl, ⟨nd, rfl⟩⟩) | (go_at_call 35; (with_reducible refine (a0l.calls ((a0c l0 x3_1).f2) 1 1000000 false _ A11.out).mono ?_); rintro e w' ⟨rfl, ⟨nd, rfl⟩⟩))
         go_meet
         case rel => exact ⟨_, (true), qs_, H', ⟨by have := HK1.out; first | omega | exact Nat.le_refl _⟩, ⟨by refine qd_ ?_; refine a0u (cs := #[.int .i64 ((a0c l0 x3_1).f0), .int .i64 ((a0c l0 x3_1).f1), .int .i64 ((a0c l0 x3_1).f2), .int .i64 0]) ?_ 3 _ rfl; refine qd_ ?_; refine a0u (cs := #[.int .i64 ((a0c l0 x3_1).f0), .int .i64 ((a0c l0 x3_1).f1), .int .i64 0, .int .i64 0]) ?_ 2 _ rfl; refine qd_ ?_; refine a0u (cs := #[.int .i64 ((a0c l0 x3_1).f0), .int .i64 0, .int .i64 0, .int .i64 0]) ?_ 1 _ rfl; refine qd_ ?_; refine a0u (cs := #[.int .i64 0, .int .i64 0, .int .i64 0, .int .i64 0]) ?_ 0 _ rfl; refine qd_ ?_; exact BK335.out⟩, ⟨qb_⟩⟩
       ·replace c10 := be_ c10
        subst c10
        have H1 : (a0k.j1 k1 l0 x3_1 true) = some r := by rw [if_neg (show ¬ (false = true) by decide)] at H; exact H
        clear H
        have H := H1
        clear H1
        have H' := am_ H
        clear H
        obtain ⟨z'16_0, z'16_1, z'16_2, z'16_3⟩ := qz4_ BK335; obtain ⟨y'16_0, y'16_1, y'16_2, y'16_3⟩ := qf4_ BK335
        go_wp2_with (first | ((with_reducible refine a1a (f := 35) rfl ?_); refine a1r (some 17) rfl rfl Try.func35 (by kernel_rfl) rfl #[.int .i64 ((a0c l0 x3_1).f0), .int .i64 1, .int .i64 1000000] rfl ql_ ?_; (with_reducible refine (a0l.calls ((a0c l0 x3_1).f0) 1 1000000 true _ A7.out).mono ?_); rintro e w' ⟨rfl, ⟨nd, rfl⟩⟩; refine ⟨_, rfl, ?_⟩) | (go_at_call 35; (with_reducible refine (a0l.calls ((a0c l0 x3_1).f1) 1 1000000 false _ A9.out).mono ?_); rintro e w' ⟨rfl, ⟨nd, rfl⟩⟩))
        go_meet
        case rel => exact ⟨_, (true), qs_, H', ⟨by have := HK1.out; first | omega | exact Nat.le_refl _⟩, ⟨by refine qd_ ?_; refine a0u (cs := #[.int .i64 ((a0c l0 x3_1).f0), .int .i64 ((a0c l0 x3_1).f1), .int .i64 ((a0c l0 x3_1).f2), .int .i64 0]) ?_ 3 _ rfl; refine qd_ ?_; refine a0u (cs := #[.int .i64 ((a0c l0 x3_1).f0), .int .i64 ((a0c l0 x3_1).f1), .int .i64 0, .int .i64 0]) ?_ 2 _ rfl; refine qd_ ?_; refine a0u (cs := #[.int .i64 ((a0c l0 x3_1).f0), .int .i64 0, .int .i64 0, .int .i64 0]) ?_ 1 _ rfl; refine qd_ ?_; refine a0u (cs := #[.int .i64 0, .int .i64 0, .int .i64 0, .int .i64 0]) ?_ 0 _ rfl; refine qd_ ?_; exact BK335.out⟩, ⟨qb_⟩⟩
      ·replace c8 := be_ c8
       subst c8
       have H1 : (a0k.j1 k1 l0 x3_1 true) = some r := by rw [if_neg (show ¬ (false = true) by decide)] at H; exact H
       clear H
       have H := H1
       clear H1
       have H' := am_ H
       clear H
       obtain ⟨z'17_0, z'17_1, z'17_2, z'17_3⟩ := qz4_ BK335; obtain ⟨y'17_0, y'17_1, y'17_2, y'17_3⟩ := qf4_ BK335
       go_wp2_with (first | ((with_reducible refine a1a (f := 35) rfl ?_); refine a1r (some 17) rfl rfl Try.func35 (by kernel_rfl) rfl #[.int .i64 ((a0c l0 x3_1).f0), .int .i64 1, .int .i64 1000000] rfl ql_ ?_; (with_reducible refine (a0l.calls ((a0c l0 x3_1).f0) 1 1000000 false _ A7.out).mono ?_); rintro e w' ⟨rfl, ⟨nd, rfl⟩⟩; refine ⟨_, rfl, ?_⟩))
       go_meet
       case rel => exact ⟨_, (true), qs_, H', ⟨by have := HK1.out; first | omega | exact Nat.le_refl _⟩, ⟨by refine qd_ ?_; refine a0u (cs := #[.int .i64 ((a0c l0 x3_1).f0), .int .i64 ((a0c l0 x3_1).f1), .int .i64 ((a0c l0 x3_1).f2), .int .i64 0]) ?_ 3 _ rfl; refine qd_ ?_; refine a0u (cs := #[.int .i64 ((a0c l0 x3_1).f0), .int .i64 ((a0c l0 x3_1).f1), .int .i64 0, .int .i64 0]) ?_ 2 _ rfl; refine qd_ ?_; refine a0u (cs := #[.int .i64 ((a0c l0 x3_1).f0), .int .i64 0, .int .i64 0, .int .i64 0]) ?_ 1 _ rfl; refine qd_ ?_; refine a0u (cs := #[.int .i64 0, .int .i64 0, .int .i64 0, .int .i64 0]) ?_ 0 _ rfl; refine qd_ ?_; exact BK335.out⟩, ⟨qb_⟩⟩
     case rest =>
      clear HC4
      try clear c1
      try clear c2
      try clear c2b0
      try clear p2
      try clear c3
      try clear c3b0
      try clear p3
      try clear q3
      try clear hx3
      try clear c8
      try clear c10
      try clear c12
      try clear z'14_0 z'14_1 z'14_2 z'14_3
      try clear z'15_0 z'15_1 z'15_2 z'15_3
      try clear z'16_0 z'16_1 z'16_2 z'16_3
      try clear z'17_0 z'17_1 z'17_2 z'17_3
      try clear z'6_0 z'6_1 z'6_2 z'6_3
      try clear y'14_0 y'14_1 y'14_2 y'14_3
      try clear y'15_0 y'15_1 y'15_2 y'15_3
      try clear y'16_0 y'16_1 y'16_2 y'16_3
      try clear y'17_0 y'17_1 y'17_2 y'17_3
      try clear y'6_0 y'6_1 y'6_2 y'6_3
      try clear hx334_0
      try clear hx334_1
      try clear hx334_2
      try clear hx334_3
      try clear p334
      try clear q334
      obtain ⟨kq, x36_3, rfl, HA, HJ3, BK335, HB⟩ := hcut
      cases kq with
      | zero => exact absurd HA.out (by simp [a0k.j1])
      | succ kj3 =>
       have H := HA.out
       clear HA
       simp only [a0k.j1] at H
       by_cases c18 : x36_3 = true
       ·subst c18
        have H1 : (some false) = some r := by rw [if_pos rfl] at H; exact H
        clear H
        have H := H1
        clear H1
        obtain rfl := si_ H
        go_wp2
        go_ret
        exact ⟨qx_, qb_⟩
       ·replace c18 := be_ c18
        subst c18
        have H1 : (a0k.l0 kj3 l0 (wrap64 (x3_1 + 1))) = some r := by rw [if_neg (show ¬ (false = true) by decide)] at H; exact H
        clear H
        have H := H1
        clear H1
        have H' := am_ H
        clear H
        go_wp2
        go_roundg kj3
        case measure => have := HK1.out; have := HJ3.out; omega
        case rel => exact ⟨(wrap64 (x3_1 + 1)), qs_, H', ⟨by have := HK1.out; have := HJ3.out; omega⟩, ⟨qb_⟩⟩
    ·rw [if_neg c3] at H
     exact absurd H (by simp)
   ·rw [if_neg c2] at H
    have c2b0 : decide (x3_1 < (l0.length : Int)) = false := decide_eq_false c2
    clear c2
    obtain rfl := si_ H
    go_wp2
    go_ret
    exact ⟨qx_, qb_⟩
end Go.Proofs.Ytfbgkcadnmcakaa.Px
