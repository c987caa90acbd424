/- Contracts of Go functions, printed. Conditions: as each theorem states. -/
import Derived.Test.YtemnlgefngjliaaPx0
import Derived.Test.YtemnlgefngjliaaPx17
namespace Go.Proofs.Ytemnlgefngjliaa.Px
open Go.Proofs.Ytemnlgefngjliaa.Given
open Go.RowKit Go.Proofs.YtemnlgefngjliaaW.PrintWords Go.Proofs.YtemnlgefngjliaaW.PrintLast Go.Proofs.YtemnlgefngjliaaW.PrintMore
attribute [local go_sem] max2_int min2_int max_two min_two max_three min_three max_four min_four
set_option linter.unusedVariables false
set_option linter.unusedSimpArgs false
def RfPassed.j0 : Nat → Int → Int → Bool → Int → Int → Option (Bool × Int)
 | 0, _, _, _, _, _ => none
 | k + 1, x0, x1, x26, u0, u1 => if x26 = true then (some (false, 1)) else (some (decide ((wrap64 (x0 * u1)) > (wrap64 (u0 * (wrap64 (x0 + x1))))), 0))
def RfPassed.f (k : Nat) (a0 a1 a2_0 a2_1 : Int) : Option (Bool × Int) := if a0 < 0 then (RfPassed.j0 k a0 a1 true a2_0 a2_1) else (if a0 > 1000000 then (RfPassed.j0 k a0 a1 true a2_0 a2_1) else (if a1 < 0 then (RfPassed.j0 k a0 a1 true a2_0 a2_1) else (if a1 > 1000000 then (RfPassed.j0 k a0 a1 true a2_0 a2_1) else ((Rfpart.f k a2_0 a2_1).bind fun t459 => (RfPassed.j0 k a0 a1 (!t459) a2_0 a2_1)))))
theorem RfPassed.mono_l : ∀ k, (∀ y0 y1 y2 y3 y4, LeO (RfPassed.j0 k y0 y1 y2 y3 y4) (RfPassed.j0 (k + 1) y0 y1 y2 y3 y4))
 | 0 => fun _ _ _ _ _ r h => by simp [RfPassed.j0] at h
 | k + 1 => by
  have ih0 := RfPassed.mono_l k
  ·intro y0 y1 y2 y3 y4
   unfold RfPassed.j0
   with_reducible (repeat' first | apply ih0 | apply Rfpart.mono | apply LeO.refl | apply LeO.none | apply LeO.ite | refine LeO.bind ?_ (fun _ => ?_))
theorem RfPassed.mono : ∀ a0 a1 a2 a3 k, LeO (RfPassed.f k a0 a1 a2 a3) (RfPassed.f (k + 1) a0 a1 a2 a3) := by
 intro a0 a1 a2 a3 k
 have ih0 := RfPassed.mono_l k
 unfold RfPassed.f
 with_reducible (repeat' first | apply ih0 | apply Rfpart.mono | apply LeO.refl | apply LeO.none | apply LeO.ite | refine LeO.bind ?_ (fun _ => ?_))
set_option maxHeartbeats 8000000 in
set_option maxRecDepth 100000 in
theorem RfPassed.calls (k : Nat) (a0 a1 a2_0 a2_1 : Int) (r1 : Bool) (r2 : Int) (w : World) (h : RfPassed.f k a0 a1 a2_0 a2_1 = some (r1, r2)) :
  Calls Try.prog 21 #[.int .i64 a0, .int .i64 a1, .agg #[.int .i64 a2_0, .int .i64 a2_1]] w fun e w' => e = .returned (.tuple #[.bool r1, .int .i64 r2]) ∧ Below w.heap.size w w' := by
 have hu23 := Try.underlying23
 have HB := am_ (Below.refl w.heap.size w)
 have H : (if a0 < 0 then (RfPassed.j0 k a0 a1 true a2_0 a2_1) else (if a0 > 1000000 then (RfPassed.j0 k a0 a1 true a2_0 a2_1) else (if a1 < 0 then (RfPassed.j0 k a0 a1 true a2_0 a2_1) else (if a1 > 1000000 then (RfPassed.j0 k a0 a1 true a2_0 a2_1) else ((Rfpart.f k a2_0 a2_1).bind fun t459 => (RfPassed.j0 k a0 a1 (!t459) a2_0 a2_1)))))) = some (r1, r2) := h
 clear h
 have HC4 := am_ H
 clear H
 go_enter Try.func21, Try.ntmps21
 go_upto_region 1 with (first | ((with_reducible refine gate_dst (N := 5) rfl ?_); refine qev_ 5 #[.int .i64 a2_0, .int .i64 a2_1] 23 ?_; intro gb458 hg w5 hbox hb; have BK458 := am_ (hbox); have GW458 := qga_ hg; have GE458 := qga_ hg; replace HB := qbs_ hb; clear hb hbox hg))
 (try simp only [Act.put, List.setIfInBounds_toArray, List.set_cons_zero, List.set_cons_succ])
 go_cut [26] (fun v26 wc => ∃ (kq : Nat) (x26_3 : Bool), v26 = .bool x26_3 ∧ Aside0 (RfPassed.j0 kq a0 a1 x26_3 a2_0 a2_1 = some (r1, r2)) ∧ Aside0 (kq ≤ k) ∧ Aside0 (wc.heap[gb458]? = some (.cells #[.int .i64 a2_0, .int .i64 a2_1] 23 (0, 0))) ∧ Aside0 (Below w.heap.size w wc))
 case first =>
  have H := HC4.out
  clear HC4
  by_cases c6 : a0 < 0
  ·rw [if_pos c6] at H
   have c6b0 : decide (a0 < 0) = true := decide_eq_true c6
   clear c6
   (first | rw [c6b0] | (simp only [i64_w, i32_w]; rw [c6b0]) | skip)
   have H' := am_ H
   clear H
   go_wp2
   go_meet
   case rel => exact ⟨_, (true), qs_, H', ⟨qo_⟩, ⟨qk_ BK458⟩, ⟨qb_⟩⟩
  ·rw [if_neg c6] at H
   have c6b0 : decide (a0 < 0) = false := decide_eq_false c6
   clear c6
   (first | rw [c6b0] | (simp only [i64_w, i32_w]; rw [c6b0]) | skip)
   by_cases c7 : a0 > 1000000
   ·rw [if_pos c7] at H
    have c7b0 : decide (1000000 < a0) = true := decide_eq_true c7
    clear c7
    have H' := am_ H
    clear H
    go_wp2
    go_meet
    case rel => exact ⟨_, (true), qs_, H', ⟨qo_⟩, ⟨qk_ BK458⟩, ⟨qb_⟩⟩
   ·rw [if_neg c7] at H
    have c7b0 : decide (1000000 < a0) = false := decide_eq_false c7
    clear c7
    by_cases c8 : a1 < 0
    ·rw [if_pos c8] at H
     have c8b0 : decide (a1 < 0) = true := decide_eq_true c8
     clear c8
     have H' := am_ H
     clear H
     go_wp2
     go_meet
     case rel => exact ⟨_, (true), qs_, H', ⟨qo_⟩, ⟨qk_ BK458⟩, ⟨qb_⟩⟩
    ·rw [if_neg c8] at H
     have c8b0 : decide (a1 < 0) = false := decide_eq_false c8
     clear c8
     by_cases c9 : a1 > 1000000
     ·rw [if_pos c9] at H
      have c9b0 : decide (1000000 < a1) = true := decide_eq_true c9
      clear c9
      have H' := am_ H
      clear H
      go_wp2
      go_meet
      case rel => exact ⟨_, (true), qs_, H', ⟨qo_⟩, ⟨qk_ BK458⟩, ⟨qb_⟩⟩
     ·rw [if_neg c9] at H
      have c9b0 : decide (1000000 < a1) = false := decide_eq_false c9
      clear c9
      replace H := bm_ H
      obtain ⟨t459, A100, H⟩ := H
      replace H : (RfPassed.j0 k a0 a1 (!t459) a2_0 a2_1) = some (r1, r2) := H
      have A10 := am_ A100
      clear A100
      have H' := am_ H
      clear H
      obtain ⟨z'11_0, z'11_1⟩ := qz2_ BK458; obtain ⟨y'11_0, y'11_1⟩ := qf2_ BK458
      go_wp2_with (first | (go_at_call 53; (with_reducible refine (Rfpart.calls k a2_0 a2_1 t459 _ A10.out).mono ?_); rintro e w12 ⟨rfl, hb⟩; replace BK458 := qkb_ BK458 hb; replace HB := qbs_ hb; (try clear hb); (try clear hb2); (try clear hk); (try clear hi)))
      go_meet
      case rel => exact ⟨_, (!t459), qs_, H', ⟨qo_⟩, ⟨qk_ BK458⟩, ⟨qb_⟩⟩
 case rest =>
  clear HC4
  try clear c2
  try clear p2
  try clear c6
  try clear c6b0
  try clear c7
  try clear c7b0
  try clear c8
  try clear c8b0
  try clear c9
  try clear c9b0
  try clear z'11_0 z'11_1
  try clear y'11_0 y'11_1
  obtain ⟨kq, x26_3, rfl, HA, HJ3, BK458, HB⟩ := hcut
  cases kq with
  | zero => exact absurd HA.out (by simp [RfPassed.j0])
  | succ kj3 =>
   have H := HA.out
   clear HA
   simp only [RfPassed.j0] at H
   by_cases c13 : x26_3 = true
   ·subst c13
    have H1 : (some (false, 1)) = some (r1, r2) := by rw [if_pos rfl] at H; exact H
    clear H
    have H := H1
    clear H1
    simp only [Option.some.injEq, Prod.mk.injEq] at H
    obtain ⟨rfl, rfl⟩ := H
    go_wp2
    go_ret2
    exact ⟨qx_, qb_⟩
   ·replace c13 := be_ c13
    subst c13
    have H1 : (some (decide ((wrap64 (a0 * a2_1)) > (wrap64 (a2_0 * (wrap64 (a0 + a1))))), 0)) = some (r1, r2) := by rw [if_neg (show ¬ (false = true) by decide)] at H; exact H
    clear H
    have H := H1
    clear H1
    simp only [Option.some.injEq, Prod.mk.injEq] at H
    obtain ⟨rfl, rfl⟩ := H
    obtain ⟨z'14_0, z'14_1⟩ := qz2_ BK458; obtain ⟨y'14_0, y'14_1⟩ := qf2_ BK458
    go_wp2
    go_ret2
    exact ⟨qx_, qb_⟩
end Go.Proofs.Ytemnlgefngjliaa.Px
