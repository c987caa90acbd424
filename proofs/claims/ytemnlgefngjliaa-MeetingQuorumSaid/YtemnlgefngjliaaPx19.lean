/- Contracts of Go functions, printed. Conditions: as each theorem states. -/
import Derived.Test.YtemnlgefngjliaaPx0
namespace Go.Proofs.Ytemnlgefngjliaa.Px
open Go.Proofs.Ytemnlgefngjliaa.Given
open Go.RowKit Go.Proofs.YtemnlgefngjliaaW.PrintWords Go.Proofs.YtemnlgefngjliaaW.PrintLast Go.Proofs.YtemnlgefngjliaaW.PrintMore
attribute [local go_sem] a2f a2g a2r a2s a1x a1y a2h a2i
set_option linter.unusedVariables false
set_option linter.unusedSimpArgs false
def a1r.l0 : Nat → List (S43) → Int → Int → Option (Int)
 | 0, _, _, _ => none
 | k + 1, x0, x1, x5 => if x5 < (x0.length : Int) then (if 0 ≤ x5 then (if ((a0a x0 x5).f0) = x1 then (some x5) else (a1r.l0 k x0 x1 (wrap64 (x5 + 1)))) else (none)) else (some (-1))
def a1r.f (k : Nat) (l0 : List (S43)) (a1 : Int) : Option (Int) := a1r.l0 k l0 a1 0
theorem a1r.a0t : ∀ k, (∀ y0 y1 y2, LeO (a1r.l0 k y0 y1 y2) (a1r.l0 (k + 1) y0 y1 y2))
 | 0 => fun _ _ _ r h => by simp [a1r.l0] at h
 | k + 1 => by
  have ih0 := a1r.a0t k
  ·intro y0 y1 y2
   unfold a1r.l0
   with_reducible (repeat' first | apply ih0 | apply LeO.refl | apply LeO.none | apply LeO.ite | refine LeO.bind ?_ (fun _ => ?_))
theorem a1r.mono : ∀ a0 a1 k, LeO (a1r.f k a0 a1) (a1r.f (k + 1) a0 a1) := by
 intro a0 a1 k
 have ih0 := a1r.a0t k
 unfold a1r.f
 with_reducible (repeat' first | apply ih0 | apply LeO.refl | apply LeO.none | apply LeO.ite | refine LeO.bind ?_ (fun _ => ?_))
set_option maxHeartbeats 8000000 in
set_option maxRecDepth 100000 in
theorem a1r.calls (k : Nat) (A0 : Option Addr) (c0 : Nat) (l0 : List (S43)) (a1 r : Int) (w : World) (hr0 : Kd.C k43 w A0 l0.length l0) (hc0 : l0.length ≤ c0) (h : a1r.f k l0 a1 = some r) :
  Calls Try.prog 36 #[.slice A0 l0.length c0, .int .i64 a1] w fun e w' => e = .returned (.int .i64 r) ∧ a1j w w' := by
 have HR0 := am_ hr0
 have HC0 := am_ hc0
 clear hr0 hc0
 have H : (a1r.l0 k l0 a1 0) = some r := h
 clear h
 have H' := am_ H
 clear H
 go_enter Try.func36, Try.ntmps36
 go_wp2
 go_loopg [5] k (fun kq v5 w' => ∃ (x5_1 : Int), v5 = .int .i64 x5_1 ∧ Aside0 (a1r.l0 kq l0 a1 x5_1 = some r) ∧ Aside0 (kq ≤ k) ∧ a1j w w')
 case atStart => exact ⟨(0), qs_, H', ⟨Nat.le_refl _⟩, qy_⟩
 case round =>
  clear H'
  try clear p2
  obtain ⟨x5_1, rfl, HA, HK1, ⟨m1, rfl⟩⟩ := hrel
  cases gk with
  | zero => exact absurd HA.out (by simp [a1r.l0])
  | succ k1 =>
   have H := HA.out
   clear HA
   simp only [a1r.l0] at H
   by_cases c3 : x5_1 < (l0.length : Int)
   ·rw [if_pos c3] at H
    have c3b0 : decide (x5_1 < (l0.length : Int)) = true := decide_eq_true c3
    clear c3
    by_cases c4 : 0 ≤ x5_1
    ·rw [if_pos c4] at H
     have c4b0 : decide (0 ≤ x5_1) = true := decide_eq_true c4
     clear c4
     by_cases c5 : ((a0a l0 x5_1).f0) = a1
     ·rw [if_pos c5] at H
      have c5b0 : (((a0a l0 x5_1).f0) == a1) = true := beq_iff_eq.mpr c5
      have c5b1 : (((a0a l0 x5_1).f0) != a1) = false := bne_eq_false_iff_eq.mpr c5
      clear c5
      obtain rfl := si_ H
      have p370 : 0 ≤ (x5_1 : Int) := ot_
      have q370 : x5_1 < (l0.length : Int) := ot_
      obtain ⟨ad370, e370, hx370_0, hx370_1, hx370_2⟩ := a2p HR0.out x5_1 p370 q370
      cases e370
      replace p370 := eq_true p370
      replace q370 := eq_true q370
      go_wp2
      go_ret
      exact ⟨qs_, qy_⟩
     ·rw [if_neg c5] at H
      have c5b0 : (((a0a l0 x5_1).f0) == a1) = false := beq_eq_false_iff_ne.mpr c5
      have c5b1 : (((a0a l0 x5_1).f0) != a1) = true := bne_iff_ne.mpr c5
      have H' := am_ H
      clear H
      have p370 : 0 ≤ (x5_1 : Int) := ot_
      have q370 : x5_1 < (l0.length : Int) := ot_
      obtain ⟨ad370, e370, hx370_0, hx370_1, hx370_2⟩ := a2p HR0.out x5_1 p370 q370
      cases e370
      replace p370 := eq_true p370
      replace q370 := eq_true q370
      go_wp2
      go_roundg k1
      case measure => have := HK1.out; omega
      case rel => exact ⟨(wrap64 (x5_1 + 1)), qs_, H', ⟨by have := HK1.out; omega⟩, qy_⟩
    ·rw [if_neg c4] at H
     exact absurd H (by simp)
   ·rw [if_neg c3] at H
    have c3b0 : decide (x5_1 < (l0.length : Int)) = false := decide_eq_false c3
    clear c3
    obtain rfl := si_ H
    go_wp2
    go_ret
    exact ⟨qs_, qy_⟩
end Go.Proofs.Ytemnlgefngjliaa.Px
