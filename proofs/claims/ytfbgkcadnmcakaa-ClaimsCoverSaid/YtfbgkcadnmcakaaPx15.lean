/- Contracts of Go functions, printed. Conditions: as each theorem states. -/
import Derived.Test.YtfbgkcadnmcakaaPx0
import Derived.Test.YtfbgkcadnmcakaaPx1
namespace Go.Proofs.Ytfbgkcadnmcakaa.Px
open Go.Proofs.Ytfbgkcadnmcakaa.Given
open Go.RowKit Go.Proofs.YtfbgkcadnmcakaaW.PrintWords Go.Proofs.YtfbgkcadnmcakaaW.PrintLast Go.Proofs.YtfbgkcadnmcakaaW.PrintMore
attribute [local go_sem] a2w a2u a3d a3c a2q a2r a2x a2y
set_option linter.unusedVariables false
set_option linter.unusedSimpArgs false
attribute [local go_sem high] b3u
def a0t.l0 : Nat → List (S30) → List (S30) → Int → Option (Bool)
 | 0, _, _, _ => none
 | k + 1, x0, x1, x5 => if x5 < (x0.length : Int) then (if 0 ≤ x5 then (if x5 < (x1.length : Int) then (if (!(((a0a x0 x5).f0) == ((a0a x1 x5).f0)) || (!(((a0a x0 x5).f1) == ((a0a x1 x5).f1)) || (!(((a0a x0 x5).f2) == ((a0a x1 x5).f2)) || (!(((a0a x0 x5).f3) == ((a0a x1 x5).f3)) || ((!(((a0a x0 x5).f4.f0) == ((a0a x1 x5).f4.f0)) || (!(((a0a x0 x5).f4.f1) == ((a0a x1 x5).f4.f1))))))))) = true then (some false) else (a0t.l0 k x0 x1 (wrap64 (x5 + 1)))) else (none)) else (none)) else (some true)
def a0t.f (k : Nat) (l0 l1 : List (S30)) : Option (Bool) := if (l0.length : Int) = (l1.length : Int) then (a0t.l0 k l0 l1 0) else (some false)
theorem a0t.a1k : ∀ k, (∀ y0 y1 y2, LeO (a0t.l0 k y0 y1 y2) (a0t.l0 (k + 1) y0 y1 y2))
 | 0 => fun _ _ _ r h => by simp [a0t.l0] at h
 | k + 1 => by
  have ih0 := a0t.a1k k
  ·intro y0 y1 y2
   unfold a0t.l0
   with_reducible (repeat' first | apply ih0 | apply LeO.refl | apply LeO.none | apply LeO.ite | refine LeO.bind ?_ (fun _ => ?_))
theorem a0t.mono : ∀ a0 a1 k, LeO (a0t.f k a0 a1) (a0t.f (k + 1) a0 a1) := by
 intro a0 a1 k
 have ih0 := a0t.a1k k
 unfold a0t.f
 with_reducible (repeat' first | apply ih0 | apply LeO.refl | apply LeO.none | apply LeO.ite | refine LeO.bind ?_ (fun _ => ?_))
set_option maxHeartbeats 8000000 in
set_option maxRecDepth 100000 in
theorem a0t.calls (k : Nat) (A0 : Option Addr) (c0 : Nat) (l0 : List (S30)) (A1 : Option Addr) (c1 : Nat) (l1 : List (S30)) (r : Bool) (w : World) (hr0 : Kd.C k30 w A0 l0.length l0) (hc0 : l0.length ≤ c0) (hr1 : Kd.C k30 w A1 l1.length l1) (hc1 : l1.length ≤ c1) (h : a0t.f k l0 l1 = some r) :
  Calls Try.prog 13 #[.slice A0 l0.length c0, .slice A1 l1.length c1] w fun e w' => e = .returned (.bool r) ∧ a3j w w' := by
 have hu30 := Try.underlying30
 have HR0 := am_ hr0
 have HC0 := am_ hc0
 clear hr0 hc0
 have HR1 := am_ hr1
 have HC1 := am_ hc1
 clear hr1 hc1
 have H : (if (l0.length : Int) = (l1.length : Int) then (a0t.l0 k l0 l1 0) else (some false)) = some r := h
 clear h
 by_cases c3 : (l0.length : Int) = (l1.length : Int)
 ·rw [if_pos c3] at H
  have c3b0 : ((l0.length : Int) == (l1.length : Int)) = true := beq_iff_eq.mpr c3
  have c3b1 : ((l0.length : Int) != (l1.length : Int)) = false := bne_eq_false_iff_eq.mpr c3
  have c3b2 : (l0.length == l1.length) = true := by first | simpa using c3 | (simp at c3 ⊢; omega)
  clear c3
  have H' := am_ H
  clear H
  go_enter Try.func13, Try.ntmps13
  go_wp2
  repeat (go_quiet (fail); try go_wp2)
  go_loopg [5] k (fun kq v5 w' => ∃ (x5_1 : Int), v5 = .int .i64 x5_1 ∧ Aside0 (a0t.l0 kq l0 l1 x5_1 = some r) ∧ Aside0 (kq ≤ k) ∧ a3j w w')
  case atStart => exact ⟨(0), qs_, H', ⟨Nat.le_refl _⟩, qy_⟩
  case round =>
   clear H'
   try clear c1
   try clear p2
   try clear c3
   try clear c3b0
   try clear c3b1
   try clear c3b2
   obtain ⟨x5_1, rfl, HA, HK1, ⟨m1, rfl⟩⟩ := hrel
   cases gk with
   | zero => exact absurd HA.out (by simp [a0t.l0])
   | succ k1 =>
    have H := HA.out
    clear HA
    simp only [a0t.l0] at H
    by_cases c4 : x5_1 < (l0.length : Int)
    ·rw [if_pos c4] at H
     have c4b0 : decide (x5_1 < (l0.length : Int)) = true := decide_eq_true c4
     clear c4
     by_cases c5 : 0 ≤ x5_1
     ·rw [if_pos c5] at H
      have c5b0 : decide (0 ≤ x5_1) = true := decide_eq_true c5
      clear c5
      by_cases c6 : x5_1 < (l1.length : Int)
      ·rw [if_pos c6] at H
       have c6b0 : decide (x5_1 < (l1.length : Int)) = true := decide_eq_true c6
       clear c6
       by_cases c7 : (!(((a0a l0 x5_1).f0) == ((a0a l1 x5_1).f0)) || (!(((a0a l0 x5_1).f1) == ((a0a l1 x5_1).f1)) || (!(((a0a l0 x5_1).f2) == ((a0a l1 x5_1).f2)) || (!(((a0a l0 x5_1).f3) == ((a0a l1 x5_1).f3)) || ((!(((a0a l0 x5_1).f4.f0) == ((a0a l1 x5_1).f4.f0)) || (!(((a0a l0 x5_1).f4.f1) == ((a0a l1 x5_1).f4.f1))))))))) = true
       ·rw [if_pos c7] at H
        have c7b0 : (!(((a0a l0 x5_1).f0) == ((a0a l1 x5_1).f0)) || (!(((a0a l0 x5_1).f1) == ((a0a l1 x5_1).f1)) || (!(((a0a l0 x5_1).f2) == ((a0a l1 x5_1).f2)) || (!(((a0a l0 x5_1).f3) == ((a0a l1 x5_1).f3)) || ((!(((a0a l0 x5_1).f4.f0) == ((a0a l1 x5_1).f4.f0)) || (!(((a0a l0 x5_1).f4.f1) == ((a0a l1 x5_1).f4.f1))))))))) = true := c7
        clear c7
        obtain rfl := si_ H
        have p245 : 0 ≤ (x5_1 : Int) := ot_
        have q245 : x5_1 < (l0.length : Int) := ot_
        obtain ⟨ad245, e245, hx245_0, hx245_1, hx245_2, hx245_3, hx245_4, hx245_5⟩ := a3q HR0.out x5_1 p245 q245
        cases e245
        replace p245 := eq_true p245
        replace q245 := eq_true q245
        have p246 : 0 ≤ (x5_1 : Int) := ot_
        have q246 : x5_1 < (l1.length : Int) := ot_
        obtain ⟨ad246, e246, hx246_0, hx246_1, hx246_2, hx246_3, hx246_4, hx246_5⟩ := a3q HR1.out x5_1 p246 q246
        cases e246
        replace p246 := eq_true p246
        replace q246 := eq_true q246
        go_wp2
        repeat (go_quiet (fail); try go_wp2)
        go_ret
        exact ⟨qs_, qy_⟩
       ·rw [if_neg c7] at H
        have c7b0 : (!(((a0a l0 x5_1).f0) == ((a0a l1 x5_1).f0)) || (!(((a0a l0 x5_1).f1) == ((a0a l1 x5_1).f1)) || (!(((a0a l0 x5_1).f2) == ((a0a l1 x5_1).f2)) || (!(((a0a l0 x5_1).f3) == ((a0a l1 x5_1).f3)) || ((!(((a0a l0 x5_1).f4.f0) == ((a0a l1 x5_1).f4.f0)) || (!(((a0a l0 x5_1).f4.f1) == ((a0a l1 x5_1).f4.f1))))))))) = false := by simpa using c7
        clear c7
        have H' := am_ H
        clear H
        have p245 : 0 ≤ (x5_1 : Int) := ot_
        have q245 : x5_1 < (l0.length : Int) := ot_
        obtain ⟨ad245, e245, hx245_0, hx245_1, hx245_2, hx245_3, hx245_4, hx245_5⟩ := a3q HR0.out x5_1 p245 q245
        cases e245
        replace p245 := eq_true p245
        replace q245 := eq_true q245
        have p246 : 0 ≤ (x5_1 : Int) := ot_
        have q246 : x5_1 < (l1.length : Int) := ot_
        obtain ⟨ad246, e246, hx246_0, hx246_1, hx246_2, hx246_3, hx246_4, hx246_5⟩ := a3q HR1.out x5_1 p246 q246
        cases e246
        replace p246 := eq_true p246
        replace q246 := eq_true q246
        go_wp2
        repeat (go_quiet (fail); try go_wp2)
        go_roundg k1
        case measure => have := HK1.out; omega
        case rel => exact ⟨(wrap64 (x5_1 + 1)), qs_, H', ⟨by have := HK1.out; omega⟩, qy_⟩
      ·rw [if_neg c6] at H
       exact absurd H (by simp)
     ·rw [if_neg c5] at H
      exact absurd H (by simp)
    ·rw [if_neg c4] at H
     have c4b0 : decide (x5_1 < (l0.length : Int)) = false := decide_eq_false c4
     clear c4
     obtain rfl := si_ H
     go_wp2
     repeat (go_quiet (fail); try go_wp2)
     go_ret
     exact ⟨qs_, qy_⟩
 ·rw [if_neg c3] at H
  have c3b0 : ((l0.length : Int) == (l1.length : Int)) = false := beq_eq_false_iff_ne.mpr c3
  have c3b1 : ((l0.length : Int) != (l1.length : Int)) = true := bne_iff_ne.mpr c3
  have c3b2 : (l0.length == l1.length) = false := by first | simpa using c3 | (simp at c3 ⊢; omega)
  obtain rfl := si_ H
  go_enter Try.func13, Try.ntmps13
  go_wp2
  repeat (go_quiet (fail); try go_wp2)
  go_ret
  exact ⟨qs_, qy_⟩
end Go.Proofs.Ytfbgkcadnmcakaa.Px
