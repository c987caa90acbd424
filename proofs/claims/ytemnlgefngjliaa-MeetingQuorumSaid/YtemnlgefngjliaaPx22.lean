/- Contracts of Go functions, printed. Conditions: as each theorem states. -/
import Derived.Test.YtemnlgefngjliaaPx0
namespace Go.Proofs.Ytemnlgefngjliaa.Px
open Go.Proofs.Ytemnlgefngjliaa.Given
open Go.RowKit Go.Proofs.YtemnlgefngjliaaW.PrintWords Go.Proofs.YtemnlgefngjliaaW.PrintLast Go.Proofs.YtemnlgefngjliaaW.PrintMore
attribute [local go_sem] a2f a2g a2r a2s a1x a1y a2h a2i
set_option linter.unusedVariables false
set_option linter.unusedSimpArgs false
def a2x.l0 : Nat → Int → Int → Int → Int → Int → List ByteArray → List (S43) → List Int → Option (Bool)
 | 0, _, _, _, _, _, _, _, _ => none
 | k + 1, x1, x5, u0, u1, u2, u3, u4, u5 => if x5 < (u5.length : Int) then (if 0 ≤ x5 then (if (rd u5 x5) = x1 then (some true) else (a2x.l0 k x1 (wrap64 (x5 + 1)) u0 u1 u2 u3 u4 u5)) else (none)) else (some false)
def a2x.f (k : Nat) (a0_0 a0_1 a0_2 : Int) (l0_3 : List ByteArray) (l0_4 : List (S43)) (l0_5 : List Int) (a1 : Int) : Option (Bool) := a2x.l0 k a1 0 a0_0 a0_1 a0_2 l0_3 l0_4 l0_5
theorem a2x.a0t : ∀ k, (∀ y0 y1 y2 y3 y4 y5 y6 y7, LeO (a2x.l0 k y0 y1 y2 y3 y4 y5 y6 y7) (a2x.l0 (k + 1) y0 y1 y2 y3 y4 y5 y6 y7))
 | 0 => fun _ _ _ _ _ _ _ _ r h => by simp [a2x.l0] at h
 | k + 1 => by
  have ih0 := a2x.a0t k
  ·intro y0 y1 y2 y3 y4 y5 y6 y7
   unfold a2x.l0
   with_reducible (repeat' first | apply ih0 | apply LeO.refl | apply LeO.none | apply LeO.ite | refine LeO.bind ?_ (fun _ => ?_))
theorem a2x.mono : ∀ a0 a1 a2 a3 a4 a5 a6 k, LeO (a2x.f k a0 a1 a2 a3 a4 a5 a6) (a2x.f (k + 1) a0 a1 a2 a3 a4 a5 a6) := by
 intro a0 a1 a2 a3 a4 a5 a6 k
 have ih0 := a2x.a0t k
 unfold a2x.f
 with_reducible (repeat' first | apply ih0 | apply LeO.refl | apply LeO.none | apply LeO.ite | refine LeO.bind ?_ (fun _ => ?_))
set_option maxHeartbeats 8000000 in
set_option maxRecDepth 100000 in
theorem a2x.calls (k : Nat) (a0_0 a0_1 a0_2 : Int) (A0_3 : Option Addr) (c0_3 : Nat) (l0_3 : List ByteArray) (A0_4 : Option Addr) (c0_4 : Nat) (l0_4 : List (S43)) (A0_5 : Option Addr) (c0_5 : Nat) (l0_5 : List Int) (a1 : Int) (r : Bool) (w : World) (hr0_3 : Kd.C Kd.string w A0_3 l0_3.length l0_3) (hc0_3 : l0_3.length ≤ c0_3) (hr0_4 : Kd.C k43 w A0_4 l0_4.length l0_4) (hc0_4 : l0_4.length ≤ c0_4) (hr0_5 : Kd.C (Kd.int .i64) w A0_5 l0_5.length l0_5) (hc0_5 : l0_5.length ≤ c0_5) (h : a2x.f k a0_0 a0_1 a0_2 l0_3 l0_4 l0_5 a1 = some r) :
  Calls Try.prog 23 #[.agg #[.int .i64 a0_0, .int .i64 a0_1, .int .i64 a0_2, .slice A0_3 l0_3.length c0_3, .slice A0_4 l0_4.length c0_4, .slice A0_5 l0_5.length c0_5], .int .i64 a1] w fun e w' => e = .returned (.bool r) ∧ Below w.heap.size w w' := by
 have hu30 := Try.underlying30
 have HR0_3 := am_ hr0_3
 have HC0_3 := am_ hc0_3
 clear hr0_3 hc0_3
 have HR0_4 := am_ hr0_4
 have HC0_4 := am_ hc0_4
 clear hr0_4 hc0_4
 have HR0_5 := am_ hr0_5
 have HC0_5 := am_ hc0_5
 clear hr0_5 hc0_5
 have HB := am_ (Below.refl w.heap.size w)
 have H : (a2x.l0 k a1 0 a0_0 a0_1 a0_2 l0_3 l0_4 l0_5) = some r := h
 clear h
 have H' := am_ H
 clear H
 go_enter Try.func23, Try.ntmps23
 go_wp2_with (first | ((with_reducible refine a0f (N := 2) rfl ?_); refine qev_ 2 #[.int .i64 a0_0, .int .i64 a0_1, .int .i64 a0_2, .slice A0_3 l0_3.length c0_3, .slice A0_4 l0_4.length c0_4, .slice A0_5 l0_5.length c0_5] 30 ?_; intro gb390 hg w3 hbox hb; have BK390 := am_ (hbox); have GW390 := qga_ hg; have GE390 := qga_ hg; replace HB := qbs_ hb; clear hb hbox hg))
 go_loopg [5] k (fun kq v5 w' => ∃ (x5_1 : Int), v5 = .int .i64 x5_1 ∧ Aside0 (a2x.l0 kq a1 x5_1 a0_0 a0_1 a0_2 l0_3 l0_4 l0_5 = some r) ∧ Aside0 (kq ≤ k) ∧ Aside0 (w'.heap[gb390]? = some (.cells #[.int .i64 a0_0, .int .i64 a0_1, .int .i64 a0_2, (.slice A0_3 l0_3.length c0_3), (.slice A0_4 l0_4.length c0_4), (.slice A0_5 l0_5.length c0_5)] 30 (0, 0))) ∧ Aside0 (Below w.heap.size w w'))
 case atStart => exact ⟨(0), qs_, H', ⟨Nat.le_refl _⟩, ⟨qk_ BK390⟩, ⟨qb_⟩⟩
 case round =>
  clear H'
  try clear c2
  try clear p2
  obtain ⟨x5_1, rfl, HA, HK1, BK390, HB⟩ := hrel
  cases gk with
  | zero => exact absurd HA.out (by simp [a2x.l0])
  | succ k1 =>
   have H := HA.out
   clear HA
   simp only [a2x.l0] at H
   by_cases c4 : x5_1 < (l0_5.length : Int)
   ·rw [if_pos c4] at H
    have c4b0 : decide (x5_1 < (l0_5.length : Int)) = true := decide_eq_true c4
    clear c4
    by_cases c5 : 0 ≤ x5_1
    ·rw [if_pos c5] at H
     have c5b0 : decide (0 ≤ x5_1) = true := decide_eq_true c5
     clear c5
     by_cases c6 : (rd l0_5 x5_1) = a1
     ·rw [if_pos c6] at H
      have c6b0 : ((rd l0_5 x5_1) == a1) = true := beq_iff_eq.mpr c6
      have c6b1 : ((rd l0_5 x5_1) != a1) = false := bne_eq_false_iff_eq.mpr c6
      clear c6
      obtain rfl := si_ H
      obtain ⟨z'7_0, z'7_1, z'7_2, z'7_3, z'7_4, z'7_5⟩ := qz6_ BK390; obtain ⟨y'7_0, y'7_1, y'7_2, y'7_3, y'7_4, y'7_5⟩ := qf6_ BK390
      have p391 : 0 ≤ (x5_1 : Int) := ot_
      have q391 : x5_1 < (l0_5.length : Int) := ot_
      obtain ⟨ad391, e391, hx391_0⟩ := Kd.a2o HR0_5.out x5_1 p391 q391
      cases e391
      replace hx391_0 := qh_ HB hx391_0
      replace p391 := eq_true p391
      replace q391 := eq_true q391
      go_wp2
      go_ret
      exact ⟨qx_, qb_⟩
     ·rw [if_neg c6] at H
      have c6b0 : ((rd l0_5 x5_1) == a1) = false := beq_eq_false_iff_ne.mpr c6
      have c6b1 : ((rd l0_5 x5_1) != a1) = true := bne_iff_ne.mpr c6
      have H' := am_ H
      clear H
      obtain ⟨z'8_0, z'8_1, z'8_2, z'8_3, z'8_4, z'8_5⟩ := qz6_ BK390; obtain ⟨y'8_0, y'8_1, y'8_2, y'8_3, y'8_4, y'8_5⟩ := qf6_ BK390
      have p391 : 0 ≤ (x5_1 : Int) := ot_
      have q391 : x5_1 < (l0_5.length : Int) := ot_
      obtain ⟨ad391, e391, hx391_0⟩ := Kd.a2o HR0_5.out x5_1 p391 q391
      cases e391
      replace hx391_0 := qh_ HB hx391_0
      replace p391 := eq_true p391
      replace q391 := eq_true q391
      go_wp2
      go_roundg k1
      case measure => have := HK1.out; omega
      case rel => exact ⟨(wrap64 (x5_1 + 1)), qs_, H', ⟨by have := HK1.out; omega⟩, ⟨qk_ BK390⟩, ⟨qb_⟩⟩
    ·rw [if_neg c5] at H
     exact absurd H (by simp)
   ·rw [if_neg c4] at H
    have c4b0 : decide (x5_1 < (l0_5.length : Int)) = false := decide_eq_false c4
    clear c4
    obtain rfl := si_ H
    obtain ⟨z'9_0, z'9_1, z'9_2, z'9_3, z'9_4, z'9_5⟩ := qz6_ BK390; obtain ⟨y'9_0, y'9_1, y'9_2, y'9_3, y'9_4, y'9_5⟩ := qf6_ BK390
    go_wp2
    go_ret
    exact ⟨qx_, qb_⟩
def a4t.f (k : Nat) (a0_0 a0_1 a0_2 : Int) (l0_3 : List ByteArray) (l0_4 : List (S43)) (l0_5 : List Int) (a1_0 a1_1 a1_2 : Int) : Option (Int) := (a2x.f k a0_0 a0_1 a0_2 l0_3 l0_4 l0_5 a1_0).bind fun t394 => (if t394 = true then (some a1_0) else (if a1_2 = 0 then (some 0) else ((a2x.f k a0_0 a0_1 a0_2 l0_3 l0_4 l0_5 a1_2).bind fun t395 => (if t395 = true then (some a1_2) else (some 0)))))
theorem a4t.mono : ∀ a0 a1 a2 a3 a4 a5 a6 a7 a8 k, LeO (a4t.f k a0 a1 a2 a3 a4 a5 a6 a7 a8) (a4t.f (k + 1) a0 a1 a2 a3 a4 a5 a6 a7 a8) := by
 intro a0 a1 a2 a3 a4 a5 a6 a7 a8 k
 unfold a4t.f
 with_reducible (repeat' first | apply a2x.mono | apply LeO.refl | apply LeO.none | apply LeO.ite | refine LeO.bind ?_ (fun _ => ?_))
def b8q.f (a0_0 a0_1 a0_2 a0_3 : Int) (a0_4 : Bool) (a1_0 a1_1 a1_2 : Int) : Option (Int) := if a0_4 = true then (some 1) else (some a1_1)
end Go.Proofs.Ytemnlgefngjliaa.Px
