/- Contracts of Go functions, printed. Conditions: as each theorem states. -/
import Derived.Test.YtemnlgefngjliaaPx0
namespace Go.Proofs.Ytemnlgefngjliaa.Px
open Go.Proofs.Ytemnlgefngjliaa.Given
open Go.RowKit Go.Proofs.YtemnlgefngjliaaW.PrintWords Go.Proofs.YtemnlgefngjliaaW.PrintLast Go.Proofs.YtemnlgefngjliaaW.PrintMore
attribute [local go_sem] a2h a2i a2t a2u a1x a1y a2j a2k
set_option linter.unusedVariables false
set_option linter.unusedSimpArgs false
def a2b.l0 : Nat → Int → Int → Int → Int → Int → List ByteArray → List (S43) → List Int → Option (Bool)
 | 0, _, _, _, _, _, _, _, _ => none
 | k + 1, x1, x5, u0, u1, u2, u3, u4, u5 => if x5 < (u5.length : Int) then (if 0 ≤ x5 then (if (rd u5 x5) = x1 then (some true) else (a2b.l0 k x1 (wrap64 (x5 + 1)) u0 u1 u2 u3 u4 u5)) else (none)) else (some false)
def a2b.f (k : Nat) (a0_0 a0_1 a0_2 : Int) (l0_3 : List ByteArray) (l0_4 : List (S43)) (l0_5 : List Int) (a1 : Int) : Option (Bool) := a2b.l0 k a1 0 a0_0 a0_1 a0_2 l0_3 l0_4 l0_5
theorem a2b.a0v : ∀ k, (∀ y0 y1 y2 y3 y4 y5 y6 y7, LeO (a2b.l0 k y0 y1 y2 y3 y4 y5 y6 y7) (a2b.l0 (k + 1) y0 y1 y2 y3 y4 y5 y6 y7))
 | 0 => fun _ _ _ _ _ _ _ _ r h => by simp [a2b.l0] at h
 | k + 1 => by
  have ih0 := a2b.a0v k
  ·intro y0 y1 y2 y3 y4 y5 y6 y7
   unfold a2b.l0
   with_reducible (repeat' first | apply ih0 | apply LeO.refl | apply LeO.none | apply LeO.ite | refine LeO.bind ?_ (fun _ => ?_))
theorem a2b.mono : ∀ a0 a1 a2 a3 a4 a5 a6 k, LeO (a2b.f k a0 a1 a2 a3 a4 a5 a6) (a2b.f (k + 1) a0 a1 a2 a3 a4 a5 a6) := by
 intro a0 a1 a2 a3 a4 a5 a6 k
 have ih0 := a2b.a0v k
 unfold a2b.f
 with_reducible (repeat' first | apply ih0 | apply LeO.refl | apply LeO.none | apply LeO.ite | refine LeO.bind ?_ (fun _ => ?_))
set_option maxHeartbeats 8000000 in
set_option maxRecDepth 100000 in
theorem a2b.calls (k : Nat) (a0_0 a0_1 a0_2 : Int) (A0_3 : Option Addr) (c0_3 : Nat) (l0_3 : List ByteArray) (A0_4 : Option Addr) (c0_4 : Nat) (l0_4 : List (S43)) (A0_5 : Option Addr) (c0_5 : Nat) (l0_5 : List Int) (a1 : Int) (r : Bool) (w : World) (hr0_3 : Kd.C Kd.string w A0_3 l0_3.length l0_3) (hc0_3 : l0_3.length ≤ c0_3) (hr0_4 : Kd.C k43 w A0_4 l0_4.length l0_4) (hc0_4 : l0_4.length ≤ c0_4) (hr0_5 : Kd.C (Kd.int .i64) w A0_5 l0_5.length l0_5) (hc0_5 : l0_5.length ≤ c0_5) (h : a2b.f k a0_0 a0_1 a0_2 l0_3 l0_4 l0_5 a1 = some r) :
  Calls Try.prog 23 #[.agg #[.int .i64 a0_0, .int .i64 a0_1, .int .i64 a0_2, .slice A0_3 l0_3.length c0_3, .slice A0_4 l0_4.length c0_4, .slice A0_5 l0_5.length c0_5], .int .i64 a1] w fun e w' => e = .returned (.bool r) ∧ Below w.heap.size w w' := by
 have hu30 := Try.underlying30
 have HR0_3 := am_ hr0_3
 have HC0_3 := am_ hc0_3
 clear hr0_3 hc0_3
 have HR0_4 := am_ hr0_4
 have HC0_4 := am_ hc0_4
 clear hr0_4 hc0_4
 have HR0_5 := am_ hr0_5
 have HC0_5 := am_ hc0_5
 clear hr0_5 hc0_5
 have HB := am_ (Below.refl w.heap.size w)
 have H : (a2b.l0 k a1 0 a0_0 a0_1 a0_2 l0_3 l0_4 l0_5) = some r := h
 clear h
 have H' := am_ H
 clear H
 go_enter Try.func23, Try.ntmps23
 go_wp2_with (first | ((with_reducible refine a0d (N := 2) rfl ?_); refine qev_ 2 #[.int .i64 a0_0, .int .i64 a0_1, .int .i64 a0_2, .slice A0_3 l0_3.length c0_3, .slice A0_4 l0_4.length c0_4, .slice A0_5 l0_5.length c0_5] 30 ?_; intro gb390 hg w3 hbox hb; have BK390 := am_ (hbox); have GW390 := qga_ hg; have GE390 := qga_ hg; replace HB := qbs_ hb; clear hb hbox hg))
 go_loopg [5] k (fun kq v5 w' => ∃ (x5_1 : Int), v5 = .int .i64 x5_1 ∧ Aside0 (a2b.l0 kq a1 x5_1 a0_0 a0_1 a0_2 l0_3 l0_4 l0_5 = some r) ∧ Aside0 (kq ≤ k) ∧ Aside0 (w'.heap[gb390]? = some (.cells #[.int .i64 a0_0, .int .i64 a0_1, .int .i64 a0_2, (.slice A0_3 l0_3.length c0_3), (.slice A0_4 l0_4.length c0_4), (.slice A0_5 l0_5.length c0_5)] 30 (0, 0))) ∧ Aside0 (Below w.heap.size w w'))
 case atStart => exact ⟨(0), qs_, H', ⟨Nat.le_refl _⟩, ⟨qk_ BK390⟩, ⟨qb_⟩⟩
 case round =>
  clear H'
  try clear c2
  try clear p2
  obtain ⟨x5_1, rfl, HA, HK1, BK390, HB⟩ := hrel
  cases gk with
  | zero => exact absurd HA.out (by simp [a2b.l0])
  | succ k1 =>
   have H := HA.out
   clear HA
   simp only [a2b.l0] at H
   by_cases c4 : x5_1 < (l0_5.length : Int)
   ·rw [if_pos c4] at H
    have c4b0 : decide (x5_1 < (l0_5.length : Int)) = true := decide_eq_true c4
    clear c4
    by_cases c5 : 0 ≤ x5_1
    ·rw [if_pos c5] at H
     have c5b0 : decide (0 ≤ x5_1) = true := decide_eq_true c5
     clear c5
     by_cases c6 : (rd l0_5 x5_1) = a1
     ·rw [if_pos c6] at H
      have c6b0 : ((rd l0_5 x5_1) == a1) = true := beq_iff_eq.mpr c6
      have c6b1 : ((rd l0_5 x5_1) != a1) = false := bne_eq_false_iff_eq.mpr c6
      clear c6
      obtain rfl := si_ H
      obtain ⟨z'7_0, z'7_1, z'7_2, z'7_3, z'7_4, z'7_5⟩ := qz6_ BK390; obtain ⟨y'7_0, y'7_1, y'7_2, y'7_3, y'7_4, y'7_5⟩ := qf6_ BK390
      have p391 : 0 ≤ (x5_1 : Int) := ot_
      have q391 : x5_1 < (l0_5.length : Int) := ot_
      obtain ⟨ad391, e391, hx391_0⟩ := Kd.a1w HR0_5.out x5_1 p391 q391
      cases e391
      replace hx391_0 := qh_ HB hx391_0
      replace p391 := eq_true p391
      replace q391 := eq_true q391
      go_wp2
      go_ret
      exact ⟨qx_, qb_⟩
     ·rw [if_neg c6] at H
      have c6b0 : ((rd l0_5 x5_1) == a1) = false := beq_eq_false_iff_ne.mpr c6
      have c6b1 : ((rd l0_5 x5_1) != a1) = true := bne_iff_ne.mpr c6
      have H' := am_ H
      clear H
      obtain ⟨z'8_0, z'8_1, z'8_2, z'8_3, z'8_4, z'8_5⟩ := qz6_ BK390; obtain ⟨y'8_0, y'8_1, y'8_2, y'8_3, y'8_4, y'8_5⟩ := qf6_ BK390
      have p391 : 0 ≤ (x5_1 : Int) := ot_
      have q391 : x5_1 < (l0_5.length : Int) := ot_
      obtain ⟨ad391, e391, hx391_0⟩ := Kd.a1w HR0_5.out x5_1 p391 q391
      cases e391
      replace hx391_0 := qh_ HB hx391_0
      replace p391 := eq_true p391
      replace q391 := eq_true q391
      go_wp2
      go_roundg k1
      case measure => have := HK1.out; omega
      case rel => exact ⟨(wrap64 (x5_1 + 1)), qs_, H', ⟨by have := HK1.out; omega⟩, ⟨qk_ BK390⟩, ⟨qb_⟩⟩
    ·rw [if_neg c5] at H
     exact absurd H (by simp)
   ·rw [if_neg c4] at H
    have c4b0 : decide (x5_1 < (l0_5.length : Int)) = false := decide_eq_false c4
    clear c4
    obtain rfl := si_ H
    obtain ⟨z'9_0, z'9_1, z'9_2, z'9_3, z'9_4, z'9_5⟩ := qz6_ BK390; obtain ⟨y'9_0, y'9_1, y'9_2, y'9_3, y'9_4, y'9_5⟩ := qf6_ BK390
    go_wp2
    go_ret
    exact ⟨qx_, qb_⟩
def a3t.f (k : Nat) (a0_0 a0_1 a0_2 : Int) (l0_3 : List ByteArray) (l0_4 : List (S43)) (l0_5 : List Int) (a1_0 a1_1 a1_2 : Int) : Option (Int) := (a2b.f k a0_0 a0_1 a0_2 l0_3 l0_4 l0_5 a1_0).bind fun t394 => (if t394 = true then (some a1_0) else (if a1_2 = 0 then (some 0) else ((a2b.f k a0_0 a0_1 a0_2 l0_3 l0_4 l0_5 a1_2).bind fun t395 => (if t395 = true then (some a1_2) else (some 0)))))
theorem a3t.mono : ∀ a0 a1 a2 a3 a4 a5 a6 a7 a8 k, LeO (a3t.f k a0 a1 a2 a3 a4 a5 a6 a7 a8) (a3t.f (k + 1) a0 a1 a2 a3 a4 a5 a6 a7 a8) := by
 intro a0 a1 a2 a3 a4 a5 a6 a7 a8 k
 unfold a3t.f
 with_reducible (repeat' first | apply a2b.mono | apply LeO.refl | apply LeO.none | apply LeO.ite | refine LeO.bind ?_ (fun _ => ?_))
set_option maxHeartbeats 8000000 in
set_option maxRecDepth 100000 in
theorem a3t.calls (k : Nat) (a0_0 a0_1 a0_2 : Int) (A0_3 : Option Addr) (c0_3 : Nat) (l0_3 : List ByteArray) (A0_4 : Option Addr) (c0_4 : Nat) (l0_4 : List (S43)) (A0_5 : Option Addr) (c0_5 : Nat) (l0_5 : List Int) (a1_0 a1_1 a1_2 r : Int) (w : World) (hr0_3 : Kd.C Kd.string w A0_3 l0_3.length l0_3) (hc0_3 : l0_3.length ≤ c0_3) (hr0_4 : Kd.C k43 w A0_4 l0_4.length l0_4) (hc0_4 : l0_4.length ≤ c0_4) (hr0_5 : Kd.C (Kd.int .i64) w A0_5 l0_5.length l0_5) (hc0_5 : l0_5.length ≤ c0_5) (h : a3t.f k a0_0 a0_1 a0_2 l0_3 l0_4 l0_5 a1_0 a1_1 a1_2 = some r) :
  Calls Try.prog 37 #[.agg #[.int .i64 a0_0, .int .i64 a0_1, .int .i64 a0_2, .slice A0_3 l0_3.length c0_3, .slice A0_4 l0_4.length c0_4, .slice A0_5 l0_5.length c0_5], .agg #[.int .i64 a1_0, .int .i64 a1_1, .int .i64 a1_2]] w fun e w' => e = .returned (.int .i64 r) ∧ Below w.heap.size w w' := by
 have hu30 := Try.underlying30
 have hu43 := Try.underlying43
 have HR0_3 := am_ hr0_3
 have HC0_3 := am_ hc0_3
 clear hr0_3 hc0_3
 have HR0_4 := am_ hr0_4
 have HC0_4 := am_ hc0_4
 clear hr0_4 hc0_4
 have HR0_5 := am_ hr0_5
 have HC0_5 := am_ hc0_5
 clear hr0_5 hc0_5
 have HB := am_ (Below.refl w.heap.size w)
 have H : ((a2b.f k a0_0 a0_1 a0_2 l0_3 l0_4 l0_5 a1_0).bind fun t394 => (if t394 = true then (some a1_0) else (if a1_2 = 0 then (some 0) else ((a2b.f k a0_0 a0_1 a0_2 l0_3 l0_4 l0_5 a1_2).bind fun t395 => (if t395 = true then (some a1_2) else (some 0)))))) = some r := h
 clear h
 replace H := bm_ H
 obtain ⟨t394, A30, H⟩ := H
 replace H : (if t394 = true then (some a1_0) else (if a1_2 = 0 then (some 0) else ((a2b.f k a0_0 a0_1 a0_2 l0_3 l0_4 l0_5 a1_2).bind fun t395 => (if t395 = true then (some a1_2) else (some 0))))) = some r := H
 have A3 := am_ A30
 clear A30
 by_cases c4 : t394 = true
 ·subst c4
  have H1 : (some a1_0) = some r := by rw [if_pos rfl] at H; exact H
  clear H
  have H := H1
  clear H1
  obtain rfl := si_ H
  go_enter Try.func37, Try.ntmps37
  go_wp2_with (first | ((with_reducible refine a0d (N := 2) rfl ?_); refine qev_ 2 #[.int .i64 a0_0, .int .i64 a0_1, .int .i64 a0_2, .slice A0_3 l0_3.length c0_3, .slice A0_4 l0_4.length c0_4, .slice A0_5 l0_5.length c0_5] 30 ?_; intro gb392 hg w5 hbox hb; have BK392 := am_ (hbox); have GW392 := qga_ hg; have GE392 := qga_ hg; replace HB := qbs_ hb; clear hb hbox hg) | ((with_reducible refine a0d (N := 3) rfl ?_); refine qev_ 3 #[.int .i64 a1_0, .int .i64 a1_1, .int .i64 a1_2] 43 ?_; intro gb393 hg w6 hbox hb; have BK393 := am_ (hbox); have GW393 := qga_ hg; have GE393 := qga_ hg; replace HB := qbs_ hb; have NB392_393 := am_ ((by rw [hg]; exact Nat.ne_of_lt (a0y (qk_ BK392)) : gb392 ≠ gb393)); have NB393_392 := am_ ((by rw [hg]; exact Nat.ne_of_gt (a0y (qk_ BK392)) : gb393 ≠ gb392)); replace BK392 := qkb_ BK392 hb; clear hb hbox hg; have hnb7 := NB392_393.out; have hnc7 := NB393_392.out; obtain ⟨z'8_0, z'8_1, z'8_2, z'8_3, z'8_4, z'8_5⟩ := qz6_ BK392; obtain ⟨y'8_0, y'8_1, y'8_2, y'8_3, y'8_4, y'8_5⟩ := qf6_ BK392; obtain ⟨z'9_0, z'9_1, z'9_2⟩ := qz3_ BK393; obtain ⟨y'9_0, y'9_1, y'9_2⟩ := qf3_ BK393) | ((with_reducible refine a0b (f := 23) rfl ?_); refine a0p (some 8) rfl rfl Try.func23 (by kernel_rfl) rfl #[.agg #[.int .i64 a0_0, .int .i64 a0_1, .int .i64 a0_2, .slice A0_3 l0_3.length c0_3, .slice A0_4 l0_4.length c0_4, .slice A0_5 l0_5.length c0_5], .int .i64 a1_0] rfl ql_ ?_; (with_reducible refine (a2b.calls k a0_0 a0_1 a0_2 _ _ l0_3 _ _ l0_4 _ _ l0_5 a1_0 true _ ?s1 ?s2 ?s3 ?s4 ?s5 ?s6 A3.out).mono ?_); (case s1 => exact qc_ HR0_3); (case s2 => exact HC0_3.out); (case s3 => exact qc_ HR0_4); (case s4 => exact HC0_4.out); (case s5 => exact qc_ HR0_5); (case s6 => exact HC0_5.out); rintro e w10 ⟨rfl, hb⟩; refine ⟨_, rfl, ?_⟩; replace BK392 := qkb_ BK392 hb; replace BK393 := qkb_ BK393 hb; replace HB := qbs_ hb; (try clear hb); (try clear hb2); (try clear hk); (try clear hi); obtain ⟨z'11_0, z'11_1, z'11_2⟩ := qz3_ BK393; obtain ⟨y'11_0, y'11_1, y'11_2⟩ := qf3_ BK393))
  go_ret
  exact ⟨qx_, qb_⟩
 ·replace c4 := be_ c4
  subst c4
  have H1 : (if a1_2 = 0 then (some 0) else ((a2b.f k a0_0 a0_1 a0_2 l0_3 l0_4 l0_5 a1_2).bind fun t395 => (if t395 = true then (some a1_2) else (some 0)))) = some r := by rw [if_neg (show ¬ (false = true) by decide)] at H; exact H
  clear H
  have H := H1
  clear H1
  by_cases c12 : a1_2 = 0
  ·rw [if_pos c12] at H
   have c12b0 : (a1_2 == 0) = true := beq_iff_eq.mpr c12
   have c12b1 : (a1_2 != 0) = false := bne_eq_false_iff_eq.mpr c12
   clear c12
   obtain rfl := si_ H
   go_enter Try.func37, Try.ntmps37
   go_wp2_with (first | ((with_reducible refine a0d (N := 2) rfl ?_); refine qev_ 2 #[.int .i64 a0_0, .int .i64 a0_1, .int .i64 a0_2, .slice A0_3 l0_3.length c0_3, .slice A0_4 l0_4.length c0_4, .slice A0_5 l0_5.length c0_5] 30 ?_; intro gb392 hg w13 hbox hb; have BK392 := am_ (hbox); have GW392 := qga_ hg; have GE392 := qga_ hg; replace HB := qbs_ hb; clear hb hbox hg) | ((with_reducible refine a0d (N := 3) rfl ?_); refine qev_ 3 #[.int .i64 a1_0, .int .i64 a1_1, .int .i64 a1_2] 43 ?_; intro gb393 hg w14 hbox hb; have BK393 := am_ (hbox); have GW393 := qga_ hg; have GE393 := qga_ hg; replace HB := qbs_ hb; have NB392_393 := am_ ((by rw [hg]; exact Nat.ne_of_lt (a0y (qk_ BK392)) : gb392 ≠ gb393)); have NB393_392 := am_ ((by rw [hg]; exact Nat.ne_of_gt (a0y (qk_ BK392)) : gb393 ≠ gb392)); replace BK392 := qkb_ BK392 hb; clear hb hbox hg; have hnb15 := NB392_393.out; have hnc15 := NB393_392.out; obtain ⟨z'16_0, z'16_1, z'16_2, z'16_3, z'16_4, z'16_5⟩ := qz6_ BK392; obtain ⟨y'16_0, y'16_1, y'16_2, y'16_3, y'16_4, y'16_5⟩ := qf6_ BK392; obtain ⟨z'17_0, z'17_1, z'17_2⟩ := qz3_ BK393; obtain ⟨y'17_0, y'17_1, y'17_2⟩ := qf3_ BK393) | ((with_reducible refine a0b (f := 23) rfl ?_); refine a0p (some 8) rfl rfl Try.func23 (by kernel_rfl) rfl #[.agg #[.int .i64 a0_0, .int .i64 a0_1, .int .i64 a0_2, .slice A0_3 l0_3.length c0_3, .slice A0_4 l0_4.length c0_4, .slice A0_5 l0_5.length c0_5], .int .i64 a1_0] rfl ql_ ?_; (with_reducible refine (a2b.calls k a0_0 a0_1 a0_2 _ _ l0_3 _ _ l0_4 _ _ l0_5 a1_0 false _ ?s1 ?s2 ?s3 ?s4 ?s5 ?s6 A3.out).mono ?_); (case s1 => exact qc_ HR0_3); (case s2 => exact HC0_3.out); (case s3 => exact qc_ HR0_4); (case s4 => exact HC0_4.out); (case s5 => exact qc_ HR0_5); (case s6 => exact HC0_5.out); rintro e w18 ⟨rfl, hb⟩; refine ⟨_, rfl, ?_⟩; replace BK392 := qkb_ BK392 hb; replace BK393 := qkb_ BK393 hb; replace HB := qbs_ hb; (try clear hb); (try clear hb2); (try clear hk); (try clear hi); obtain ⟨z'19_0, z'19_1, z'19_2⟩ := qz3_ BK393; obtain ⟨y'19_0, y'19_1, y'19_2⟩ := qf3_ BK393))
   go_ret
   exact ⟨qx_, qb_⟩
  ·rw [if_neg c12] at H
   have c12b0 : (a1_2 == 0) = false := beq_eq_false_iff_ne.mpr c12
   have c12b1 : (a1_2 != 0) = true := bne_iff_ne.mpr c12
   replace H := bm_ H
   obtain ⟨t395, A200, H⟩ := H
   replace H : (if t395 = true then (some a1_2) else (some 0)) = some r := H
   have A20 := am_ A200
   clear A200
   by_cases c21 : t395 = true
   ·subst c21
    have H1 : (some a1_2) = some r := by rw [if_pos rfl] at H; exact H
    clear H
    have H := H1
    clear H1
    obtain rfl := si_ H
    go_enter Try.func37, Try.ntmps37
    go_wp2_with (first | ((with_reducible refine a0d (N := 2) rfl ?_); refine qev_ 2 #[.int .i64 a0_0, .int .i64 a0_1, .int .i64 a0_2, .slice A0_3 l0_3.length c0_3, .slice A0_4 l0_4.length c0_4, .slice A0_5 l0_5.length c0_5] 30 ?_; intro gb392 hg w22 hbox hb; have BK392 := am_ (hbox); have GW392 := qga_ hg; have GE392 := qga_ hg; replace HB := qbs_ hb; clear hb hbox hg) | ((with_reducible refine a0d (N := 3) rfl ?_); refine qev_ 3 #[.int .i64 a1_0, .int .i64 a1_1, .int .i64 a1_2] 43 ?_; intro gb393 hg w23 hbox hb; have BK393 := am_ (hbox); have GW393 := qga_ hg; have GE393 := qga_ hg; replace HB := qbs_ hb; have NB392_393 := am_ ((by rw [hg]; exact Nat.ne_of_lt (a0y (qk_ BK392)) : gb392 ≠ gb393)); have NB393_392 := am_ ((by rw [hg]; exact Nat.ne_of_gt (a0y (qk_ BK392)) : gb393 ≠ gb392)); replace BK392 := qkb_ BK392 hb; clear hb hbox hg; have hnb24 := NB392_393.out; have hnc24 := NB393_392.out; obtain ⟨z'25_0, z'25_1, z'25_2, z'25_3, z'25_4, z'25_5⟩ := qz6_ BK392; obtain ⟨y'25_0, y'25_1, y'25_2, y'25_3, y'25_4, y'25_5⟩ := qf6_ BK392; obtain ⟨z'26_0, z'26_1, z'26_2⟩ := qz3_ BK393; obtain ⟨y'26_0, y'26_1, y'26_2⟩ := qf3_ BK393) | ((with_reducible refine a0b (f := 23) rfl ?_); refine a0p (some 8) rfl rfl Try.func23 (by kernel_rfl) rfl #[.agg #[.int .i64 a0_0, .int .i64 a0_1, .int .i64 a0_2, .slice A0_3 l0_3.length c0_3, .slice A0_4 l0_4.length c0_4, .slice A0_5 l0_5.length c0_5], .int .i64 a1_0] rfl ql_ ?_; (with_reducible refine (a2b.calls k a0_0 a0_1 a0_2 _ _ l0_3 _ _ l0_4 _ _ l0_5 a1_0 false _ ?s1 ?s2 ?s3 ?s4 ?s5 ?s6 A3.out).mono ?_); (case s1 => exact qc_ HR0_3); (case s2 => exact HC0_3.out); (case s3 => exact qc_ HR0_4); (case s4 => exact HC0_4.out); (case s5 => exact qc_ HR0_5); (case s6 => exact HC0_5.out); rintro e w27 ⟨rfl, hb⟩; refine ⟨_, rfl, ?_⟩; replace BK392 := qkb_ BK392 hb; replace BK393 := qkb_ BK393 hb; replace HB := qbs_ hb; (try clear hb); (try clear hb2); (try clear hk); (try clear hi); obtain ⟨z'28_0, z'28_1, z'28_2⟩ := qz3_ BK393; obtain ⟨y'28_0, y'28_1, y'28_2⟩ := qf3_ BK393; obtain ⟨z'29_0, z'29_1, z'29_2, z'29_3, z'29_4, z'29_5⟩ := qz6_ BK392; obtain ⟨y'29_0, y'29_1, y'29_2, y'29_3, y'29_4, y'29_5⟩ := qf6_ BK392) | (go_at_call 23; (with_reducible refine (a2b.calls k a0_0 a0_1 a0_2 _ _ l0_3 _ _ l0_4 _ _ l0_5 a1_2 true _ ?s1 ?s2 ?s3 ?s4 ?s5 ?s6 A20.out).mono ?_); (case s1 => exact qc_ HR0_3); (case s2 => exact HC0_3.out); (case s3 => exact qc_ HR0_4); (case s4 => exact HC0_4.out); (case s5 => exact qc_ HR0_5); (case s6 => exact HC0_5.out); rintro e w30 ⟨rfl, hb⟩; replace BK392 := qkb_ BK392 hb; replace BK393 := qkb_ BK393 hb; replace HB := qbs_ hb; (try clear hb); (try clear hb2); (try clear hk); (try clear hi); obtain ⟨z'31_0, z'31_1, z'31_2⟩ := qz3_ BK393; obtain ⟨y'31_0, y'31_1, y'31_2⟩ := qf3_ BK393))
    go_ret
    exact ⟨qx_, qb_⟩
   ·replace c21 := be_ c21
    subst c21
    have H1 : (some 0) = some r := by rw [if_neg (show ¬ (false = true) by decide)] at H; exact H
    clear H
    have H := H1
    clear H1
    obtain rfl := si_ H
    go_enter Try.func37, Try.ntmps37
    go_wp2_with (first | ((with_reducible refine a0d (N := 2) rfl ?_); refine qev_ 2 #[.int .i64 a0_0, .int .i64 a0_1, .int .i64 a0_2, .slice A0_3 l0_3.length c0_3, .slice A0_4 l0_4.length c0_4, .slice A0_5 l0_5.length c0_5] 30 ?_; intro gb392 hg w32 hbox hb; have BK392 := am_ (hbox); have GW392 := qga_ hg; have GE392 := qga_ hg; replace HB := qbs_ hb; clear hb hbox hg) | ((with_reducible refine a0d (N := 3) rfl ?_); refine qev_ 3 #[.int .i64 a1_0, .int .i64 a1_1, .int .i64 a1_2] 43 ?_; intro gb393 hg w33 hbox hb; have BK393 := am_ (hbox); have GW393 := qga_ hg; have GE393 := qga_ hg; replace HB := qbs_ hb; have NB392_393 := am_ ((by rw [hg]; exact Nat.ne_of_lt (a0y (qk_ BK392)) : gb392 ≠ gb393)); have NB393_392 := am_ ((by rw [hg]; exact Nat.ne_of_gt (a0y (qk_ BK392)) : gb393 ≠ gb392)); replace BK392 := qkb_ BK392 hb; clear hb hbox hg; have hnb34 := NB392_393.out; have hnc34 := NB393_392.out; obtain ⟨z'35_0, z'35_1, z'35_2, z'35_3, z'35_4, z'35_5⟩ := qz6_ BK392; obtain ⟨y'35_0, y'35_1, y'35_2, y'35_3, y'35_4, y'35_5⟩ := qf6_ BK392; obtain ⟨z'36_0, z'36_1, z'36_2⟩ := qz3_ BK393; obtain ⟨y'36_0, y'36_1, y'36_2⟩ := qf3_ BK393) | ((with_reducible refine a0b (f := 23) rfl ?_); refine a0p (some 8) rfl rfl Try.func23 (by kernel_rfl) rfl #[.agg #[.int .i64 a0_0, .int .i64 a0_1, .int .i64 a0_2, .slice A0_3 l0_3.length c0_3, .slice A0_4 l0_4.length c0_4, .slice A0_5 l0_5.length c0_5], .int .i64 a1_0] rfl ql_ ?_; (with_reducible refine (a2b.calls k a0_0 a0_1 a0_2 _ _ l0_3 _ _ l0_4 _ _ l0_5 a1_0 false _ ?s1 ?s2 ?s3 ?s4 ?s5 ?s6 A3.out).mono ?_); (case s1 => exact qc_ HR0_3); (case s2 => exact HC0_3.out); (case s3 => exact qc_ HR0_4); (case s4 => exact HC0_4.out); (case s5 => exact qc_ HR0_5); (case s6 => exact HC0_5.out); rintro e w37 ⟨rfl, hb⟩; refine ⟨_, rfl, ?_⟩; replace BK392 := qkb_ BK392 hb; replace BK393 := qkb_ BK393 hb; replace HB := qbs_ hb; (try clear hb); (try clear hb2); (try clear hk); (try clear hi); obtain ⟨z'38_0, z'38_1, z'38_2⟩ := qz3_ BK393; obtain ⟨y'38_0, y'38_1, y'38_2⟩ := qf3_ BK393; obtain ⟨z'39_0, z'39_1, z'39_2, z'39_3, z'39_4, z'39_5⟩ := qz6_ BK392; obtain ⟨y'39_0, y'39_1, y'39_2, y'39_3, y'39_4, y'39_5⟩ := qf6_ BK392) | (go_at_call 23; (with_reducible refine (a2b.calls k a0_0 a0_1 a0_2 _ _ l0_3 _ _ l0_4 _ _ l0_5 a1_2 false _ ?s1 ?s2 ?s3 ?s4 ?s5 ?s6 A20.out).mono ?_); (case s1 => exact qc_ HR0_3); (case s2 => exact HC0_3.out); (case s3 => exact qc_ HR0_4); (case s4 => exact HC0_4.out); (case s5 => exact qc_ HR0_5); (case s6 => exact HC0_5.out); rintro e w40 ⟨rfl, hb⟩; replace BK392 := qkb_ BK392 hb; replace BK393 := qkb_ BK393 hb; replace HB := qbs_ hb; (try clear hb); (try clear hb2); (try clear hk); (try clear hi)))
    go_ret
    exact ⟨qx_, qb_⟩
def a8p.f (a0_0 a0_1 a0_2 a0_3 : Int) (a0_4 : Bool) (a1_0 a1_1 a1_2 : Int) : Option (Int) := if a0_4 = true then (some 1) else (some a1_1)
set_option maxHeartbeats 8000000 in
set_option maxRecDepth 100000 in
theorem a8p.calls (a0_0 a0_1 a0_2 a0_3 : Int) (a0_4 : Bool) (a1_0 a1_1 a1_2 r : Int) (w : World) (h : a8p.f a0_0 a0_1 a0_2 a0_3 a0_4 a1_0 a1_1 a1_2 = some r) :
  Calls Try.prog 38 #[.agg #[.int .i64 a0_0, .int .i64 a0_1, .int .i64 a0_2, .int .i64 a0_3, .bool a0_4], .agg #[.int .i64 a1_0, .int .i64 a1_1, .int .i64 a1_2]] w fun e w' => e = .returned (.int .i64 r) ∧ Below w.heap.size w w' := by
 have hu25 := Try.underlying25
 have hu43 := Try.underlying43
 have HB := am_ (Below.refl w.heap.size w)
 have H : (if a0_4 = true then (some 1) else (some a1_1)) = some r := h
 clear h
 by_cases c3 : a0_4 = true
 ·subst c3
  have H1 : (some 1) = some r := by rw [if_pos rfl] at H; exact H
  clear H
  have H := H1
  clear H1
  obtain rfl := si_ H
  go_enter Try.func38, Try.ntmps38
  go_wp2_with (first | ((with_reducible refine a0d (N := 2) rfl ?_); refine qev_ 2 #[.int .i64 a0_0, .int .i64 a0_1, .int .i64 a0_2, .int .i64 a0_3, .bool true] 25 ?_; intro gb396 hg w4 hbox hb; have BK396 := am_ (hbox); have GW396 := qga_ hg; have GE396 := qga_ hg; replace HB := qbs_ hb; clear hb hbox hg) | ((with_reducible refine a0d (N := 3) rfl ?_); refine qev_ 3 #[.int .i64 a1_0, .int .i64 a1_1, .int .i64 a1_2] 43 ?_; intro gb397 hg w5 hbox hb; have BK397 := am_ (hbox); have GW397 := qga_ hg; have GE397 := qga_ hg; replace HB := qbs_ hb; have NB396_397 := am_ ((by rw [hg]; exact Nat.ne_of_lt (a0y (qk_ BK396)) : gb396 ≠ gb397)); have NB397_396 := am_ ((by rw [hg]; exact Nat.ne_of_gt (a0y (qk_ BK396)) : gb397 ≠ gb396)); replace BK396 := qkb_ BK396 hb; clear hb hbox hg; have hnb6 := NB396_397.out; have hnc6 := NB397_396.out; obtain ⟨z'7_0, z'7_1, z'7_2, z'7_3, z'7_4⟩ := qz5_ BK396; obtain ⟨y'7_0, y'7_1, y'7_2, y'7_3, y'7_4⟩ := qf5_ BK396))
  go_ret
  exact ⟨qx_, qb_⟩
 ·replace c3 := be_ c3
  subst c3
  have H1 : (some a1_1) = some r := by rw [if_neg (show ¬ (false = true) by decide)] at H; exact H
  clear H
  have H := H1
  clear H1
  obtain rfl := si_ H
  go_enter Try.func38, Try.ntmps38
  go_wp2_with (first | ((with_reducible refine a0d (N := 2) rfl ?_); refine qev_ 2 #[.int .i64 a0_0, .int .i64 a0_1, .int .i64 a0_2, .int .i64 a0_3, .bool false] 25 ?_; intro gb396 hg w8 hbox hb; have BK396 := am_ (hbox); have GW396 := qga_ hg; have GE396 := qga_ hg; replace HB := qbs_ hb; clear hb hbox hg) | ((with_reducible refine a0d (N := 3) rfl ?_); refine qev_ 3 #[.int .i64 a1_0, .int .i64 a1_1, .int .i64 a1_2] 43 ?_; intro gb397 hg w9 hbox hb; have BK397 := am_ (hbox); have GW397 := qga_ hg; have GE397 := qga_ hg; replace HB := qbs_ hb; have NB396_397 := am_ ((by rw [hg]; exact Nat.ne_of_lt (a0y (qk_ BK396)) : gb396 ≠ gb397)); have NB397_396 := am_ ((by rw [hg]; exact Nat.ne_of_gt (a0y (qk_ BK396)) : gb397 ≠ gb396)); replace BK396 := qkb_ BK396 hb; clear hb hbox hg; have hnb10 := NB396_397.out; have hnc10 := NB397_396.out; obtain ⟨z'11_0, z'11_1, z'11_2, z'11_3, z'11_4⟩ := qz5_ BK396; obtain ⟨y'11_0, y'11_1, y'11_2, y'11_3, y'11_4⟩ := qf5_ BK396; obtain ⟨z'12_0, z'12_1, z'12_2⟩ := qz3_ BK397; obtain ⟨y'12_0, y'12_1, y'12_2⟩ := qf3_ BK397))
  go_ret
  exact ⟨qx_, qb_⟩
end Go.Proofs.Ytemnlgefngjliaa.Px
