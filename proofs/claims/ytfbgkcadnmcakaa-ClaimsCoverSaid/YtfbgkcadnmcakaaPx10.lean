/- Contracts of Go functions, printed. Conditions: as each theorem states. -/
import Derived.Test.YtfbgkcadnmcakaaPx0
namespace Go.Proofs.Ytfbgkcadnmcakaa.Px
open Go.Proofs.Ytfbgkcadnmcakaa.Given
open Go.RowKit Go.Proofs.YtfbgkcadnmcakaaW.PrintWords Go.Proofs.YtfbgkcadnmcakaaW.PrintLast Go.Proofs.YtfbgkcadnmcakaaW.PrintMore
attribute [local go_sem] a2w a2u a3d a3c a2q a2r a2x a2y
set_option linter.unusedVariables false
set_option linter.unusedSimpArgs false
mutual
def a1f.l0 : Nat → Int → Int → List (S26) → Int → Int → Int → Int → Int → Int → Int → Int → Option (Int)
 | 0, _, _, _, _, _, _, _, _, _, _, _ => none
 | k + 1, x2, x7, x12, x13, x14, u0, u1, u2, u3, u4, u5 => if x14 < x13 then (if 0 ≤ x14 then (if x14 < (x12.length : Int) then (if ((a0c x12 x14).f0) = u0 then (if ((a0c x12 x14).f3) ≤ x2 then (a1f.j1 k x2 x7 x12 x13 x14 (((a0c x12 x14).f1) == x7) u0 u1 u2 u3 u4 u5 ((a0c x12 x14).f0) ((a0c x12 x14).f1) ((a0c x12 x14).f2) ((a0c x12 x14).f3)) else (a1f.j1 k x2 x7 x12 x13 x14 false u0 u1 u2 u3 u4 u5 ((a0c x12 x14).f0) ((a0c x12 x14).f1) ((a0c x12 x14).f2) ((a0c x12 x14).f3))) else (a1f.j1 k x2 x7 x12 x13 x14 false u0 u1 u2 u3 u4 u5 ((a0c x12 x14).f0) ((a0c x12 x14).f1) ((a0c x12 x14).f2) ((a0c x12 x14).f3))) else (none)) else (none)) else (some x7)
def a1f.j1 : Nat → Int → Int → List (S26) → Int → Int → Bool → Int → Int → Int → Int → Int → Int → Int → Int → Int → Int → Option (Int)
 | 0, _, _, _, _, _, _, _, _, _, _, _, _, _, _, _, _ => none
 | k + 1, x2, x7, x12, x13, x14, x34, u0, u1, u2, u3, u4, u5, u6, u7, u8, u9 => if x34 = true then (a1f.l0 k x2 u8 x12 x13 (wrap64 (x14 + 1)) u0 u1 u2 u3 u4 u5) else (a1f.l0 k x2 x7 x12 x13 (wrap64 (x14 + 1)) u0 u1 u2 u3 u4 u5)
end
def a1f.f (k : Nat) (a0_0 a0_1 a0_2 a0_3 a0_4 a0_5 : Int) (l1 : List (S26)) (a2 : Int) : Option (Int) := a1f.l0 k a2 a0_2 l1 (l1.length : Int) 0 a0_0 a0_1 a0_2 a0_3 a0_4 a0_5
theorem a1f.a1k : ∀ k, (∀ y0 y1 y2 y3 y4 y5 y6 y7 y8 y9 y10, LeO (a1f.l0 k y0 y1 y2 y3 y4 y5 y6 y7 y8 y9 y10) (a1f.l0 (k + 1) y0 y1 y2 y3 y4 y5 y6 y7 y8 y9 y10)) ∧ (∀ y0 y1 y2 y3 y4 y5 y6 y7 y8 y9 y10 y11 y12 y13 y14 y15, LeO (a1f.j1 k y0 y1 y2 y3 y4 y5 y6 y7 y8 y9 y10 y11 y12 y13 y14 y15) (a1f.j1 (k + 1) y0 y1 y2 y3 y4 y5 y6 y7 y8 y9 y10 y11 y12 y13 y14 y15))
 | 0 => ⟨fun _ _ _ _ _ _ _ _ _ _ _ r h => by simp [a1f.l0] at h, fun _ _ _ _ _ _ _ _ _ _ _ _ _ _ _ _ r h => by simp [a1f.j1] at h⟩
 | k + 1 => by
  obtain ⟨ih0, ih1⟩ := a1f.a1k k
  refine ⟨?_, ?_⟩
  ·intro y0 y1 y2 y3 y4 y5 y6 y7 y8 y9 y10
   unfold a1f.l0
   with_reducible (repeat' first | apply ih0 | apply ih1 | apply LeO.refl | apply LeO.none | apply LeO.ite | refine LeO.bind ?_ (fun _ => ?_))
  ·intro y0 y1 y2 y3 y4 y5 y6 y7 y8 y9 y10 y11 y12 y13 y14 y15
   unfold a1f.j1
   with_reducible (repeat' first | apply ih0 | apply ih1 | apply LeO.refl | apply LeO.none | apply LeO.ite | refine LeO.bind ?_ (fun _ => ?_))
theorem a1f.mono : ∀ a0 a1 a2 a3 a4 a5 a6 a7 k, LeO (a1f.f k a0 a1 a2 a3 a4 a5 a6 a7) (a1f.f (k + 1) a0 a1 a2 a3 a4 a5 a6 a7) := by
 intro a0 a1 a2 a3 a4 a5 a6 a7 k
 obtain ⟨ih0, ih1⟩ := a1f.a1k k
 unfold a1f.f
 with_reducible (repeat' first | apply ih0 | apply ih1 | apply LeO.refl | apply LeO.none | apply LeO.ite | refine LeO.bind ?_ (fun _ => ?_))
set_option maxHeartbeats 8000000 in
set_option maxRecDepth 100000 in
theorem a1f.calls (k : Nat) (a0_0 a0_1 a0_2 a0_3 a0_4 a0_5 : Int) (A1 : Option Addr) (c1 : Nat) (l1 : List (S26)) (a2 r : Int) (w : World) (hr1 : Kd.C k26 w A1 l1.length l1) (hc1 : l1.length ≤ c1) (h : a1f.f k a0_0 a0_1 a0_2 a0_3 a0_4 a0_5 l1 a2 = some r) :
  Calls Try.prog 25 #[.agg #[.int .i64 a0_0, .int .i64 a0_1, .int .i64 a0_2, .int .i64 a0_3, .int .i64 a0_4, .int .i64 a0_5], .slice A1 l1.length c1, .int .i64 a2] w fun e w' => e = .returned (.int .i64 r) ∧ Below w.heap.size w w' := by
 have hu30 := Try.underlying30
 have hu26 := Try.underlying26
 have HR1 := am_ hr1
 have HC1 := am_ hc1
 clear hr1 hc1
 have HB := am_ (Below.refl w.heap.size w)
 have H : (a1f.l0 k a2 a0_2 l1 (l1.length : Int) 0 a0_0 a0_1 a0_2 a0_3 a0_4 a0_5) = some r := h
 clear h
 have H' := am_ H
 clear H
 go_enter Try.func25, Try.ntmps25
 go_wp2_with (first | ((with_reducible refine a1g (N := 3) rfl ?_); refine qev_ 3 #[.int .i64 a0_0, .int .i64 a0_1, .int .i64 a0_2, .int .i64 a0_3, .int .i64 a0_4, .int .i64 a0_5] 30 ?_; intro gb180 hg w4 hbox hb; have BK180 := am_ (hbox); have GW180 := qga_ hg; have GE180 := qga_ hg; replace HB := qbs_ hb; clear hb hbox hg; obtain ⟨z'5_0, z'5_1, z'5_2, z'5_3, z'5_4, z'5_5⟩ := qz6_ BK180; obtain ⟨y'5_0, y'5_1, y'5_2, y'5_3, y'5_4, y'5_5⟩ := qf6_ BK180))
 go_loopg [7, 14] k (fun kq v7 v14 w' => ∃ (x7_1 : Int) (x14_1 : Int), v7 = .int .i64 x7_1 ∧ v14 = .int .i64 x14_1 ∧ Aside0 (a1f.l0 kq a2 x7_1 l1 (l1.length : Int) x14_1 a0_0 a0_1 a0_2 a0_3 a0_4 a0_5 = some r) ∧ Aside0 (kq ≤ k) ∧ Aside0 (w'.heap[gb180]? = some (.cells #[.int .i64 a0_0, .int .i64 a0_1, .int .i64 a0_2, .int .i64 a0_3, .int .i64 a0_4, .int .i64 a0_5] 30 (0, 0))) ∧ Aside0 (Below w.heap.size w w'))
 case atStart => exact ⟨(a0_2), (0), qs_, qs_, H', ⟨Nat.le_refl _⟩, ⟨qk_ BK180⟩, ⟨qb_⟩⟩
 case round =>
  clear H'
  try clear c1
  try clear c2
  try clear p2
  try clear z'5_0 z'5_1 z'5_2 z'5_3 z'5_4 z'5_5
  try clear y'5_0 y'5_1 y'5_2 y'5_3 y'5_4 y'5_5
  obtain ⟨x7_1, x14_1, rfl, rfl, HA, HK1, BK180, HB⟩ := hrel
  cases gk with
  | zero => exact absurd HA.out (by simp [a1f.l0])
  | succ k1 =>
   have H := HA.out
   clear HA
   simp only [a1f.l0] at H
   by_cases c6 : x14_1 < (l1.length : Int)
   ·rw [if_pos c6] at H
    have c6b0 : decide (x14_1 < (l1.length : Int)) = true := decide_eq_true c6
    clear c6
    by_cases c7 : 0 ≤ x14_1
    ·rw [if_pos c7] at H
     have c7b0 : decide (0 ≤ x14_1) = true := decide_eq_true c7
     clear c7
     by_cases c8 : x14_1 < (l1.length : Int)
     ·rw [if_pos c8] at H
      have c8b0 : decide (x14_1 < (l1.length : Int)) = true := decide_eq_true c8
      clear c8
      have HC9 := am_ H
      clear H
      have p181 : 0 ≤ (x14_1 : Int) := ot_
      have q181 : x14_1 < (l1.length : Int) := ot_
      obtain ⟨ad181, e181, hx181_0, hx181_1, hx181_2, hx181_3⟩ := a3i HR1.out x14_1 p181 q181
      cases e181
      replace hx181_0 := qh_ HB hx181_0
      replace hx181_1 := qh_ HB hx181_1
      replace hx181_2 := qh_ HB hx181_2
      replace hx181_3 := qh_ HB hx181_3
      replace p181 := eq_true p181
      replace q181 := eq_true q181
      go_upto_region 5 with (first | ((with_reducible refine a1g (N := 9) rfl ?_); refine qev_ 9 #[.int .i64 0, .int .i64 0, .int .i64 0, .int .i64 0] 26 ?_; intro gb182 hg w10 hbox hb; have BK182 := am_ (hbox); have GW182 := qga_ hg; have GE182 := qga_ hg; replace HB := qbs_ hb; have NB180_182 := am_ ((by rw [hg]; exact Nat.ne_of_lt (a2d (qk_ BK180)) : gb180 ≠ gb182)); have NB182_180 := am_ ((by rw [hg]; exact Nat.ne_of_gt (a2d (qk_ BK180)) : gb182 ≠ gb180)); replace BK180 := qkb_ BK180 hb; clear hb hbox hg; have hnb11 := NB182_180.out; have hnc11 := NB180_182.out; obtain ⟨z'12_0, z'12_1, z'12_2, z'12_3⟩ := qz4_ BK182; obtain ⟨y'12_0, y'12_1, y'12_2, y'12_3⟩ := qf4_ BK182))
      (try simp only [Act.put, List.setIfInBounds_toArray, List.set_cons_zero, List.set_cons_succ])
      go_cut [34] (fun v34 wc => ∃ (kq : Nat) (x34_8 : Bool), v34 = .bool x34_8 ∧ Aside0 (a1f.j1 kq a2 x7_1 l1 (l1.length : Int) x14_1 x34_8 a0_0 a0_1 a0_2 a0_3 a0_4 a0_5 ((a0c l1 x14_1).f0) ((a0c l1 x14_1).f1) ((a0c l1 x14_1).f2) ((a0c l1 x14_1).f3) = some r) ∧ Aside0 (kq ≤ k1) ∧ Aside0 (wc.heap[gb180]? = some (.cells #[.int .i64 a0_0, .int .i64 a0_1, .int .i64 a0_2, .int .i64 a0_3, .int .i64 a0_4, .int .i64 a0_5] 30 (0, 0))) ∧ Aside0 (wc.heap[gb182]? = some (.cells #[.int .i64 ((a0c l1 x14_1).f0), .int .i64 ((a0c l1 x14_1).f1), .int .i64 ((a0c l1 x14_1).f2), .int .i64 ((a0c l1 x14_1).f3)] 26 (0, 0))) ∧ Aside0 (Below w.heap.size w wc))
      case first =>
       have H := HC9.out
       clear HC9
       by_cases c13 : ((a0c l1 x14_1).f0) = a0_0
       ·rw [if_pos c13] at H
        have c13b0 : (((a0c l1 x14_1).f0) == a0_0) = true := beq_iff_eq.mpr c13
        have c13b1 : (((a0c l1 x14_1).f0) != a0_0) = false := bne_eq_false_iff_eq.mpr c13
        clear c13
        (first | rw [c13b0] | (simp only [a3k, a4i]; rw [c13b0]) | skip)
        by_cases c14 : ((a0c l1 x14_1).f3) ≤ a2
        ·rw [if_pos c14] at H
         have c14b0 : decide (((a0c l1 x14_1).f3) ≤ a2) = true := decide_eq_true c14
         clear c14
         have H' := am_ H
         clear H
         have hnb15 := NB182_180.out
         have hnc15 := NB180_182.out
         obtain ⟨z'16_0, z'16_1, z'16_2, z'16_3⟩ := qz4_ BK182; obtain ⟨y'16_0, y'16_1, y'16_2, y'16_3⟩ := qf4_ BK182
         obtain ⟨z'17_0, z'17_1, z'17_2, z'17_3, z'17_4, z'17_5⟩ := qz6_ BK180; obtain ⟨y'17_0, y'17_1, y'17_2, y'17_3, y'17_4, y'17_5⟩ := qf6_ BK180
         go_wp2
         go_meet
         case rel => exact ⟨_, ((((a0c l1 x14_1).f1) == x7_1)), qs_, H', ⟨by have := HK1.out; first | omega | exact Nat.le_refl _⟩, ⟨by refine qd_ ?_; refine a2n ?_ NB180_182.out _; refine qd_ ?_; refine a2n ?_ NB180_182.out _; refine qd_ ?_; refine a2n ?_ NB180_182.out _; refine qd_ ?_; refine a2n ?_ NB180_182.out _; refine qd_ ?_; exact BK180.out⟩, ⟨by refine qd_ ?_; refine a0q (cs := #[.int .i64 ((a0c l1 x14_1).f0), .int .i64 ((a0c l1 x14_1).f1), .int .i64 ((a0c l1 x14_1).f2), .int .i64 0]) ?_ 3 _ rfl; refine qd_ ?_; refine a0q (cs := #[.int .i64 ((a0c l1 x14_1).f0), .int .i64 ((a0c l1 x14_1).f1), .int .i64 0, .int .i64 0]) ?_ 2 _ rfl; refine qd_ ?_; refine a0q (cs := #[.int .i64 ((a0c l1 x14_1).f0), .int .i64 0, .int .i64 0, .int .i64 0]) ?_ 1 _ rfl; refine qd_ ?_; refine a0q (cs := #[.int .i64 0, .int .i64 0, .int .i64 0, .int .i64 0]) ?_ 0 _ rfl; refine qd_ ?_; exact BK182.out⟩, ⟨qb_⟩⟩
        ·rw [if_neg c14] at H
         have c14b0 : decide (((a0c l1 x14_1).f3) ≤ a2) = false := decide_eq_false c14
         clear c14
         have H' := am_ H
         clear H
         have hnb18 := NB182_180.out
         have hnc18 := NB180_182.out
         obtain ⟨z'19_0, z'19_1, z'19_2, z'19_3⟩ := qz4_ BK182; obtain ⟨y'19_0, y'19_1, y'19_2, y'19_3⟩ := qf4_ BK182
         obtain ⟨z'20_0, z'20_1, z'20_2, z'20_3, z'20_4, z'20_5⟩ := qz6_ BK180; obtain ⟨y'20_0, y'20_1, y'20_2, y'20_3, y'20_4, y'20_5⟩ := qf6_ BK180
         go_wp2
         go_meet
         case rel => exact ⟨_, (false), qs_, H', ⟨by have := HK1.out; first | omega | exact Nat.le_refl _⟩, ⟨by refine qd_ ?_; refine a2n ?_ NB180_182.out _; refine qd_ ?_; refine a2n ?_ NB180_182.out _; refine qd_ ?_; refine a2n ?_ NB180_182.out _; refine qd_ ?_; refine a2n ?_ NB180_182.out _; refine qd_ ?_; exact BK180.out⟩, ⟨by refine qd_ ?_; refine a0q (cs := #[.int .i64 ((a0c l1 x14_1).f0), .int .i64 ((a0c l1 x14_1).f1), .int .i64 ((a0c l1 x14_1).f2), .int .i64 0]) ?_ 3 _ rfl; refine qd_ ?_; refine a0q (cs := #[.int .i64 ((a0c l1 x14_1).f0), .int .i64 ((a0c l1 x14_1).f1), .int .i64 0, .int .i64 0]) ?_ 2 _ rfl; refine qd_ ?_; refine a0q (cs := #[.int .i64 ((a0c l1 x14_1).f0), .int .i64 0, .int .i64 0, .int .i64 0]) ?_ 1 _ rfl; refine qd_ ?_; refine a0q (cs := #[.int .i64 0, .int .i64 0, .int .i64 0, .int .i64 0]) ?_ 0 _ rfl; refine qd_ ?_; exact BK182.out⟩, ⟨qb_⟩⟩
       ·rw [if_neg c13] at H
        have c13b0 : (((a0c l1 x14_1).f0) == a0_0) = false := beq_eq_false_iff_ne.mpr c13
        have c13b1 : (((a0c l1 x14_1).f0) != a0_0) = true := bne_iff_ne.mpr c13
        (first | rw [c13b0] | (simp only [a3k, a4i]; rw [c13b0]) | skip)
        have H' := am_ H
        clear H
        have hnb21 := NB182_180.out
        have hnc21 := NB180_182.out
        obtain ⟨z'22_0, z'22_1, z'22_2, z'22_3⟩ := qz4_ BK182; obtain ⟨y'22_0, y'22_1, y'22_2, y'22_3⟩ := qf4_ BK182
        obtain ⟨z'23_0, z'23_1, z'23_2, z'23_3, z'23_4, z'23_5⟩ := qz6_ BK180; obtain ⟨y'23_0, y'23_1, y'23_2, y'23_3, y'23_4, y'23_5⟩ := qf6_ BK180
        go_wp2
        go_meet
        case rel => exact ⟨_, (false), qs_, H', ⟨by have := HK1.out; first | omega | exact Nat.le_refl _⟩, ⟨by refine qd_ ?_; refine a2n ?_ NB180_182.out _; refine qd_ ?_; refine a2n ?_ NB180_182.out _; refine qd_ ?_; refine a2n ?_ NB180_182.out _; refine qd_ ?_; refine a2n ?_ NB180_182.out _; refine qd_ ?_; exact BK180.out⟩, ⟨by refine qd_ ?_; refine a0q (cs := #[.int .i64 ((a0c l1 x14_1).f0), .int .i64 ((a0c l1 x14_1).f1), .int .i64 ((a0c l1 x14_1).f2), .int .i64 0]) ?_ 3 _ rfl; refine qd_ ?_; refine a0q (cs := #[.int .i64 ((a0c l1 x14_1).f0), .int .i64 ((a0c l1 x14_1).f1), .int .i64 0, .int .i64 0]) ?_ 2 _ rfl; refine qd_ ?_; refine a0q (cs := #[.int .i64 ((a0c l1 x14_1).f0), .int .i64 0, .int .i64 0, .int .i64 0]) ?_ 1 _ rfl; refine qd_ ?_; refine a0q (cs := #[.int .i64 0, .int .i64 0, .int .i64 0, .int .i64 0]) ?_ 0 _ rfl; refine qd_ ?_; exact BK182.out⟩, ⟨qb_⟩⟩
      case rest =>
       clear HC9
       try clear c1
       try clear p1
       try clear q1
       try clear hx1
       try clear c2
       try clear p2
       try clear c6
       try clear c6b0
       try clear c7
       try clear c7b0
       try clear c8
       try clear c8b0
       try clear c11
       try clear c13
       try clear c13b0
       try clear c13b1
       try clear c14
       try clear c14b0
       try clear c15
       try clear c18
       try clear p18
       try clear q18
       try clear hx18
       try clear c21
       try clear z'12_0 z'12_1 z'12_2 z'12_3
       try clear z'16_0 z'16_1 z'16_2 z'16_3
       try clear z'17_0 z'17_1 z'17_2 z'17_3 z'17_4 z'17_5
       try clear z'19_0 z'19_1 z'19_2 z'19_3
       try clear z'20_0 z'20_1 z'20_2 z'20_3 z'20_4 z'20_5
       try clear z'22_0 z'22_1 z'22_2 z'22_3
       try clear z'23_0 z'23_1 z'23_2 z'23_3 z'23_4 z'23_5
       try clear z'5_0 z'5_1 z'5_2 z'5_3 z'5_4 z'5_5
       try clear y'12_0 y'12_1 y'12_2 y'12_3
       try clear y'16_0 y'16_1 y'16_2 y'16_3
       try clear y'17_0 y'17_1 y'17_2 y'17_3 y'17_4 y'17_5
       try clear y'19_0 y'19_1 y'19_2 y'19_3
       try clear y'20_0 y'20_1 y'20_2 y'20_3 y'20_4 y'20_5
       try clear y'22_0 y'22_1 y'22_2 y'22_3
       try clear y'23_0 y'23_1 y'23_2 y'23_3 y'23_4 y'23_5
       try clear y'5_0 y'5_1 y'5_2 y'5_3 y'5_4 y'5_5
       try clear hx181_0
       try clear hx181_1
       try clear hx181_2
       try clear hx181_3
       try clear p181
       try clear p2
       try clear q181
       obtain ⟨kq, x34_8, rfl, HA, HJ8, BK180, BK182, HB⟩ := hcut
       cases kq with
       | zero => exact absurd HA.out (by simp [a1f.j1])
       | succ kj8 =>
        have H := HA.out
        clear HA
        simp only [a1f.j1] at H
        by_cases c24 : x34_8 = true
        ·subst c24
         have H1 : (a1f.l0 kj8 a2 ((a0c l1 x14_1).f2) l1 (l1.length : Int) (wrap64 (x14_1 + 1)) a0_0 a0_1 a0_2 a0_3 a0_4 a0_5) = some r := by rw [if_pos rfl] at H; exact H
         clear H
         have H := H1
         clear H1
         have H' := am_ H
         clear H
         have hnb25 := NB182_180.out
         have hnc25 := NB180_182.out
         obtain ⟨z'26_0, z'26_1, z'26_2, z'26_3⟩ := qz4_ BK182; obtain ⟨y'26_0, y'26_1, y'26_2, y'26_3⟩ := qf4_ BK182
         go_wp2
         go_roundg kj8
         case measure => have := HK1.out; have := HJ8.out; omega
         case rel => exact ⟨(((a0c l1 x14_1).f2)), (wrap64 (x14_1 + 1)), qs_, qs_, H', ⟨by have := HK1.out; have := HJ8.out; omega⟩, ⟨qk_ BK180⟩, ⟨qb_⟩⟩
        ·replace c24 := be_ c24
         subst c24
         have H1 : (a1f.l0 kj8 a2 x7_1 l1 (l1.length : Int) (wrap64 (x14_1 + 1)) a0_0 a0_1 a0_2 a0_3 a0_4 a0_5) = some r := by rw [if_neg (show ¬ (false = true) by decide)] at H; exact H
         clear H
         have H := H1
         clear H1
         have H' := am_ H
         clear H
         go_wp2
         go_roundg kj8
         case measure => have := HK1.out; have := HJ8.out; omega
         case rel => exact ⟨(x7_1), (wrap64 (x14_1 + 1)), qs_, qs_, H', ⟨by have := HK1.out; have := HJ8.out; omega⟩, ⟨qk_ BK180⟩, ⟨qb_⟩⟩
     ·rw [if_neg c8] at H
      exact absurd H (by simp)
    ·rw [if_neg c7] at H
     exact absurd H (by simp)
   ·rw [if_neg c6] at H
    have c6b0 : decide (x14_1 < (l1.length : Int)) = false := decide_eq_false c6
    clear c6
    obtain rfl := si_ H
    go_wp2
    go_ret
    exact ⟨qx_, qb_⟩
end Go.Proofs.Ytfbgkcadnmcakaa.Px
