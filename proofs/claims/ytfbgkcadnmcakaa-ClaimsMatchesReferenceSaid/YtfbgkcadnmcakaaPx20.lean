/- Contracts of Go functions, printed. Conditions: as each theorem states. -/
import Derived.Test.YtfbgkcadnmcakaaPx0
import Derived.Test.YtfbgkcadnmcakaaPx18
import Derived.Test.YtfbgkcadnmcakaaPx19
namespace Go.Proofs.Ytfbgkcadnmcakaa.Px
open Go.Proofs.Ytfbgkcadnmcakaa.Given
open Go.RowKit Go.Proofs.YtfbgkcadnmcakaaW.PrintWords Go.Proofs.YtfbgkcadnmcakaaW.PrintLast Go.Proofs.YtfbgkcadnmcakaaW.PrintMore
attribute [local go_sem] a2y a2v a3h a3e a2q a2r a2z a3a
set_option linter.unusedVariables false
set_option linter.unusedSimpArgs false
mutual
def a0s.l0 : Nat → List (S26) → Int → Int → Int → Int → Int → Int → Int → Int → Int → Option (Int)
 | 0, _, _, _, _, _, _, _, _, _, _ => none
 | k + 1, x1, x2, x7, x8, u0, u1, u2, u3, u4, u5 => if x8 ≥ 0 then (if 0 ≤ x8 then (if x8 < (x1.length : Int) then (a0s.j1 k x1 x2 x7 x8 (decide (((a0c x1 x8).f3) ≤ x2)) u0 u1 u2 u3 u4 u5) else (none)) else (none)) else (a0s.j1 k x1 x2 x7 x8 false u0 u1 u2 u3 u4 u5)
def a0s.j1 : Nat → List (S26) → Int → Int → Int → Bool → Int → Int → Int → Int → Int → Int → Option (Int)
 | 0, _, _, _, _, _, _, _, _, _, _, _ => none
 | k + 1, x1, x2, x7, x8, x25, u0, u1, u2, u3, u4, u5 => if x25 = true then (if 0 ≤ x8 then (if x8 < (x1.length : Int) then (if ((a0c x1 x8).f1) = x7 then ((a0j.f k x1 u0 ((a0c x1 x8).f3) x8).bind fun t351 => (a0s.l0 k x1 x2 ((a0c x1 x8).f2) t351 u0 u1 u2 u3 u4 u5)) else ((a0j.f k x1 u0 ((a0c x1 x8).f3) x8).bind fun t353 => (a0s.l0 k x1 x2 x7 t353 u0 u1 u2 u3 u4 u5))) else (none)) else (none)) else (some x7)
end
def a0s.f (k : Nat) (a0_0 a0_1 a0_2 a0_3 a0_4 a0_5 : Int) (l1 : List (S26)) (a2 : Int) : Option (Int) := (a0j.f k l1 a0_0 (-1) (-1)).bind fun t346 => (a0s.l0 k l1 a2 a0_2 t346 a0_0 a0_1 a0_2 a0_3 a0_4 a0_5)
theorem a0s.a1p : ∀ k, (∀ y0 y1 y2 y3 y4 y5 y6 y7 y8 y9, LeO (a0s.l0 k y0 y1 y2 y3 y4 y5 y6 y7 y8 y9) (a0s.l0 (k + 1) y0 y1 y2 y3 y4 y5 y6 y7 y8 y9)) ∧ (∀ y0 y1 y2 y3 y4 y5 y6 y7 y8 y9 y10, LeO (a0s.j1 k y0 y1 y2 y3 y4 y5 y6 y7 y8 y9 y10) (a0s.j1 (k + 1) y0 y1 y2 y3 y4 y5 y6 y7 y8 y9 y10))
 | 0 => ⟨fun _ _ _ _ _ _ _ _ _ _ r h => by simp [a0s.l0] at h, fun _ _ _ _ _ _ _ _ _ _ _ r h => by simp [a0s.j1] at h⟩
 | k + 1 => by
  obtain ⟨ih0, ih1⟩ := a0s.a1p k
  refine ⟨?_, ?_⟩
  ·intro y0 y1 y2 y3 y4 y5 y6 y7 y8 y9
   unfold a0s.l0
   with_reducible (repeat' first | apply ih0 | apply ih1 | apply a0j.mono | apply LeO.refl | apply LeO.none | apply LeO.ite | refine LeO.bind ?_ (fun _ => ?_))
  ·intro y0 y1 y2 y3 y4 y5 y6 y7 y8 y9 y10
   unfold a0s.j1
   with_reducible (repeat' first | apply ih0 | apply ih1 | apply a0j.mono | apply LeO.refl | apply LeO.none | apply LeO.ite | refine LeO.bind ?_ (fun _ => ?_))
theorem a0s.mono : ∀ a0 a1 a2 a3 a4 a5 a6 a7 k, LeO (a0s.f k a0 a1 a2 a3 a4 a5 a6 a7) (a0s.f (k + 1) a0 a1 a2 a3 a4 a5 a6 a7) := by
 intro a0 a1 a2 a3 a4 a5 a6 a7 k
 obtain ⟨ih0, ih1⟩ := a0s.a1p k
 unfold a0s.f
 with_reducible (repeat' first | apply ih0 | apply ih1 | apply a0j.mono | apply LeO.refl | apply LeO.none | apply LeO.ite | refine LeO.bind ?_ (fun _ => ?_))
set_option maxHeartbeats 8000000 in
set_option maxRecDepth 100000 in
theorem a0s.calls (k : Nat) (a0_0 a0_1 a0_2 a0_3 a0_4 a0_5 : Int) (A1 : Option Addr) (c1 : Nat) (l1 : List (S26)) (a2 r : Int) (w : World) (hr1 : Kd.C k26 w A1 l1.length l1) (hc1 : l1.length ≤ c1) (h : a0s.f k a0_0 a0_1 a0_2 a0_3 a0_4 a0_5 l1 a2 = some r) :
  Calls Try.prog 36 #[.agg #[.int .i64 a0_0, .int .i64 a0_1, .int .i64 a0_2, .int .i64 a0_3, .int .i64 a0_4, .int .i64 a0_5], .slice A1 l1.length c1, .int .i64 a2] w fun e w' => e = .returned (.int .i64 r) ∧ Below w.heap.size w w' := by
 have hu30 := Try.underlying30
 have HR1 := am_ hr1
 have HC1 := am_ hc1
 clear hr1 hc1
 have HB := am_ (Below.refl w.heap.size w)
 have H : ((a0j.f k l1 a0_0 (-1) (-1)).bind fun t346 => (a0s.l0 k l1 a2 a0_2 t346 a0_0 a0_1 a0_2 a0_3 a0_4 a0_5)) = some r := h
 clear h
 replace H := bm_ H
 obtain ⟨t346, A40, H⟩ := H
 replace H : (a0s.l0 k l1 a2 a0_2 t346 a0_0 a0_1 a0_2 a0_3 a0_4 a0_5) = some r := H
 have A4 := am_ A40
 clear A40
 have H' := am_ H
 clear H
 go_enter Try.func36, Try.ntmps36
 go_wp2_with (first | ((with_reducible refine a1m (N := 3) rfl ?_); refine qev_ 3 #[.int .i64 a0_0, .int .i64 a0_1, .int .i64 a0_2, .int .i64 a0_3, .int .i64 a0_4, .int .i64 a0_5] 30 ?_; intro gb345 hg w5 hbox hb; have BK345 := am_ (hbox); have GW345 := qga_ hg; have GE345 := qga_ hg; replace HB := qbs_ hb; clear hb hbox hg; obtain ⟨z'6_0, z'6_1, z'6_2, z'6_3, z'6_4, z'6_5⟩ := qz6_ BK345; obtain ⟨y'6_0, y'6_1, y'6_2, y'6_3, y'6_4, y'6_5⟩ := qf6_ BK345) | (go_at_call 52; (with_reducible refine (a0j.calls k _ _ l1 a0_0 (-1) (-1) t346 _ ?s1 ?s2 A4.out).mono ?_); (case s1 => exact qc_ HR1); (case s2 => exact HC1.out); rintro e w' ⟨rfl, ⟨nd, rfl⟩⟩; (try exact qw_)))
 repeat (go_quiet (first | ((with_reducible refine a1m (N := 3) rfl ?_); refine qev_ 3 #[.int .i64 a0_0, .int .i64 a0_1, .int .i64 a0_2, .int .i64 a0_3, .int .i64 a0_4, .int .i64 a0_5] 30 ?_; intro gb345 hg w5 hbox hb; have BK345 := am_ (hbox); have GW345 := qga_ hg; have GE345 := qga_ hg; replace HB := qbs_ hb; clear hb hbox hg; obtain ⟨z'6_0, z'6_1, z'6_2, z'6_3, z'6_4, z'6_5⟩ := qz6_ BK345; obtain ⟨y'6_0, y'6_1, y'6_2, y'6_3, y'6_4, y'6_5⟩ := qf6_ BK345) | (go_at_call 52; (with_reducible refine (a0j.calls k _ _ l1 a0_0 (-1) (-1) t346 _ ?s1 ?s2 A4.out).mono ?_); (case s1 => exact qc_ HR1); (case s2 => exact HC1.out); rintro e w' ⟨rfl, ⟨nd, rfl⟩⟩; (try exact qw_))); try go_wp2_with (first | ((with_reducible refine a1m (N := 3) rfl ?_); refine qev_ 3 #[.int .i64 a0_0, .int .i64 a0_1, .int .i64 a0_2, .int .i64 a0_3, .int .i64 a0_4, .int .i64 a0_5] 30 ?_; intro gb345 hg w5 hbox hb; have BK345 := am_ (hbox); have GW345 := qga_ hg; have GE345 := qga_ hg; replace HB := qbs_ hb; clear hb hbox hg; obtain ⟨z'6_0, z'6_1, z'6_2, z'6_3, z'6_4, z'6_5⟩ := qz6_ BK345; obtain ⟨y'6_0, y'6_1, y'6_2, y'6_3, y'6_4, y'6_5⟩ := qf6_ BK345) | (go_at_call 52; (with_reducible refine (a0j.calls k _ _ l1 a0_0 (-1) (-1) t346 _ ?s1 ?s2 A4.out).mono ?_); (case s1 => exact qc_ HR1); (case s2 => exact HC1.out); rintro e w' ⟨rfl, ⟨nd, rfl⟩⟩; (try exact qw_))))
 go_loopg [7, 8] k (fun kq v7 v8 w' => ∃ (x7_1 : Int) (x8_1 : Int), v7 = .int .i64 x7_1 ∧ v8 = .int .i64 x8_1 ∧ Aside0 (a0s.l0 kq l1 a2 x7_1 x8_1 a0_0 a0_1 a0_2 a0_3 a0_4 a0_5 = some r) ∧ Aside0 (kq ≤ k) ∧ Aside0 (w'.heap[gb345]? = some (.cells #[.int .i64 a0_0, .int .i64 a0_1, .int .i64 a0_2, .int .i64 a0_3, .int .i64 a0_4, .int .i64 a0_5] 30 (0, 0))) ∧ Aside0 (Below w.heap.size w w'))
 case atStart => exact ⟨(a0_2), (t346), qs_, qs_, H', ⟨Nat.le_refl _⟩, ⟨qk_ BK345⟩, ⟨qb_⟩⟩
 case round =>
  clear H'
  try clear c1
  try clear p2
  try clear c3
  try clear z'6_0 z'6_1 z'6_2 z'6_3 z'6_4 z'6_5
  try clear y'6_0 y'6_1 y'6_2 y'6_3 y'6_4 y'6_5
  obtain ⟨x7_1, x8_1, rfl, rfl, HA, HK1, BK345, HB⟩ := hrel
  cases gk with
  | zero => exact absurd HA.out (by simp [a0s.l0])
  | succ k1 =>
   have H := HA.out
   clear HA
   simp only [a0s.l0] at H
   have HC7 := am_ H
   clear H
   go_upto_region 3 with (fail)
   repeat (go_quiet (fail); go_upto_region 3 with (fail))
   go_cut [25] (fun v25 wc => ∃ (kq : Nat) (x25_6 : Bool), v25 = .bool x25_6 ∧ Aside0 (a0s.j1 kq l1 a2 x7_1 x8_1 x25_6 a0_0 a0_1 a0_2 a0_3 a0_4 a0_5 = some r) ∧ Aside0 (kq ≤ k1) ∧ Aside0 (wc.heap[gb345]? = some (.cells #[.int .i64 a0_0, .int .i64 a0_1, .int .i64 a0_2, .int .i64 a0_3, .int .i64 a0_4, .int .i64 a0_5] 30 (0, 0))) ∧ Aside0 (Below w.heap.size w wc))
   case first =>
    have H := HC7.out
    clear HC7
    by_cases c8 : x8_1 ≥ 0
    ·rw [if_pos c8] at H
     have c8b0 : decide (0 ≤ x8_1) = true := decide_eq_true c8
     clear c8
     (first | rw [c8b0] | (simp only [a2x, a3m]; rw [c8b0]) | skip)
     by_cases c9 : 0 ≤ x8_1
     ·rw [if_pos c9] at H
      have c9b0 : decide (0 ≤ x8_1) = true := decide_eq_true c9
      clear c9
      by_cases c10 : x8_1 < (l1.length : Int)
      ·rw [if_pos c10] at H
       have c10b0 : decide (x8_1 < (l1.length : Int)) = true := decide_eq_true c10
       clear c10
       have H' := am_ H
       clear H
       have p347 : 0 ≤ (x8_1 : Int) := ot_
       have q347 : x8_1 < (l1.length : Int) := ot_
       obtain ⟨ad347, e347, hx347_0, hx347_1, hx347_2, hx347_3⟩ := a2j HR1.out x8_1 p347 q347
       cases e347
       replace hx347_0 := qh_ HB hx347_0
       replace hx347_1 := qh_ HB hx347_1
       replace hx347_2 := qh_ HB hx347_2
       replace hx347_3 := qh_ HB hx347_3
       replace p347 := eq_true p347
       replace q347 := eq_true q347
       go_wp2
       repeat (go_quiet (fail); try go_wp2)
       go_meet
       case rel => exact ⟨_, (decide (((a0c l1 x8_1).f3) ≤ a2)), qs_, H', ⟨by have := HK1.out; first | omega | exact Nat.le_refl _⟩, ⟨qk_ BK345⟩, ⟨qb_⟩⟩
      ·rw [if_neg c10] at H
       exact absurd H (by simp)
     ·rw [if_neg c9] at H
      exact absurd H (by simp)
    ·rw [if_neg c8] at H
     have c8b0 : decide (0 ≤ x8_1) = false := decide_eq_false c8
     clear c8
     (first | rw [c8b0] | (simp only [a2x, a3m]; rw [c8b0]) | skip)
     have H' := am_ H
     clear H
     go_wp2
     repeat (go_quiet (fail); try go_wp2)
     go_meet
     case rel => exact ⟨_, (false), qs_, H', ⟨by have := HK1.out; first | omega | exact Nat.le_refl _⟩, ⟨qk_ BK345⟩, ⟨qb_⟩⟩
   case rest =>
    clear HC7
    try clear c1
    try clear p2
    try clear c3
    try clear p3
    try clear q3
    try clear hx3
    try clear c8
    try clear c8b0
    try clear c9
    try clear c9b0
    try clear c10
    try clear c10b0
    try clear z'6_0 z'6_1 z'6_2 z'6_3 z'6_4 z'6_5
    try clear y'6_0 y'6_1 y'6_2 y'6_3 y'6_4 y'6_5
    try clear hx347_0
    try clear hx347_1
    try clear hx347_2
    try clear hx347_3
    try clear p2
    try clear p347
    try clear q347
    obtain ⟨kq, x25_6, rfl, HA, HJ6, BK345, HB⟩ := hcut
    cases kq with
    | zero => exact absurd HA.out (by simp [a0s.j1])
    | succ kj6 =>
     have H := HA.out
     clear HA
     simp only [a0s.j1] at H
     by_cases c11 : x25_6 = true
     ·subst c11
      have H1 : (if 0 ≤ x8_1 then (if x8_1 < (l1.length : Int) then (if ((a0c l1 x8_1).f1) = x7_1 then ((a0j.f kj6 l1 a0_0 ((a0c l1 x8_1).f3) x8_1).bind fun t351 => (a0s.l0 kj6 l1 a2 ((a0c l1 x8_1).f2) t351 a0_0 a0_1 a0_2 a0_3 a0_4 a0_5)) else ((a0j.f kj6 l1 a0_0 ((a0c l1 x8_1).f3) x8_1).bind fun t353 => (a0s.l0 kj6 l1 a2 x7_1 t353 a0_0 a0_1 a0_2 a0_3 a0_4 a0_5))) else (none)) else (none)) = some r := by rw [if_pos rfl] at H; exact H
      clear H
      have H := H1
      clear H1
      by_cases c12 : 0 ≤ x8_1
      ·rw [if_pos c12] at H
       have c12b0 : decide (0 ≤ x8_1) = true := decide_eq_true c12
       clear c12
       by_cases c13 : x8_1 < (l1.length : Int)
       ·rw [if_pos c13] at H
        have c13b0 : decide (x8_1 < (l1.length : Int)) = true := decide_eq_true c13
        clear c13
        by_cases c14 : ((a0c l1 x8_1).f1) = x7_1
        ·rw [if_pos c14] at H
         have c14b0 : (((a0c l1 x8_1).f1) == x7_1) = true := beq_iff_eq.mpr c14
         have c14b1 : (((a0c l1 x8_1).f1) != x7_1) = false := bne_eq_false_iff_eq.mpr c14
         clear c14
         replace H := bm_ H
         obtain ⟨t351, A150, H⟩ := H
         replace H : (a0s.l0 kj6 l1 a2 ((a0c l1 x8_1).f2) t351 a0_0 a0_1 a0_2 a0_3 a0_4 a0_5) = some r := H
         have A15 := am_ A150
         clear A150
         have H' := am_ H
         clear H
         have p348 : 0 ≤ (x8_1 : Int) := ot_
         have q348 : x8_1 < (l1.length : Int) := ot_
         obtain ⟨ad348, e348, hx348_0, hx348_1, hx348_2, hx348_3⟩ := a2j HR1.out x8_1 p348 q348
         cases e348
         replace hx348_0 := qh_ HB hx348_0
         replace hx348_1 := qh_ HB hx348_1
         replace hx348_2 := qh_ HB hx348_2
         replace hx348_3 := qh_ HB hx348_3
         replace p348 := eq_true p348
         replace q348 := eq_true q348
         have p349 : 0 ≤ (x8_1 : Int) := ot_
         have q349 : x8_1 < (l1.length : Int) := ot_
         obtain ⟨ad349, e349, hx349_0, hx349_1, hx349_2, hx349_3⟩ := a2j HR1.out x8_1 p349 q349
         obtain rfl : ad348 = ad349 := (by injection e349)
         replace hx349_0 := qh_ HB hx349_0
         replace hx349_1 := qh_ HB hx349_1
         replace hx349_2 := qh_ HB hx349_2
         replace hx349_3 := qh_ HB hx349_3
         replace p349 := eq_true p349
         replace q349 := eq_true q349
         obtain ⟨z'16_0, z'16_1, z'16_2, z'16_3, z'16_4, z'16_5⟩ := qz6_ BK345; obtain ⟨y'16_0, y'16_1, y'16_2, y'16_3, y'16_4, y'16_5⟩ := qf6_ BK345
         have p350 : 0 ≤ (x8_1 : Int) := ot_
         have q350 : x8_1 < (l1.length : Int) := ot_
         obtain ⟨ad350, e350, hx350_0, hx350_1, hx350_2, hx350_3⟩ := a2j HR1.out x8_1 p350 q350
         obtain rfl : ad348 = ad350 := (by injection e350)
         replace hx350_0 := qh_ HB hx350_0
         replace hx350_1 := qh_ HB hx350_1
         replace hx350_2 := qh_ HB hx350_2
         replace hx350_3 := qh_ HB hx350_3
         replace p350 := eq_true p350
         replace q350 := eq_true q350
         go_wp2_with (first | (go_at_call 52; (with_reducible refine (a0j.calls kj6 _ _ l1 a0_0 ((a0c l1 x8_1).f3) x8_1 t351 _ ?s1 ?s2 A15.out).mono ?_); (case s1 => exact qc_ HR1); (case s2 => exact HC1.out); rintro e w' ⟨rfl, ⟨nd, rfl⟩⟩; (try exact qw_)))
         repeat (go_quiet (first | (go_at_call 52; (with_reducible refine (a0j.calls kj6 _ _ l1 a0_0 ((a0c l1 x8_1).f3) x8_1 t351 _ ?s1 ?s2 A15.out).mono ?_); (case s1 => exact qc_ HR1); (case s2 => exact HC1.out); rintro e w' ⟨rfl, ⟨nd, rfl⟩⟩; (try exact qw_))); try go_wp2_with (first | (go_at_call 52; (with_reducible refine (a0j.calls kj6 _ _ l1 a0_0 ((a0c l1 x8_1).f3) x8_1 t351 _ ?s1 ?s2 A15.out).mono ?_); (case s1 => exact qc_ HR1); (case s2 => exact HC1.out); rintro e w' ⟨rfl, ⟨nd, rfl⟩⟩; (try exact qw_))))
         go_roundg kj6
         case measure => have := HK1.out; have := HJ6.out; omega
         case rel => exact ⟨((a0c l1 x8_1).f2), (t351), qs_, qs_, H', ⟨by have := HK1.out; have := HJ6.out; omega⟩, ⟨qk_ BK345⟩, ⟨qb_⟩⟩
        ·rw [if_neg c14] at H
         have c14b0 : (((a0c l1 x8_1).f1) == x7_1) = false := beq_eq_false_iff_ne.mpr c14
         have c14b1 : (((a0c l1 x8_1).f1) != x7_1) = true := bne_iff_ne.mpr c14
         replace H := bm_ H
         obtain ⟨t353, A170, H⟩ := H
         replace H : (a0s.l0 kj6 l1 a2 x7_1 t353 a0_0 a0_1 a0_2 a0_3 a0_4 a0_5) = some r := H
         have A17 := am_ A170
         clear A170
         have H' := am_ H
         clear H
         have p348 : 0 ≤ (x8_1 : Int) := ot_
         have q348 : x8_1 < (l1.length : Int) := ot_
         obtain ⟨ad348, e348, hx348_0, hx348_1, hx348_2, hx348_3⟩ := a2j HR1.out x8_1 p348 q348
         cases e348
         replace hx348_0 := qh_ HB hx348_0
         replace hx348_1 := qh_ HB hx348_1
         replace hx348_2 := qh_ HB hx348_2
         replace hx348_3 := qh_ HB hx348_3
         replace p348 := eq_true p348
         replace q348 := eq_true q348
         obtain ⟨z'18_0, z'18_1, z'18_2, z'18_3, z'18_4, z'18_5⟩ := qz6_ BK345; obtain ⟨y'18_0, y'18_1, y'18_2, y'18_3, y'18_4, y'18_5⟩ := qf6_ BK345
         have p352 : 0 ≤ (x8_1 : Int) := ot_
         have q352 : x8_1 < (l1.length : Int) := ot_
         obtain ⟨ad352, e352, hx352_0, hx352_1, hx352_2, hx352_3⟩ := a2j HR1.out x8_1 p352 q352
         obtain rfl : ad348 = ad352 := (by injection e352)
         replace hx352_0 := qh_ HB hx352_0
         replace hx352_1 := qh_ HB hx352_1
         replace hx352_2 := qh_ HB hx352_2
         replace hx352_3 := qh_ HB hx352_3
         replace p352 := eq_true p352
         replace q352 := eq_true q352
         go_wp2_with (first | (go_at_call 52; (with_reducible refine (a0j.calls kj6 _ _ l1 a0_0 ((a0c l1 x8_1).f3) x8_1 t353 _ ?s1 ?s2 A17.out).mono ?_); (case s1 => exact qc_ HR1); (case s2 => exact HC1.out); rintro e w' ⟨rfl, ⟨nd, rfl⟩⟩; (try exact qw_)))
         repeat (go_quiet (first | (go_at_call 52; (with_reducible refine (a0j.calls kj6 _ _ l1 a0_0 ((a0c l1 x8_1).f3) x8_1 t353 _ ?s1 ?s2 A17.out).mono ?_); (case s1 => exact qc_ HR1); (case s2 => exact HC1.out); rintro e w' ⟨rfl, ⟨nd, rfl⟩⟩; (try exact qw_))); try go_wp2_with (first | (go_at_call 52; (with_reducible refine (a0j.calls kj6 _ _ l1 a0_0 ((a0c l1 x8_1).f3) x8_1 t353 _ ?s1 ?s2 A17.out).mono ?_); (case s1 => exact qc_ HR1); (case s2 => exact HC1.out); rintro e w' ⟨rfl, ⟨nd, rfl⟩⟩; (try exact qw_))))
         go_roundg kj6
         case measure => have := HK1.out; have := HJ6.out; omega
         case rel => exact ⟨(x7_1), (t353), qs_, qs_, H', ⟨by have := HK1.out; have := HJ6.out; omega⟩, ⟨qk_ BK345⟩, ⟨qb_⟩⟩
       ·rw [if_neg c13] at H
        exact absurd H (by simp)
      ·rw [if_neg c12] at H
       exact absurd H (by simp)
     ·replace c11 := be_ c11
      subst c11
      have H1 : (some x7_1) = some r := by rw [if_neg (show ¬ (false = true) by decide)] at H; exact H
      clear H
      have H := H1
      clear H1
      obtain rfl := si_ H
      go_wp2
      repeat (go_quiet (fail); try go_wp2)
      go_ret
      exact ⟨qx_, qb_⟩
def a0w.j0 : Nat → List (S26) → Int → Bool → Int → Int → Int → Int → Int → Int → Option (Int × Int)
 | 0, _, _, _, _, _, _, _, _, _ => none
 | k + 1, x1, x2, x24, u6, u7, u8, u9, u10, u11 => if x24 = true then (some (0, 1)) else ((a0s.f k u6 u7 u8 u9 u10 u11 x1 x2).bind fun t358 => (some (t358, 0)))
def a0w.f (k : Nat) (a0_0 a0_1 a0_2 a0_3 a0_4 a0_5 : Int) (l1 : List (S26)) (a2 : Int) : Option (Int × Int) := (a0o.f k a0_0 a0_1 a0_2 a0_3 a0_4 a0_5).bind fun t355 => ((a0k.f k l1).bind fun t356 => (if t355 = true then (if t356 = true then ((a0l.f a2 0 36524).bind fun t357 => (a0w.j0 k l1 a2 (!t357) a0_0 a0_1 a0_2 a0_3 a0_4 a0_5)) else (a0w.j0 k l1 a2 true a0_0 a0_1 a0_2 a0_3 a0_4 a0_5)) else (a0w.j0 k l1 a2 true a0_0 a0_1 a0_2 a0_3 a0_4 a0_5)))
theorem a0w.a1p : ∀ k, (∀ y0 y1 y2 y3 y4 y5 y6 y7 y8, LeO (a0w.j0 k y0 y1 y2 y3 y4 y5 y6 y7 y8) (a0w.j0 (k + 1) y0 y1 y2 y3 y4 y5 y6 y7 y8))
 | 0 => fun _ _ _ _ _ _ _ _ _ r h => by simp [a0w.j0] at h
 | k + 1 => by
  have ih0 := a0w.a1p k
  ·intro y0 y1 y2 y3 y4 y5 y6 y7 y8
   unfold a0w.j0
   with_reducible (repeat' first | apply ih0 | apply a0k.mono | apply a0o.mono | apply a0s.mono | apply LeO.refl | apply LeO.none | apply LeO.ite | refine LeO.bind ?_ (fun _ => ?_))
theorem a0w.mono : ∀ a0 a1 a2 a3 a4 a5 a6 a7 k, LeO (a0w.f k a0 a1 a2 a3 a4 a5 a6 a7) (a0w.f (k + 1) a0 a1 a2 a3 a4 a5 a6 a7) := by
 intro a0 a1 a2 a3 a4 a5 a6 a7 k
 have ih0 := a0w.a1p k
 unfold a0w.f
 with_reducible (repeat' first | apply ih0 | apply a0k.mono | apply a0o.mono | apply a0s.mono | apply LeO.refl | apply LeO.none | apply LeO.ite | refine LeO.bind ?_ (fun _ => ?_))
set_option maxHeartbeats 8000000 in
set_option maxRecDepth 100000 in
theorem a0w.calls (k : Nat) (a0_0 a0_1 a0_2 a0_3 a0_4 a0_5 : Int) (A1 : Option Addr) (c1 : Nat) (l1 : List (S26)) (a2 r1 r2 : Int) (w : World) (hr1 : Kd.C k26 w A1 l1.length l1) (hc1 : l1.length ≤ c1) (h : a0w.f k a0_0 a0_1 a0_2 a0_3 a0_4 a0_5 l1 a2 = some (r1, r2)) :
  Calls Try.prog 15 #[.agg #[.int .i64 a0_0, .int .i64 a0_1, .int .i64 a0_2, .int .i64 a0_3, .int .i64 a0_4, .int .i64 a0_5], .slice A1 l1.length c1, .int .i64 a2] w fun e w' => e = .returned (.tuple #[.int .i64 r1, .int .i64 r2]) ∧ Below w.heap.size w w' := by
 have hu30 := Try.underlying30
 have HR1 := am_ hr1
 have HC1 := am_ hc1
 clear hr1 hc1
 have HB := am_ (Below.refl w.heap.size w)
 have H : ((a0o.f k a0_0 a0_1 a0_2 a0_3 a0_4 a0_5).bind fun t355 => ((a0k.f k l1).bind fun t356 => (if t355 = true then (if t356 = true then ((a0l.f a2 0 36524).bind fun t357 => (a0w.j0 k l1 a2 (!t357) a0_0 a0_1 a0_2 a0_3 a0_4 a0_5)) else (a0w.j0 k l1 a2 true a0_0 a0_1 a0_2 a0_3 a0_4 a0_5)) else (a0w.j0 k l1 a2 true a0_0 a0_1 a0_2 a0_3 a0_4 a0_5)))) = some (r1, r2) := h
 clear h
 replace H := bm_ H
 obtain ⟨t355, A40, H⟩ := H
 replace H : ((a0k.f k l1).bind fun t356 => (if t355 = true then (if t356 = true then ((a0l.f a2 0 36524).bind fun t357 => (a0w.j0 k l1 a2 (!t357) a0_0 a0_1 a0_2 a0_3 a0_4 a0_5)) else (a0w.j0 k l1 a2 true a0_0 a0_1 a0_2 a0_3 a0_4 a0_5)) else (a0w.j0 k l1 a2 true a0_0 a0_1 a0_2 a0_3 a0_4 a0_5))) = some (r1, r2) := H
 have A4 := am_ A40
 clear A40
 replace H := bm_ H
 obtain ⟨t356, A50, H⟩ := H
 replace H : (if t355 = true then (if t356 = true then ((a0l.f a2 0 36524).bind fun t357 => (a0w.j0 k l1 a2 (!t357) a0_0 a0_1 a0_2 a0_3 a0_4 a0_5)) else (a0w.j0 k l1 a2 true a0_0 a0_1 a0_2 a0_3 a0_4 a0_5)) else (a0w.j0 k l1 a2 true a0_0 a0_1 a0_2 a0_3 a0_4 a0_5)) = some (r1, r2) := H
 have A5 := am_ A50
 clear A50
 have HC6 := am_ H
 clear H
 go_enter Try.func15, Try.ntmps15
 go_upto_region 3 with (first | ((with_reducible refine a1m (N := 3) rfl ?_); refine qev_ 3 #[.int .i64 a0_0, .int .i64 a0_1, .int .i64 a0_2, .int .i64 a0_3, .int .i64 a0_4, .int .i64 a0_5] 30 ?_; intro gb354 hg w7 hbox hb; have BK354 := am_ (hbox); have GW354 := qga_ hg; have GE354 := qga_ hg; replace HB := qbs_ hb; clear hb hbox hg; obtain ⟨z'8_0, z'8_1, z'8_2, z'8_3, z'8_4, z'8_5⟩ := qz6_ BK354; obtain ⟨y'8_0, y'8_1, y'8_2, y'8_3, y'8_4, y'8_5⟩ := qf6_ BK354) | ((with_reducible refine a1a (f := 33) rfl ?_); refine a1r (some 11) rfl rfl Try.func33 (by kernel_rfl) rfl #[.agg #[.int .i64 a0_0, .int .i64 a0_1, .int .i64 a0_2, .int .i64 a0_3, .int .i64 a0_4, .int .i64 a0_5]] rfl ql_ ?_; (with_reducible refine (a0o.calls k a0_0 a0_1 a0_2 a0_3 a0_4 a0_5 t355 _ A4.out).mono ?_); rintro e w9 ⟨rfl, hb⟩; refine ⟨_, rfl, ?_⟩; replace BK354 := qkb_ BK354 hb; replace HB := qbs_ hb; (try clear hb); (try clear hb2); (try clear hk); (try clear hi)) | ((with_reducible refine a1a (f := 34) rfl ?_); refine a1r (some 13) rfl rfl Try.func34 (by kernel_rfl) rfl #[.slice A1 l1.length c1] rfl ql_ ?_; (with_reducible refine (a0k.calls k _ _ l1 t356 _ ?s1 ?s2 A5.out).mono ?_); (case s1 => exact qc_ HR1); (case s2 => exact HC1.out); rintro e w10 ⟨rfl, hb⟩; refine ⟨_, rfl, ?_⟩; replace BK354 := qkb_ BK354 hb; replace HB := qbs_ hb; (try clear hb); (try clear hb2); (try clear hk); (try clear hi)))
 (try simp only [Act.put, List.setIfInBounds_toArray, List.set_cons_zero, List.set_cons_succ])
 go_cut [24] (fun v24 wc => ∃ (kq : Nat) (x24_5 : Bool), v24 = .bool x24_5 ∧ Aside0 (a0w.j0 kq l1 a2 x24_5 a0_0 a0_1 a0_2 a0_3 a0_4 a0_5 = some (r1, r2)) ∧ Aside0 (kq ≤ k) ∧ Aside0 (wc.heap[gb354]? = some (.cells #[.int .i64 a0_0, .int .i64 a0_1, .int .i64 a0_2, .int .i64 a0_3, .int .i64 a0_4, .int .i64 a0_5] 30 (0, 0))) ∧ Aside0 (Below w.heap.size w wc))
 case first =>
  have H := HC6.out
  clear HC6
  by_cases c11 : t355 = true
  ·subst c11
   have H1 : (if t356 = true then ((a0l.f a2 0 36524).bind fun t357 => (a0w.j0 k l1 a2 (!t357) a0_0 a0_1 a0_2 a0_3 a0_4 a0_5)) else (a0w.j0 k l1 a2 true a0_0 a0_1 a0_2 a0_3 a0_4 a0_5)) = some (r1, r2) := by rw [if_pos rfl] at H; exact H
   clear H
   have H := H1
   clear H1
   by_cases c12 : t356 = true
   ·subst c12
    have H1 : ((a0l.f a2 0 36524).bind fun t357 => (a0w.j0 k l1 a2 (!t357) a0_0 a0_1 a0_2 a0_3 a0_4 a0_5)) = some (r1, r2) := by rw [if_pos rfl] at H; exact H
    clear H
    have H := H1
    clear H1
    replace H := bm_ H
    obtain ⟨t357, A130, H⟩ := H
    replace H : (a0w.j0 k l1 a2 (!t357) a0_0 a0_1 a0_2 a0_3 a0_4 a0_5) = some (r1, r2) := H
    have A13 := am_ A130
    clear A130
    have H' := am_ H
    clear H
    go_wp2_with (first | (go_at_call 35; (with_reducible refine (a0l.calls a2 0 36524 t357 _ A13.out).mono ?_); rintro e w' ⟨rfl, ⟨nd, rfl⟩⟩))
    go_meet
    case rel => exact ⟨_, (!t357), qs_, H', ⟨qo_⟩, ⟨qk_ BK354⟩, ⟨qb_⟩⟩
   ·replace c12 := be_ c12
    subst c12
    have H1 : (a0w.j0 k l1 a2 true a0_0 a0_1 a0_2 a0_3 a0_4 a0_5) = some (r1, r2) := by rw [if_neg (show ¬ (false = true) by decide)] at H; exact H
    clear H
    have H := H1
    clear H1
    have H' := am_ H
    clear H
    go_wp2
    go_meet
    case rel => exact ⟨_, (true), qs_, H', ⟨qo_⟩, ⟨qk_ BK354⟩, ⟨qb_⟩⟩
  ·replace c11 := be_ c11
   subst c11
   have H1 : (a0w.j0 k l1 a2 true a0_0 a0_1 a0_2 a0_3 a0_4 a0_5) = some (r1, r2) := by rw [if_neg (show ¬ (false = true) by decide)] at H; exact H
   clear H
   have H := H1
   clear H1
   have H' := am_ H
   clear H
   go_wp2
   go_meet
   case rel => exact ⟨_, (true), qs_, H', ⟨qo_⟩, ⟨qk_ BK354⟩, ⟨qb_⟩⟩
 case rest =>
  clear HC6
  try clear c1
  try clear p2
  try clear c3
  try clear c11
  try clear c12
  try clear z'8_0 z'8_1 z'8_2 z'8_3 z'8_4 z'8_5
  try clear y'8_0 y'8_1 y'8_2 y'8_3 y'8_4 y'8_5
  obtain ⟨kq, x24_5, rfl, HA, HJ5, BK354, HB⟩ := hcut
  cases kq with
  | zero => exact absurd HA.out (by simp [a0w.j0])
  | succ kj5 =>
   have H := HA.out
   clear HA
   simp only [a0w.j0] at H
   by_cases c14 : x24_5 = true
   ·subst c14
    have H1 : (some (0, 1)) = some (r1, r2) := by rw [if_pos rfl] at H; exact H
    clear H
    have H := H1
    clear H1
    simp only [Option.some.injEq, Prod.mk.injEq] at H
    obtain ⟨rfl, rfl⟩ := H
    go_wp2
    go_ret2
    exact ⟨qx_, qb_⟩
   ·replace c14 := be_ c14
    subst c14
    have H1 : ((a0s.f kj5 a0_0 a0_1 a0_2 a0_3 a0_4 a0_5 l1 a2).bind fun t358 => (some (t358, 0))) = some (r1, r2) := by rw [if_neg (show ¬ (false = true) by decide)] at H; exact H
    clear H
    have H := H1
    clear H1
    replace H := bm_ H
    obtain ⟨t358, A150, H⟩ := H
    replace H : (some (t358, 0)) = some (r1, r2) := H
    have A15 := am_ A150
    clear A150
    simp only [Option.some.injEq, Prod.mk.injEq] at H
    obtain ⟨rfl, rfl⟩ := H
    obtain ⟨z'16_0, z'16_1, z'16_2, z'16_3, z'16_4, z'16_5⟩ := qz6_ BK354; obtain ⟨y'16_0, y'16_1, y'16_2, y'16_3, y'16_4, y'16_5⟩ := qf6_ BK354
    go_wp2_with (first | ((with_reducible refine a1a (f := 36) rfl ?_); refine a1r (some 28) rfl rfl Try.func36 (by kernel_rfl) rfl #[.agg #[.int .i64 a0_0, .int .i64 a0_1, .int .i64 a0_2, .int .i64 a0_3, .int .i64 a0_4, .int .i64 a0_5], .slice A1 l1.length c1, .int .i64 a2] rfl ql_ ?_; (with_reducible refine (a0s.calls kj5 a0_0 a0_1 a0_2 a0_3 a0_4 a0_5 _ _ l1 a2 t358 _ ?s1 ?s2 A15.out).mono ?_); (case s1 => exact qc_ HR1); (case s2 => exact HC1.out); rintro e w17 ⟨rfl, hb⟩; refine ⟨_, rfl, ?_⟩; replace BK354 := qkb_ BK354 hb; replace HB := qbs_ hb; (try clear hb); (try clear hb2); (try clear hk); (try clear hi)))
    go_ret2
    exact ⟨qx_, qb_⟩
def a1e.l0 : Nat → List (S30) → Int → Int → Option (Int)
 | 0, _, _, _ => none
 | k + 1, x0, x1, x5 => if x5 < (x0.length : Int) then (if 0 ≤ x5 then (if ((a0a x0 x5).f0) = x1 then (some x5) else (a1e.l0 k x0 x1 (wrap64 (x5 + 1)))) else (none)) else (some (-1))
def a1e.f (k : Nat) (l0 : List (S30)) (a1 : Int) : Option (Int) := a1e.l0 k l0 a1 0
theorem a1e.a1p : ∀ k, (∀ y0 y1 y2, LeO (a1e.l0 k y0 y1 y2) (a1e.l0 (k + 1) y0 y1 y2))
 | 0 => fun _ _ _ r h => by simp [a1e.l0] at h
 | k + 1 => by
  have ih0 := a1e.a1p k
  ·intro y0 y1 y2
   unfold a1e.l0
   with_reducible (repeat' first | apply ih0 | apply LeO.refl | apply LeO.none | apply LeO.ite | refine LeO.bind ?_ (fun _ => ?_))
theorem a1e.mono : ∀ a0 a1 k, LeO (a1e.f k a0 a1) (a1e.f (k + 1) a0 a1) := by
 intro a0 a1 k
 have ih0 := a1e.a1p k
 unfold a1e.f
 with_reducible (repeat' first | apply ih0 | apply LeO.refl | apply LeO.none | apply LeO.ite | refine LeO.bind ?_ (fun _ => ?_))
set_option maxHeartbeats 8000000 in
set_option maxRecDepth 100000 in
theorem a1e.calls (k : Nat) (A0 : Option Addr) (c0 : Nat) (l0 : List (S30)) (a1 r : Int) (w : World) (hr0 : Kd.C k30 w A0 l0.length l0) (hc0 : l0.length ≤ c0) (h : a1e.f k l0 a1 = some r) :
  Calls Try.prog 37 #[.slice A0 l0.length c0, .int .i64 a1] w fun e w' => e = .returned (.int .i64 r) ∧ a2w w w' := by
 have HR0 := am_ hr0
 have HC0 := am_ hc0
 clear hr0 hc0
 have H : (a1e.l0 k l0 a1 0) = some r := h
 clear h
 have H' := am_ H
 clear H
 go_enter Try.func37, Try.ntmps37
 go_wp2
 go_loopg [5] k (fun kq v5 w' => ∃ (x5_1 : Int), v5 = .int .i64 x5_1 ∧ Aside0 (a1e.l0 kq l0 a1 x5_1 = some r) ∧ Aside0 (kq ≤ k) ∧ a2w w w')
 case atStart => exact ⟨(0), qs_, H', ⟨Nat.le_refl _⟩, qy_⟩
 case round =>
  clear H'
  try clear p2
  obtain ⟨x5_1, rfl, HA, HK1, ⟨m1, rfl⟩⟩ := hrel
  cases gk with
  | zero => exact absurd HA.out (by simp [a1e.l0])
  | succ k1 =>
   have H := HA.out
   clear HA
   simp only [a1e.l0] at H
   by_cases c3 : x5_1 < (l0.length : Int)
   ·rw [if_pos c3] at H
    have c3b0 : decide (x5_1 < (l0.length : Int)) = true := decide_eq_true c3
    clear c3
    by_cases c4 : 0 ≤ x5_1
    ·rw [if_pos c4] at H
     have c4b0 : decide (0 ≤ x5_1) = true := decide_eq_true c4
     clear c4
     by_cases c5 : ((a0a l0 x5_1).f0) = a1
     ·rw [if_pos c5] at H
      have c5b0 : (((a0a l0 x5_1).f0) == a1) = true := beq_iff_eq.mpr c5
      have c5b1 : (((a0a l0 x5_1).f0) != a1) = false := bne_eq_false_iff_eq.mpr c5
      clear c5
      obtain rfl := si_ H
      have p359 : 0 ≤ (x5_1 : Int) := ot_
      have q359 : x5_1 < (l0.length : Int) := ot_
      obtain ⟨ad359, e359, hx359_0, hx359_1, hx359_2, hx359_3, hx359_4, hx359_5⟩ := a3c HR0.out x5_1 p359 q359
      cases e359
      replace p359 := eq_true p359
      replace q359 := eq_true q359
      go_wp2
      go_ret
      exact ⟨qs_, qy_⟩
     ·rw [if_neg c5] at H
      have c5b0 : (((a0a l0 x5_1).f0) == a1) = false := beq_eq_false_iff_ne.mpr c5
      have c5b1 : (((a0a l0 x5_1).f0) != a1) = true := bne_iff_ne.mpr c5
      have H' := am_ H
      clear H
      have p359 : 0 ≤ (x5_1 : Int) := ot_
      have q359 : x5_1 < (l0.length : Int) := ot_
      obtain ⟨ad359, e359, hx359_0, hx359_1, hx359_2, hx359_3, hx359_4, hx359_5⟩ := a3c HR0.out x5_1 p359 q359
      cases e359
      replace p359 := eq_true p359
      replace q359 := eq_true q359
      go_wp2
      go_roundg k1
      case measure => have := HK1.out; omega
      case rel => exact ⟨(wrap64 (x5_1 + 1)), qs_, H', ⟨by have := HK1.out; omega⟩, qy_⟩
    ·rw [if_neg c4] at H
     exact absurd H (by simp)
   ·rw [if_neg c3] at H
    have c3b0 : decide (x5_1 < (l0.length : Int)) = false := decide_eq_false c3
    clear c3
    obtain rfl := si_ H
    go_wp2
    go_ret
    exact ⟨qs_, qy_⟩
end Go.Proofs.Ytfbgkcadnmcakaa.Px
