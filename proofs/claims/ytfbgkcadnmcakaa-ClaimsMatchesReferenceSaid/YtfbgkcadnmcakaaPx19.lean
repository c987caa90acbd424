/- Contracts of Go functions, printed. Conditions: as each theorem states. -/
import Derived.Test.YtfbgkcadnmcakaaPx0
namespace Go.Proofs.Ytfbgkcadnmcakaa.Px
open Go.Proofs.Ytfbgkcadnmcakaa.Given
open Go.RowKit Go.Proofs.YtfbgkcadnmcakaaW.PrintWords Go.Proofs.YtfbgkcadnmcakaaW.PrintLast Go.Proofs.YtfbgkcadnmcakaaW.PrintMore
attribute [local go_sem] a2y a2v a3h a3e a2q a2r a2z a3a
set_option linter.unusedVariables false
set_option linter.unusedSimpArgs false
mutual
def a0j.l0 : Nat → List (S26) → Int → Int → Int → Int → Int → Option (Int)
 | 0, _, _, _, _, _, _ => none
 | k + 1, x0, x1, x2, x3, x9, x10 => if x10 < (x0.length : Int) then (if 0 ≤ x10 then (if ((a0c x0 x10).f3) > x2 then (a0j.j1 k x0 x1 x2 x3 x9 x10 true) else (if ((a0c x0 x10).f3) = x2 then (a0j.j1 k x0 x1 x2 x3 x9 x10 (decide (x10 > x3))) else (a0j.j1 k x0 x1 x2 x3 x9 x10 false))) else (none)) else (some x9)
def a0j.j1 : Nat → List (S26) → Int → Int → Int → Int → Int → Bool → Option (Int)
 | 0, _, _, _, _, _, _, _ => none
 | k + 1, x0, x1, x2, x3, x9, x10, x11 => if 0 ≤ x10 then (if x10 < (x0.length : Int) then (if ((a0c x0 x10).f0) = x1 then (a0j.j2 k x0 x1 x2 x3 x9 x10 (!x11)) else (a0j.j2 k x0 x1 x2 x3 x9 x10 true)) else (none)) else (none)
def a0j.j2 : Nat → List (S26) → Int → Int → Int → Int → Int → Bool → Option (Int)
 | 0, _, _, _, _, _, _, _ => none
 | k + 1, x0, x1, x2, x3, x9, x10, x49 => if x49 = true then (a0j.l0 k x0 x1 x2 x3 x9 (wrap64 (x10 + 1))) else (if x9 < 0 then (a0j.l0 k x0 x1 x2 x3 x10 (wrap64 (x10 + 1))) else (if 0 ≤ x10 then (if x10 < (x0.length : Int) then (if 0 ≤ x9 then (if x9 < (x0.length : Int) then (if ((a0c x0 x10).f3) < ((a0c x0 x9).f3) then (a0j.l0 k x0 x1 x2 x3 x10 (wrap64 (x10 + 1))) else (a0j.l0 k x0 x1 x2 x3 x9 (wrap64 (x10 + 1)))) else (none)) else (none)) else (none)) else (none)))
end
def a0j.f (k : Nat) (l0 : List (S26)) (a1 a2 a3 : Int) : Option (Int) := a0j.l0 k l0 a1 a2 a3 (-1) 0
theorem a0j.a1p : ∀ k, (∀ y0 y1 y2 y3 y4 y5, LeO (a0j.l0 k y0 y1 y2 y3 y4 y5) (a0j.l0 (k + 1) y0 y1 y2 y3 y4 y5)) ∧ (∀ y0 y1 y2 y3 y4 y5 y6, LeO (a0j.j1 k y0 y1 y2 y3 y4 y5 y6) (a0j.j1 (k + 1) y0 y1 y2 y3 y4 y5 y6)) ∧ (∀ y0 y1 y2 y3 y4 y5 y6, LeO (a0j.j2 k y0 y1 y2 y3 y4 y5 y6) (a0j.j2 (k + 1) y0 y1 y2 y3 y4 y5 y6))
 | 0 => ⟨fun _ _ _ _ _ _ r h => by simp [a0j.l0] at h, fun _ _ _ _ _ _ _ r h => by simp [a0j.j1] at h, fun _ _ _ _ _ _ _ r h => by simp [a0j.j2] at h⟩
 | k + 1 => by
  obtain ⟨ih0, ih1, ih2⟩ := a0j.a1p k
  refine ⟨?_, ?_, ?_⟩
  ·intro y0 y1 y2 y3 y4 y5
   unfold a0j.l0
   with_reducible (repeat' first | apply ih0 | apply ih1 | apply ih2 | apply LeO.refl | apply LeO.none | apply LeO.ite | refine LeO.bind ?_ (fun _ => ?_))
  ·intro y0 y1 y2 y3 y4 y5 y6
   unfold a0j.j1
   with_reducible (repeat' first | apply ih0 | apply ih1 | apply ih2 | apply LeO.refl | apply LeO.none | apply LeO.ite | refine LeO.bind ?_ (fun _ => ?_))
  ·intro y0 y1 y2 y3 y4 y5 y6
   unfold a0j.j2
   with_reducible (repeat' first | apply ih0 | apply ih1 | apply ih2 | apply LeO.refl | apply LeO.none | apply LeO.ite | refine LeO.bind ?_ (fun _ => ?_))
theorem a0j.mono : ∀ a0 a1 a2 a3 k, LeO (a0j.f k a0 a1 a2 a3) (a0j.f (k + 1) a0 a1 a2 a3) := by
 intro a0 a1 a2 a3 k
 obtain ⟨ih0, ih1, ih2⟩ := a0j.a1p k
 unfold a0j.f
 with_reducible (repeat' first | apply ih0 | apply ih1 | apply ih2 | apply LeO.refl | apply LeO.none | apply LeO.ite | refine LeO.bind ?_ (fun _ => ?_))
set_option maxHeartbeats 8000000 in
set_option maxRecDepth 100000 in
theorem a0j.calls (k : Nat) (A0 : Option Addr) (c0 : Nat) (l0 : List (S26)) (a1 a2 a3 r : Int) (w : World) (hr0 : Kd.C k26 w A0 l0.length l0) (hc0 : l0.length ≤ c0) (h : a0j.f k l0 a1 a2 a3 = some r) :
  Calls Try.prog 52 #[.slice A0 l0.length c0, .int .i64 a1, .int .i64 a2, .int .i64 a3] w fun e w' => e = .returned (.int .i64 r) ∧ a2w w w' := by
 have HR0 := am_ hr0
 have HC0 := am_ hc0
 clear hr0 hc0
 have H : (a0j.l0 k l0 a1 a2 a3 (-1) 0) = some r := h
 clear h
 have H' := am_ H
 clear H
 go_enter Try.func52, Try.ntmps52
 go_wp2
 repeat (go_quiet (fail); try go_wp2)
 go_loopg [9, 10] k (fun kq v9 v10 w' => ∃ (x9_1 : Int) (x10_1 : Int), v9 = .int .i64 x9_1 ∧ v10 = .int .i64 x10_1 ∧ Aside0 (a0j.l0 kq l0 a1 a2 a3 x9_1 x10_1 = some r) ∧ Aside0 (kq ≤ k) ∧ a2w w w')
 case atStart => exact ⟨((-1)), (0), qs_, qs_, H', ⟨Nat.le_refl _⟩, qy_⟩
 case round =>
  clear H'
  try clear p2
  obtain ⟨x9_1, x10_1, rfl, rfl, HA, HK1, ⟨m1, rfl⟩⟩ := hrel
  cases gk with
  | zero => exact absurd HA.out (by simp [a0j.l0])
  | succ k1 =>
   have H := HA.out
   clear HA
   simp only [a0j.l0] at H
   by_cases c5 : x10_1 < (l0.length : Int)
   ·rw [if_pos c5] at H
    have c5b0 : decide (x10_1 < (l0.length : Int)) = true := decide_eq_true c5
    clear c5
    have HC6 := am_ H
    clear H
    go_upto_region 5 with (fail)
    repeat (go_quiet (fail); go_upto_region 5 with (fail))
    go_cut [11] (fun v11 wc => ∃ (kq : Nat) (x11_5 : Bool), v11 = .bool x11_5 ∧ Aside0 (a0j.j1 kq l0 a1 a2 a3 x9_1 x10_1 x11_5 = some r) ∧ Aside0 (kq ≤ k1) ∧ a2w w wc)
    case first =>
     have H := HC6.out
     clear HC6
     by_cases c7 : 0 ≤ x10_1
     ·rw [if_pos c7] at H
      have c7b0 : decide (0 ≤ x10_1) = true := decide_eq_true c7
      clear c7
      (first | rw [c7b0] | (simp only [a2x, a3m]; rw [c7b0]) | skip)
      by_cases c8 : ((a0c l0 x10_1).f3) > a2
      ·rw [if_pos c8] at H
       have c8b0 : decide (a2 < ((a0c l0 x10_1).f3)) = true := decide_eq_true c8
       clear c8
       have H' := am_ H
       clear H
       have p340 : 0 ≤ (x10_1 : Int) := ot_
       have q340 : x10_1 < (l0.length : Int) := ot_
       obtain ⟨ad340, e340, hx340_0, hx340_1, hx340_2, hx340_3⟩ := a2j HR0.out x10_1 p340 q340
       cases e340
       replace p340 := eq_true p340
       replace q340 := eq_true q340
       go_wp2
       repeat (go_quiet (fail); try go_wp2)
       go_meet
       case rel => exact ⟨_, (true), qs_, H', ⟨by have := HK1.out; first | omega | exact Nat.le_refl _⟩, qy_⟩
      ·rw [if_neg c8] at H
       have c8b0 : decide (a2 < ((a0c l0 x10_1).f3)) = false := decide_eq_false c8
       clear c8
       by_cases c9 : ((a0c l0 x10_1).f3) = a2
       ·rw [if_pos c9] at H
        have c9b0 : (((a0c l0 x10_1).f3) == a2) = true := beq_iff_eq.mpr c9
        have c9b1 : (((a0c l0 x10_1).f3) != a2) = false := bne_eq_false_iff_eq.mpr c9
        clear c9
        have H' := am_ H
        clear H
        have p340 : 0 ≤ (x10_1 : Int) := ot_
        have q340 : x10_1 < (l0.length : Int) := ot_
        obtain ⟨ad340, e340, hx340_0, hx340_1, hx340_2, hx340_3⟩ := a2j HR0.out x10_1 p340 q340
        cases e340
        replace p340 := eq_true p340
        replace q340 := eq_true q340
        have p341 : 0 ≤ (x10_1 : Int) := ot_
        have q341 : x10_1 < (l0.length : Int) := ot_
        obtain ⟨ad341, e341, hx341_0, hx341_1, hx341_2, hx341_3⟩ := a2j HR0.out x10_1 p341 q341
        obtain rfl : ad340 = ad341 := (by injection e341)
        replace p341 := eq_true p341
        replace q341 := eq_true q341
        go_wp2
        repeat (go_quiet (fail); try go_wp2)
        go_meet
        case rel => exact ⟨_, (decide (x10_1 > a3)), qs_, H', ⟨by have := HK1.out; first | omega | exact Nat.le_refl _⟩, qy_⟩
       ·rw [if_neg c9] at H
        have c9b0 : (((a0c l0 x10_1).f3) == a2) = false := beq_eq_false_iff_ne.mpr c9
        have c9b1 : (((a0c l0 x10_1).f3) != a2) = true := bne_iff_ne.mpr c9
        have H' := am_ H
        clear H
        have p340 : 0 ≤ (x10_1 : Int) := ot_
        have q340 : x10_1 < (l0.length : Int) := ot_
        obtain ⟨ad340, e340, hx340_0, hx340_1, hx340_2, hx340_3⟩ := a2j HR0.out x10_1 p340 q340
        cases e340
        replace p340 := eq_true p340
        replace q340 := eq_true q340
        have p341 : 0 ≤ (x10_1 : Int) := ot_
        have q341 : x10_1 < (l0.length : Int) := ot_
        obtain ⟨ad341, e341, hx341_0, hx341_1, hx341_2, hx341_3⟩ := a2j HR0.out x10_1 p341 q341
        obtain rfl : ad340 = ad341 := (by injection e341)
        replace p341 := eq_true p341
        replace q341 := eq_true q341
        go_wp2
        repeat (go_quiet (fail); try go_wp2)
        go_meet
        case rel => exact ⟨_, (false), qs_, H', ⟨by have := HK1.out; first | omega | exact Nat.le_refl _⟩, qy_⟩
     ·rw [if_neg c7] at H
      exact absurd H (by simp)
    case rest =>
     clear HC6
     try clear p2
     try clear p3
     try clear q3
     try clear hx3
     try clear c5
     try clear c5b0
     try clear c7
     try clear c7b0
     try clear c8
     try clear c8b0
     try clear c9
     try clear c9b0
     try clear c9b1
     try clear hx340_0
     try clear hx340_1
     try clear hx340_2
     try clear hx340_3
     try clear hx341_0
     try clear hx341_1
     try clear hx341_2
     try clear hx341_3
     try clear p2
     try clear p340
     try clear p341
     try clear q340
     try clear q341
     obtain ⟨kq, x11_5, rfl, HA, HJ5, ⟨mc5, rfl⟩⟩ := hcut
     cases kq with
     | zero => exact absurd HA.out (by simp [a0j.j1])
     | succ kj5 =>
      have H := HA.out
      clear HA
      simp only [a0j.j1] at H
      have HC10 := am_ H
      clear H
      go_upto_region 6 with (fail)
      repeat (go_quiet (fail); go_upto_region 6 with (fail))
      go_cut [49] (fun v49 wc => ∃ (kq : Nat) (x49_9 : Bool), v49 = .bool x49_9 ∧ Aside0 (a0j.j2 kq l0 a1 a2 a3 x9_1 x10_1 x49_9 = some r) ∧ Aside0 (kq ≤ kj5) ∧ a2w w wc)
      case first =>
       have H := HC10.out
       clear HC10
       by_cases c11 : 0 ≤ x10_1
       ·rw [if_pos c11] at H
        have c11b0 : decide (0 ≤ x10_1) = true := decide_eq_true c11
        clear c11
        (first | rw [c11b0] | (simp only [a2x, a3m]; rw [c11b0]) | skip)
        by_cases c12 : x10_1 < (l0.length : Int)
        ·rw [if_pos c12] at H
         have c12b0 : decide (x10_1 < (l0.length : Int)) = true := decide_eq_true c12
         clear c12
         by_cases c13 : ((a0c l0 x10_1).f0) = a1
         ·rw [if_pos c13] at H
          have c13b0 : (((a0c l0 x10_1).f0) == a1) = true := beq_iff_eq.mpr c13
          have c13b1 : (((a0c l0 x10_1).f0) != a1) = false := bne_eq_false_iff_eq.mpr c13
          clear c13
          have H' := am_ H
          clear H
          have p342 : 0 ≤ (x10_1 : Int) := ot_
          have q342 : x10_1 < (l0.length : Int) := ot_
          obtain ⟨ad342, e342, hx342_0, hx342_1, hx342_2, hx342_3⟩ := a2j HR0.out x10_1 p342 q342
          cases e342
          replace p342 := eq_true p342
          replace q342 := eq_true q342
          go_wp2
          repeat (go_quiet (fail); try go_wp2)
          go_meet
          case rel => exact ⟨_, (!x11_5), qs_, H', ⟨by have := HK1.out; have := HJ5.out; first | omega | exact Nat.le_refl _⟩, qy_⟩
         ·rw [if_neg c13] at H
          have c13b0 : (((a0c l0 x10_1).f0) == a1) = false := beq_eq_false_iff_ne.mpr c13
          have c13b1 : (((a0c l0 x10_1).f0) != a1) = true := bne_iff_ne.mpr c13
          have H' := am_ H
          clear H
          have p342 : 0 ≤ (x10_1 : Int) := ot_
          have q342 : x10_1 < (l0.length : Int) := ot_
          obtain ⟨ad342, e342, hx342_0, hx342_1, hx342_2, hx342_3⟩ := a2j HR0.out x10_1 p342 q342
          cases e342
          replace p342 := eq_true p342
          replace q342 := eq_true q342
          go_wp2
          repeat (go_quiet (fail); try go_wp2)
          go_meet
          case rel => exact ⟨_, (true), qs_, H', ⟨by have := HK1.out; have := HJ5.out; first | omega | exact Nat.le_refl _⟩, qy_⟩
        ·rw [if_neg c12] at H
         exact absurd H (by simp)
       ·rw [if_neg c11] at H
        exact absurd H (by simp)
      case rest =>
       clear HC10
       try clear c1
       try clear p2
       try clear p3
       try clear q3
       try clear hx3
       try clear c5
       try clear c5b0
       try clear c7
       try clear c7b0
       try clear c8
       try clear c8b0
       try clear c9
       try clear c9b0
       try clear c9b1
       try clear c11
       try clear c11b0
       try clear c12
       try clear c12b0
       try clear c13
       try clear c13b0
       try clear c13b1
       try clear hx340_0
       try clear hx340_1
       try clear hx340_2
       try clear hx340_3
       try clear hx341_0
       try clear hx341_1
       try clear hx341_2
       try clear hx341_3
       try clear hx342_0
       try clear hx342_1
       try clear hx342_2
       try clear hx342_3
       try clear p2
       try clear p3
       try clear p340
       try clear p341
       try clear p342
       try clear q3
       try clear q340
       try clear q341
       try clear q342
       obtain ⟨kq, x49_9, rfl, HA, HJ9, ⟨mc9, rfl⟩⟩ := hcut
       cases kq with
       | zero => exact absurd HA.out (by simp [a0j.j2])
       | succ kj9 =>
        have H := HA.out
        clear HA
        simp only [a0j.j2] at H
        by_cases c14 : x49_9 = true
        ·subst c14
         have H1 : (a0j.l0 kj9 l0 a1 a2 a3 x9_1 (wrap64 (x10_1 + 1))) = some r := by rw [if_pos rfl] at H; exact H
         clear H
         have H := H1
         clear H1
         have H' := am_ H
         clear H
         go_wp2
         repeat (go_quiet (fail); try go_wp2)
         go_roundg kj9
         case measure => have := HK1.out; have := HJ5.out; have := HJ9.out; omega
         case rel => exact ⟨(x9_1), (wrap64 (x10_1 + 1)), qs_, qs_, H', ⟨by have := HK1.out; have := HJ5.out; have := HJ9.out; omega⟩, qy_⟩
        ·replace c14 := be_ c14
         subst c14
         have H1 : (if x9_1 < 0 then (a0j.l0 kj9 l0 a1 a2 a3 x10_1 (wrap64 (x10_1 + 1))) else (if 0 ≤ x10_1 then (if x10_1 < (l0.length : Int) then (if 0 ≤ x9_1 then (if x9_1 < (l0.length : Int) then (if ((a0c l0 x10_1).f3) < ((a0c l0 x9_1).f3) then (a0j.l0 kj9 l0 a1 a2 a3 x10_1 (wrap64 (x10_1 + 1))) else (a0j.l0 kj9 l0 a1 a2 a3 x9_1 (wrap64 (x10_1 + 1)))) else (none)) else (none)) else (none)) else (none))) = some r := by rw [if_neg (show ¬ (false = true) by decide)] at H; exact H
         clear H
         have H := H1
         clear H1
         by_cases c15 : x9_1 < 0
         ·rw [if_pos c15] at H
          have c15b0 : decide (x9_1 < 0) = true := decide_eq_true c15
          clear c15
          have H' := am_ H
          clear H
          go_wp2
          repeat (go_quiet (fail); try go_wp2)
          go_roundg kj9
          case measure => have := HK1.out; have := HJ5.out; have := HJ9.out; omega
          case rel => exact ⟨(x10_1), (wrap64 (x10_1 + 1)), qs_, qs_, H', ⟨by have := HK1.out; have := HJ5.out; have := HJ9.out; omega⟩, qy_⟩
         ·rw [if_neg c15] at H
          have c15b0 : decide (x9_1 < 0) = false := decide_eq_false c15
          clear c15
          by_cases c16 : 0 ≤ x10_1
          ·rw [if_pos c16] at H
           have c16b0 : decide (0 ≤ x10_1) = true := decide_eq_true c16
           clear c16
           by_cases c17 : x10_1 < (l0.length : Int)
           ·rw [if_pos c17] at H
            have c17b0 : decide (x10_1 < (l0.length : Int)) = true := decide_eq_true c17
            clear c17
            by_cases c18 : 0 ≤ x9_1
            ·rw [if_pos c18] at H
             have c18b0 : decide (0 ≤ x9_1) = true := decide_eq_true c18
             clear c18
             by_cases c19 : x9_1 < (l0.length : Int)
             ·rw [if_pos c19] at H
              have c19b0 : decide (x9_1 < (l0.length : Int)) = true := decide_eq_true c19
              clear c19
              by_cases c20 : ((a0c l0 x10_1).f3) < ((a0c l0 x9_1).f3)
              ·rw [if_pos c20] at H
               have c20b0 : decide (((a0c l0 x10_1).f3) < ((a0c l0 x9_1).f3)) = true := decide_eq_true c20
               clear c20
               have H' := am_ H
               clear H
               have p343 : 0 ≤ (x10_1 : Int) := ot_
               have q343 : x10_1 < (l0.length : Int) := ot_
               obtain ⟨ad343, e343, hx343_0, hx343_1, hx343_2, hx343_3⟩ := a2j HR0.out x10_1 p343 q343
               cases e343
               replace p343 := eq_true p343
               replace q343 := eq_true q343
               have p344 : 0 ≤ (x9_1 : Int) := ot_
               have q344 : x9_1 < (l0.length : Int) := ot_
               obtain ⟨ad344, e344, hx344_0, hx344_1, hx344_2, hx344_3⟩ := a2j HR0.out x9_1 p344 q344
               obtain rfl : ad343 = ad344 := (by injection e344)
               replace p344 := eq_true p344
               replace q344 := eq_true q344
               go_wp2
               repeat (go_quiet (fail); try go_wp2)
               go_roundg kj9
               case measure => have := HK1.out; have := HJ5.out; have := HJ9.out; omega
               case rel => exact ⟨(x10_1), (wrap64 (x10_1 + 1)), qs_, qs_, H', ⟨by have := HK1.out; have := HJ5.out; have := HJ9.out; omega⟩, qy_⟩
              ·rw [if_neg c20] at H
               have c20b0 : decide (((a0c l0 x10_1).f3) < ((a0c l0 x9_1).f3)) = false := decide_eq_false c20
               clear c20
               have H' := am_ H
               clear H
               have p343 : 0 ≤ (x10_1 : Int) := ot_
               have q343 : x10_1 < (l0.length : Int) := ot_
               obtain ⟨ad343, e343, hx343_0, hx343_1, hx343_2, hx343_3⟩ := a2j HR0.out x10_1 p343 q343
               cases e343
               replace p343 := eq_true p343
               replace q343 := eq_true q343
               have p344 : 0 ≤ (x9_1 : Int) := ot_
               have q344 : x9_1 < (l0.length : Int) := ot_
               obtain ⟨ad344, e344, hx344_0, hx344_1, hx344_2, hx344_3⟩ := a2j HR0.out x9_1 p344 q344
               obtain rfl : ad343 = ad344 := (by injection e344)
               replace p344 := eq_true p344
               replace q344 := eq_true q344
               go_wp2
               repeat (go_quiet (fail); try go_wp2)
               go_roundg kj9
               case measure => have := HK1.out; have := HJ5.out; have := HJ9.out; omega
               case rel => exact ⟨(x9_1), (wrap64 (x10_1 + 1)), qs_, qs_, H', ⟨by have := HK1.out; have := HJ5.out; have := HJ9.out; omega⟩, qy_⟩
             ·rw [if_neg c19] at H
              exact absurd H (by simp)
            ·rw [if_neg c18] at H
             exact absurd H (by simp)
           ·rw [if_neg c17] at H
            exact absurd H (by simp)
          ·rw [if_neg c16] at H
           exact absurd H (by simp)
   ·rw [if_neg c5] at H
    have c5b0 : decide (x10_1 < (l0.length : Int)) = false := decide_eq_false c5
    clear c5
    obtain rfl := si_ H
    go_wp2
    repeat (go_quiet (fail); try go_wp2)
    go_ret
    exact ⟨qs_, qy_⟩
end Go.Proofs.Ytfbgkcadnmcakaa.Px
