/- Contracts of Go functions, printed. Conditions: as each theorem states. -/
import Derived.Test.YtemnlgefngjliaaPx0
import Derived.Test.YtemnlgefngjliaaPx17
namespace Go.Proofs.Ytemnlgefngjliaa.Px
open Go.Proofs.Ytemnlgefngjliaa.Given
open Go.RowKit Go.Proofs.YtemnlgefngjliaaW.PrintWords Go.Proofs.YtemnlgefngjliaaW.PrintLast Go.Proofs.YtemnlgefngjliaaW.PrintMore
attribute [local go_sem] a2k a2l a2x a2y a2b a2c a2m a2n
set_option linter.unusedVariables false
set_option linter.unusedSimpArgs false
mutual
def a0p.l0 : Nat → List Int → Int → Option (Bool)
 | 0, _, _ => none
 | k + 1, x0, x3 => if x3 < (x0.length : Int) then (if 0 ≤ x3 then ((RcIn.f (rd x0 x3)).bind fun t413 => (if t413 = true then (if x3 > 0 then (if 0 ≤ (wrap64 (x3 - 1)) then (if (wrap64 (x3 - 1)) < (x0.length : Int) then (a0p.j1 k x0 x3 (decide ((rd x0 x3) ≤ (rd x0 (wrap64 (x3 - 1)))))) else (none)) else (none)) else (a0p.j1 k x0 x3 false)) else (a0p.j1 k x0 x3 true))) else (none)) else (some true)
def a0p.j1 : Nat → List Int → Int → Bool → Option (Bool)
 | 0, _, _, _ => none
 | k + 1, x0, x3, x34 => if x34 = true then (some false) else (a0p.l0 k x0 (wrap64 (x3 + 1)))
end
def a0p.f (k : Nat) (l0 : List Int) : Option (Bool) := if (l0.length : Int) > 100 then (some false) else (a0p.l0 k l0 0)
theorem a0p.a0z : ∀ k, (∀ y0 y1, LeO (a0p.l0 k y0 y1) (a0p.l0 (k + 1) y0 y1)) ∧ (∀ y0 y1 y2, LeO (a0p.j1 k y0 y1 y2) (a0p.j1 (k + 1) y0 y1 y2))
 | 0 => ⟨fun _ _ r h => by simp [a0p.l0] at h, fun _ _ _ r h => by simp [a0p.j1] at h⟩
 | k + 1 => by
  obtain ⟨ih0, ih1⟩ := a0p.a0z k
  refine ⟨?_, ?_⟩
  ·intro y0 y1
   unfold a0p.l0
   with_reducible (repeat' first | apply ih0 | apply ih1 | apply LeO.refl | apply LeO.none | apply LeO.ite | refine LeO.bind ?_ (fun _ => ?_))
  ·intro y0 y1 y2
   unfold a0p.j1
   with_reducible (repeat' first | apply ih0 | apply ih1 | apply LeO.refl | apply LeO.none | apply LeO.ite | refine LeO.bind ?_ (fun _ => ?_))
theorem a0p.mono : ∀ a0 k, LeO (a0p.f k a0) (a0p.f (k + 1) a0) := by
 intro a0 k
 obtain ⟨ih0, ih1⟩ := a0p.a0z k
 unfold a0p.f
 with_reducible (repeat' first | apply ih0 | apply ih1 | apply LeO.refl | apply LeO.none | apply LeO.ite | refine LeO.bind ?_ (fun _ => ?_))
set_option maxHeartbeats 8000000 in
set_option maxRecDepth 100000 in
theorem a0p.calls (k : Nat) (A0 : Option Addr) (c0 : Nat) (l0 : List Int) (r : Bool) (w : World) (hr0 : Kd.C (Kd.int .i64) w A0 l0.length l0) (hc0 : l0.length ≤ c0) (h : a0p.f k l0 = some r) :
  Calls Try.prog 26 #[.slice A0 l0.length c0] w fun e w' => e = .returned (.bool r) ∧ a1e w w' := by
 have HR0 := am_ hr0
 have HC0 := am_ hc0
 clear hr0 hc0
 have H : (if (l0.length : Int) > 100 then (some false) else (a0p.l0 k l0 0)) = some r := h
 clear h
 by_cases c2 : (l0.length : Int) > 100
 ·rw [if_pos c2] at H
  have c2b0 : decide (100 < (l0.length : Int)) = true := decide_eq_true c2
  have c2b1 : decide (100 < l0.length) = true := decide_eq_true (by omega)
  clear c2
  obtain rfl := si_ H
  go_enter Try.func26, Try.ntmps26
  go_wp2
  repeat (go_quiet (fail); try go_wp2)
  go_ret
  exact ⟨qs_, qy_⟩
 ·rw [if_neg c2] at H
  have c2b0 : decide (100 < (l0.length : Int)) = false := decide_eq_false c2
  have c2b1 : decide (100 < l0.length) = false := decide_eq_false (by omega)
  clear c2
  have H' := am_ H
  clear H
  go_enter Try.func26, Try.ntmps26
  go_wp2
  repeat (go_quiet (fail); try go_wp2)
  go_loopg [3] k (fun kq v3 w' => ∃ (x3_1 : Int), v3 = .int .i64 x3_1 ∧ Aside0 (a0p.l0 kq l0 x3_1 = some r) ∧ Aside0 (kq ≤ k) ∧ a1e w w')
  case atStart => exact ⟨(0), qs_, H', ⟨Nat.le_refl _⟩, qy_⟩
  case round =>
   clear H'
   try clear c2
   try clear c2b0
   try clear c2b1
   try clear p2
   obtain ⟨x3_1, rfl, HA, HK1, ⟨m1, rfl⟩⟩ := hrel
   cases gk with
   | zero => exact absurd HA.out (by simp [a0p.l0])
   | succ k1 =>
    have H := HA.out
    clear HA
    simp only [a0p.l0] at H
    by_cases c3 : x3_1 < (l0.length : Int)
    ·rw [if_pos c3] at H
     have c3b0 : decide (x3_1 < (l0.length : Int)) = true := decide_eq_true c3
     clear c3
     have HC4 := am_ H
     clear H
     go_upto_region 6 with (fail)
     repeat (go_quiet (fail); go_upto_region 6 with (fail))
     go_cut [34] (fun v34 wc => ∃ (kq : Nat) (x34_3 : Bool), v34 = .bool x34_3 ∧ Aside0 (a0p.j1 kq l0 x3_1 x34_3 = some r) ∧ Aside0 (kq ≤ k1) ∧ a1e w wc)
     case first =>
      have H := HC4.out
      clear HC4
      by_cases c5 : 0 ≤ x3_1
      ·rw [if_pos c5] at H
       have c5b0 : decide (0 ≤ x3_1) = true := decide_eq_true c5
       clear c5
       (first | rw [c5b0] | (simp only [a2q, a3i]; rw [c5b0]) | skip)
       replace H := bm_ H
       obtain ⟨t413, A60, H⟩ := H
       replace H : (if t413 = true then (if x3_1 > 0 then (if 0 ≤ (wrap64 (x3_1 - 1)) then (if (wrap64 (x3_1 - 1)) < (l0.length : Int) then (a0p.j1 k1 l0 x3_1 (decide ((rd l0 x3_1) ≤ (rd l0 (wrap64 (x3_1 - 1)))))) else (none)) else (none)) else (a0p.j1 k1 l0 x3_1 false)) else (a0p.j1 k1 l0 x3_1 true)) = some r := H
       have A6 := am_ A60
       clear A60
       by_cases c7 : t413 = true
       ·subst c7
        have H1 : (if x3_1 > 0 then (if 0 ≤ (wrap64 (x3_1 - 1)) then (if (wrap64 (x3_1 - 1)) < (l0.length : Int) then (a0p.j1 k1 l0 x3_1 (decide ((rd l0 x3_1) ≤ (rd l0 (wrap64 (x3_1 - 1)))))) else (none)) else (none)) else (a0p.j1 k1 l0 x3_1 false)) = some r := by rw [if_pos rfl] at H; exact H
        clear H
        have H := H1
        clear H1
        by_cases c8 : x3_1 > 0
        ·rw [if_pos c8] at H
         have c8b0 : decide (0 < x3_1) = true := decide_eq_true c8
         clear c8
         obtain ⟨ji9, hji9⟩ : ∃ j_ : Int, (wrap64 (x3_1 - 1)) = j_ := ⟨_, rfl⟩
         replace H : (if 0 ≤ (ji9) then (if (ji9) < (l0.length : Int) then (a0p.j1 k1 l0 x3_1 (decide ((rd l0 x3_1) ≤ (rd l0 (ji9))))) else (none)) else (none)) = some r := by first | (rw [hji9] at H; exact H) | (simp only [hji9] at H ⊢; exact H)
         (try rw [hji9] at A6)
         have hji9w : (IntKind.i64.wrap (x3_1 - 1)) = ji9 := (a2q _).trans hji9
         by_cases c10 : 0 ≤ (ji9)
         ·rw [if_pos c10] at H
          have c10b0 : decide (0 ≤ (ji9)) = true := decide_eq_true c10
          clear c10
          by_cases c11 : (ji9) < (l0.length : Int)
          ·rw [if_pos c11] at H
           have c11b0 : decide ((ji9) < (l0.length : Int)) = true := decide_eq_true c11
           clear c11
           have H' := am_ H
           clear H
           have p412 : 0 ≤ (x3_1 : Int) := ot_
           have q412 : x3_1 < (l0.length : Int) := ot_
           obtain ⟨ad412, e412, hx412_0⟩ := Kd.a1v HR0.out x3_1 p412 q412
           cases e412
           replace p412 := eq_true p412
           replace q412 := eq_true q412
           go_wp2_with (first | (go_at_call 39; (with_reducible refine (RcIn.calls (rd l0 x3_1) true _ A6.out).mono ?_); rintro e w' ⟨rfl, ⟨nd, rfl⟩⟩; (try exact qw_); have p414 : 0 ≤ (x3_1 : Int) := ot_; have q414 : x3_1 < (l0.length : Int) := ot_; obtain ⟨ad414, e414, hx414_0⟩ := Kd.a1v HR0.out x3_1 p414 q414; obtain rfl : ad412 = ad414 := (by injection e414); replace p414 := eq_true p414; replace q414 := eq_true q414; have p415 : 0 ≤ ((ji9) : Int) := ot_; have q415 : (ji9) < (l0.length : Int) := ot_; obtain ⟨ad415, e415, hx415_0⟩ := Kd.a1v HR0.out (ji9) p415 q415; obtain rfl : ad412 = ad415 := (by injection e415); replace p415 := eq_true p415; replace q415 := eq_true q415))
           repeat (go_quiet (first | (go_at_call 39; (with_reducible refine (RcIn.calls (rd l0 x3_1) true _ A6.out).mono ?_); rintro e w' ⟨rfl, ⟨nd, rfl⟩⟩; (try exact qw_); have p414 : 0 ≤ (x3_1 : Int) := ot_; have q414 : x3_1 < (l0.length : Int) := ot_; obtain ⟨ad414, e414, hx414_0⟩ := Kd.a1v HR0.out x3_1 p414 q414; obtain rfl : ad412 = ad414 := (by injection e414); replace p414 := eq_true p414; replace q414 := eq_true q414; have p415 : 0 ≤ ((ji9) : Int) := ot_; have q415 : (ji9) < (l0.length : Int) := ot_; obtain ⟨ad415, e415, hx415_0⟩ := Kd.a1v HR0.out (ji9) p415 q415; obtain rfl : ad412 = ad415 := (by injection e415); replace p415 := eq_true p415; replace q415 := eq_true q415)); try go_wp2_with (first | (go_at_call 39; (with_reducible refine (RcIn.calls (rd l0 x3_1) true _ A6.out).mono ?_); rintro e w' ⟨rfl, ⟨nd, rfl⟩⟩; (try exact qw_); have p414 : 0 ≤ (x3_1 : Int) := ot_; have q414 : x3_1 < (l0.length : Int) := ot_; obtain ⟨ad414, e414, hx414_0⟩ := Kd.a1v HR0.out x3_1 p414 q414; obtain rfl : ad412 = ad414 := (by injection e414); replace p414 := eq_true p414; replace q414 := eq_true q414; have p415 : 0 ≤ ((ji9) : Int) := ot_; have q415 : (ji9) < (l0.length : Int) := ot_; obtain ⟨ad415, e415, hx415_0⟩ := Kd.a1v HR0.out (ji9) p415 q415; obtain rfl : ad412 = ad415 := (by injection e415); replace p415 := eq_true p415; replace q415 := eq_true q415)))
           try subst hji9
           go_meet
           case rel => exact ⟨_, (decide ((rd l0 x3_1) ≤ (rd l0 ((wrap64 (x3_1 - 1)))))), (by first | rfl | (simp; done) | (simp only [← hji9] <;> (first | rfl | simp)) | (simp [*]; done)), H', ⟨by have := HK1.out; first | omega | exact Nat.le_refl _⟩, qy_⟩
          ·rw [if_neg c11] at H
           exact absurd H (by simp)
         ·rw [if_neg c10] at H
          exact absurd H (by simp)
        ·rw [if_neg c8] at H
         have c8b0 : decide (0 < x3_1) = false := decide_eq_false c8
         clear c8
         have H' := am_ H
         clear H
         have p412 : 0 ≤ (x3_1 : Int) := ot_
         have q412 : x3_1 < (l0.length : Int) := ot_
         obtain ⟨ad412, e412, hx412_0⟩ := Kd.a1v HR0.out x3_1 p412 q412
         cases e412
         replace p412 := eq_true p412
         replace q412 := eq_true q412
         go_wp2_with (first | (go_at_call 39; (with_reducible refine (RcIn.calls (rd l0 x3_1) true _ A6.out).mono ?_); rintro e w' ⟨rfl, ⟨nd, rfl⟩⟩; (try exact qw_)))
         repeat (go_quiet (first | (go_at_call 39; (with_reducible refine (RcIn.calls (rd l0 x3_1) true _ A6.out).mono ?_); rintro e w' ⟨rfl, ⟨nd, rfl⟩⟩; (try exact qw_))); try go_wp2_with (first | (go_at_call 39; (with_reducible refine (RcIn.calls (rd l0 x3_1) true _ A6.out).mono ?_); rintro e w' ⟨rfl, ⟨nd, rfl⟩⟩; (try exact qw_))))
         go_meet
         case rel => exact ⟨_, (false), qs_, H', ⟨by have := HK1.out; first | omega | exact Nat.le_refl _⟩, qy_⟩
       ·replace c7 := be_ c7
        subst c7
        have H1 : (a0p.j1 k1 l0 x3_1 true) = some r := by rw [if_neg (show ¬ (false = true) by decide)] at H; exact H
        clear H
        have H := H1
        clear H1
        have H' := am_ H
        clear H
        have p412 : 0 ≤ (x3_1 : Int) := ot_
        have q412 : x3_1 < (l0.length : Int) := ot_
        obtain ⟨ad412, e412, hx412_0⟩ := Kd.a1v HR0.out x3_1 p412 q412
        cases e412
        replace p412 := eq_true p412
        replace q412 := eq_true q412
        go_wp2_with (first | (go_at_call 39; (with_reducible refine (RcIn.calls (rd l0 x3_1) false _ A6.out).mono ?_); rintro e w' ⟨rfl, ⟨nd, rfl⟩⟩; (try exact qw_)))
        repeat (go_quiet (first | (go_at_call 39; (with_reducible refine (RcIn.calls (rd l0 x3_1) false _ A6.out).mono ?_); rintro e w' ⟨rfl, ⟨nd, rfl⟩⟩; (try exact qw_))); try go_wp2_with (first | (go_at_call 39; (with_reducible refine (RcIn.calls (rd l0 x3_1) false _ A6.out).mono ?_); rintro e w' ⟨rfl, ⟨nd, rfl⟩⟩; (try exact qw_))))
        go_meet
        case rel => exact ⟨_, (true), qs_, H', ⟨by have := HK1.out; first | omega | exact Nat.le_refl _⟩, qy_⟩
      ·rw [if_neg c5] at H
       exact absurd H (by simp)
     case rest =>
      clear HC4
      try clear c1
      try clear c2
      try clear c2b0
      try clear c2b1
      try clear p2
      try clear c3
      try clear c3b0
      try clear p4
      try clear q4
      try clear hx4
      try clear c5
      try clear c5b0
      try clear p6
      try clear c7
      try clear c8
      try clear c8b0
      try clear c10
      try clear c10b0
      try clear c11
      try clear c11b0
      try clear hx412_0
      try clear hx414_0
      try clear hx415_0
      try clear p2
      try clear p412
      try clear p414
      try clear p415
      try clear q412
      try clear q414
      try clear q415
      obtain ⟨kq, x34_3, rfl, HA, HJ3, ⟨mc3, rfl⟩⟩ := hcut
      cases kq with
      | zero => exact absurd HA.out (by simp [a0p.j1])
      | succ kj3 =>
       have H := HA.out
       clear HA
       simp only [a0p.j1] at H
       by_cases c12 : x34_3 = true
       ·subst c12
        have H1 : (some false) = some r := by rw [if_pos rfl] at H; exact H
        clear H
        have H := H1
        clear H1
        obtain rfl := si_ H
        go_wp2
        repeat (go_quiet (fail); try go_wp2)
        go_ret
        exact ⟨qs_, qy_⟩
       ·replace c12 := be_ c12
        subst c12
        have H1 : (a0p.l0 kj3 l0 (wrap64 (x3_1 + 1))) = some r := by rw [if_neg (show ¬ (false = true) by decide)] at H; exact H
        clear H
        have H := H1
        clear H1
        have H' := am_ H
        clear H
        go_wp2
        repeat (go_quiet (fail); try go_wp2)
        go_roundg kj3
        case measure => have := HK1.out; have := HJ3.out; omega
        case rel => exact ⟨(wrap64 (x3_1 + 1)), qs_, H', ⟨by have := HK1.out; have := HJ3.out; omega⟩, qy_⟩
    ·rw [if_neg c3] at H
     have c3b0 : decide (x3_1 < (l0.length : Int)) = false := decide_eq_false c3
     clear c3
     obtain rfl := si_ H
     go_wp2
     repeat (go_quiet (fail); try go_wp2)
     go_ret
     exact ⟨qs_, qy_⟩
def a3r.l0 : Nat → Int → List Int → Int → Option (Bool)
 | 0, _, _, _ => none
 | k + 1, x0, x1, x5 => if x5 < (x1.length : Int) then (if 0 ≤ x5 then (if (rd x1 x5) = x0 then (some false) else (a3r.l0 k x0 x1 (wrap64 (x5 + 1)))) else (none)) else (some (decide ((Int.tmod (wrap64 (x0 + 5)) 7) < 5)))
def a3r.f (k : Nat) (a0 : Int) (l1 : List Int) : Option (Bool) := a3r.l0 k a0 l1 0
theorem a3r.a0z : ∀ k, (∀ y0 y1 y2, LeO (a3r.l0 k y0 y1 y2) (a3r.l0 (k + 1) y0 y1 y2))
 | 0 => fun _ _ _ r h => by simp [a3r.l0] at h
 | k + 1 => by
  have ih0 := a3r.a0z k
  ·intro y0 y1 y2
   unfold a3r.l0
   with_reducible (repeat' first | apply ih0 | apply LeO.refl | apply LeO.none | apply LeO.ite | refine LeO.bind ?_ (fun _ => ?_))
theorem a3r.mono : ∀ a0 a1 k, LeO (a3r.f k a0 a1) (a3r.f (k + 1) a0 a1) := by
 intro a0 a1 k
 have ih0 := a3r.a0z k
 unfold a3r.f
 with_reducible (repeat' first | apply ih0 | apply LeO.refl | apply LeO.none | apply LeO.ite | refine LeO.bind ?_ (fun _ => ?_))
end Go.Proofs.Ytemnlgefngjliaa.Px
