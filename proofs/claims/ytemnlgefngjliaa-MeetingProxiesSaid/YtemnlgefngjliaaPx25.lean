/- Contracts of Go functions, printed. Conditions: as each theorem states. -/
import Derived.Test.YtemnlgefngjliaaPx0
import Derived.Test.YtemnlgefngjliaaPx17
import Derived.Test.YtemnlgefngjliaaPx24
namespace Go.Proofs.Ytemnlgefngjliaa.Px
open Go.Proofs.Ytemnlgefngjliaa.Given
open Go.RowKit Go.Proofs.YtemnlgefngjliaaW.PrintWords Go.Proofs.YtemnlgefngjliaaW.PrintLast Go.Proofs.YtemnlgefngjliaaW.PrintMore
attribute [local go_sem] a2h a2i a2t a2u a1x a1y a2j a2k
set_option linter.unusedVariables false
set_option linter.unusedSimpArgs false
mutual
def a0k.j0 : Nat → Int → Int → Int → List Int → Bool → Option (Int × Int)
 | 0, _, _, _, _, _ => none
 | k + 1, x0, x1, x2, x3, x32 => if x32 = true then (some (0, 1)) else (if x2 = 2 then (a0k.j1 k x3 (wrap64 ((wrap64 (x0 + x1)) + 3))) else (a0k.j1 k x3 (wrap64 (x0 + x1))))
def a0k.j1 : Nat → List Int → Int → Option (Int × Int)
 | 0, _, _ => none
 | k + 1, x3, x10 => a0k.l0 k x3 x10
def a0k.j3 : Nat → Int → Option (Int × Int)
 | 0, _ => none
 | k + 1, x10 => if x10 > 36524 then (some (0, 3)) else (some (x10, 0))
def a0k.l0 : Nat → List Int → Int → Option (Int × Int)
 | 0, _, _ => none
 | k + 1, x3, x10 => if x10 ≤ 36524 then ((a2z.f k x10 x3).bind fun t420 => (if t420 = true then (a0k.j3 k x10) else (a0k.l0 k x3 (wrap64 (x10 + 1))))) else (a0k.j3 k x10)
end
def a0k.f (k : Nat) (a0 a1 a2 : Int) (l3 : List Int) : Option (Int × Int) := (RcIn.f a0).bind fun t417 => (if t417 = true then (if a1 < 0 then (a0k.j0 k a0 a1 a2 l3 true) else (if a1 > 1000 then (a0k.j0 k a0 a1 a2 l3 true) else (if a2 = 1 then ((a0s.f k l3).bind fun t418 => (a0k.j0 k a0 a1 a2 l3 (!t418))) else (if a2 = 2 then ((a0s.f k l3).bind fun t419 => (a0k.j0 k a0 a1 a2 l3 (!t419))) else (a0k.j0 k a0 a1 a2 l3 true))))) else (some (0, 3)))
theorem a0k.a0v : ∀ k, (∀ y0 y1 y2 y3 y4, LeO (a0k.j0 k y0 y1 y2 y3 y4) (a0k.j0 (k + 1) y0 y1 y2 y3 y4)) ∧ (∀ y0 y1, LeO (a0k.j1 k y0 y1) (a0k.j1 (k + 1) y0 y1)) ∧ (∀ y0, LeO (a0k.j3 k y0) (a0k.j3 (k + 1) y0)) ∧ (∀ y0 y1, LeO (a0k.l0 k y0 y1) (a0k.l0 (k + 1) y0 y1))
 | 0 => ⟨fun _ _ _ _ _ r h => by simp [a0k.j0] at h, fun _ _ r h => by simp [a0k.j1] at h, fun _ r h => by simp [a0k.j3] at h, fun _ _ r h => by simp [a0k.l0] at h⟩
 | k + 1 => by
  obtain ⟨ih0, ih1, ih2, ih3⟩ := a0k.a0v k
  refine ⟨?_, ?_, ?_, ?_⟩
  ·intro y0 y1 y2 y3 y4
   unfold a0k.j0
   with_reducible (repeat' first | apply ih0 | apply ih1 | apply ih2 | apply ih3 | apply a0s.mono | apply a2z.mono | apply LeO.refl | apply LeO.none | apply LeO.ite | refine LeO.bind ?_ (fun _ => ?_))
  ·intro y0 y1
   unfold a0k.j1
   with_reducible (repeat' first | apply ih0 | apply ih1 | apply ih2 | apply ih3 | apply a0s.mono | apply a2z.mono | apply LeO.refl | apply LeO.none | apply LeO.ite | refine LeO.bind ?_ (fun _ => ?_))
  ·intro y0
   unfold a0k.j3
   with_reducible (repeat' first | apply ih0 | apply ih1 | apply ih2 | apply ih3 | apply a0s.mono | apply a2z.mono | apply LeO.refl | apply LeO.none | apply LeO.ite | refine LeO.bind ?_ (fun _ => ?_))
  ·intro y0 y1
   unfold a0k.l0
   with_reducible (repeat' first | apply ih0 | apply ih1 | apply ih2 | apply ih3 | apply a0s.mono | apply a2z.mono | apply LeO.refl | apply LeO.none | apply LeO.ite | refine LeO.bind ?_ (fun _ => ?_))
theorem a0k.mono : ∀ a0 a1 a2 a3 k, LeO (a0k.f k a0 a1 a2 a3) (a0k.f (k + 1) a0 a1 a2 a3) := by
 intro a0 a1 a2 a3 k
 obtain ⟨ih0, ih1, ih2, ih3⟩ := a0k.a0v k
 unfold a0k.f
 with_reducible (repeat' first | apply ih0 | apply ih1 | apply ih2 | apply ih3 | apply a0s.mono | apply a2z.mono | apply LeO.refl | apply LeO.none | apply LeO.ite | refine LeO.bind ?_ (fun _ => ?_))
set_option maxHeartbeats 8000000 in
set_option maxRecDepth 100000 in
theorem a0k.calls (k : Nat) (a0 a1 a2 : Int) (A3 : Option Addr) (c3 : Nat) (l3 : List Int) (r1 r2 : Int) (w : World) (hr3 : Kd.C (Kd.int .i64) w A3 l3.length l3) (hc3 : l3.length ≤ c3) (h : a0k.f k a0 a1 a2 l3 = some (r1, r2)) :
  Calls Try.prog 66 #[.int .i64 a0, .int .i64 a1, .int .i64 a2, .slice A3 l3.length c3] w fun e w' => e = .returned (.tuple #[.int .i64 r1, .int .i64 r2]) ∧ a1g w w' := by
 have HR3 := am_ hr3
 have HC3 := am_ hc3
 clear hr3 hc3
 have H : ((RcIn.f a0).bind fun t417 => (if t417 = true then (if a1 < 0 then (a0k.j0 k a0 a1 a2 l3 true) else (if a1 > 1000 then (a0k.j0 k a0 a1 a2 l3 true) else (if a2 = 1 then ((a0s.f k l3).bind fun t418 => (a0k.j0 k a0 a1 a2 l3 (!t418))) else (if a2 = 2 then ((a0s.f k l3).bind fun t419 => (a0k.j0 k a0 a1 a2 l3 (!t419))) else (a0k.j0 k a0 a1 a2 l3 true))))) else (some (0, 3)))) = some (r1, r2) := h
 clear h
 replace H := bm_ H
 obtain ⟨t417, A50, H⟩ := H
 replace H : (if t417 = true then (if a1 < 0 then (a0k.j0 k a0 a1 a2 l3 true) else (if a1 > 1000 then (a0k.j0 k a0 a1 a2 l3 true) else (if a2 = 1 then ((a0s.f k l3).bind fun t418 => (a0k.j0 k a0 a1 a2 l3 (!t418))) else (if a2 = 2 then ((a0s.f k l3).bind fun t419 => (a0k.j0 k a0 a1 a2 l3 (!t419))) else (a0k.j0 k a0 a1 a2 l3 true))))) else (some (0, 3))) = some (r1, r2) := H
 have A5 := am_ A50
 clear A50
 by_cases c6 : t417 = true
 ·subst c6
  have H1 : (if a1 < 0 then (a0k.j0 k a0 a1 a2 l3 true) else (if a1 > 1000 then (a0k.j0 k a0 a1 a2 l3 true) else (if a2 = 1 then ((a0s.f k l3).bind fun t418 => (a0k.j0 k a0 a1 a2 l3 (!t418))) else (if a2 = 2 then ((a0s.f k l3).bind fun t419 => (a0k.j0 k a0 a1 a2 l3 (!t419))) else (a0k.j0 k a0 a1 a2 l3 true))))) = some (r1, r2) := by rw [if_pos rfl] at H; exact H
  clear H
  have H := H1
  clear H1
  have HC7 := am_ H
  clear H
  go_enter Try.func66, Try.ntmps66
  go_upto_region 3 with (first | ((with_reducible refine a0b (f := 39) rfl ?_); refine a0p (some 12) rfl rfl Try.func39 (by kernel_rfl) rfl #[.int .i64 a0] rfl ql_ ?_; (with_reducible refine (RcIn.calls a0 true _ A5.out).mono ?_); rintro e w' ⟨rfl, ⟨nd, rfl⟩⟩; refine ⟨_, rfl, ?_⟩))
  (try simp only [Act.put, List.setIfInBounds_toArray, List.set_cons_zero, List.set_cons_succ])
  go_cut [32] (fun v32 wc => ∃ (kq : Nat) (x32_6 : Bool), v32 = .bool x32_6 ∧ Aside0 (a0k.j0 kq a0 a1 a2 l3 x32_6 = some (r1, r2)) ∧ Aside0 (kq ≤ k) ∧ a1g w wc)
  case first =>
   have H := HC7.out
   clear HC7
   by_cases c8 : a1 < 0
   ·rw [if_pos c8] at H
    have c8b0 : decide (a1 < 0) = true := decide_eq_true c8
    clear c8
    (first | rw [c8b0] | (simp only [a2r, a2y]; rw [c8b0]) | skip)
    have H' := am_ H
    clear H
    go_wp2
    go_meet
    case rel => exact ⟨_, (true), qs_, H', ⟨qo_⟩, qy_⟩
   ·rw [if_neg c8] at H
    have c8b0 : decide (a1 < 0) = false := decide_eq_false c8
    clear c8
    (first | rw [c8b0] | (simp only [a2r, a2y]; rw [c8b0]) | skip)
    by_cases c9 : a1 > 1000
    ·rw [if_pos c9] at H
     have c9b0 : decide (1000 < a1) = true := decide_eq_true c9
     clear c9
     have H' := am_ H
     clear H
     go_wp2
     go_meet
     case rel => exact ⟨_, (true), qs_, H', ⟨qo_⟩, qy_⟩
    ·rw [if_neg c9] at H
     have c9b0 : decide (1000 < a1) = false := decide_eq_false c9
     clear c9
     by_cases c10 : a2 = 1
     ·rw [if_pos c10] at H
      have c10b0 : (a2 == 1) = true := beq_iff_eq.mpr c10
      have c10b1 : (a2 != 1) = false := bne_eq_false_iff_eq.mpr c10
      clear c10
      replace H := bm_ H
      obtain ⟨t418, A110, H⟩ := H
      replace H : (a0k.j0 k a0 a1 a2 l3 (!t418)) = some (r1, r2) := H
      have A11 := am_ A110
      clear A110
      have H' := am_ H
      clear H
      go_wp2_with (first | (go_at_call 26; (with_reducible refine (a0s.calls k _ _ l3 t418 _ ?s1 ?s2 A11.out).mono ?_); (case s1 => repeat (first | exact HR3.out | (with_reducible refine Kd.a2f ?_ _) | (with_reducible refine Kd.a2g ?_ _) | (with_reducible refine Kd.a2v ?_))); (case s2 => exact HC3.out); rintro e w' ⟨rfl, ⟨nd, rfl⟩⟩))
      go_meet
      case rel => exact ⟨_, (!t418), qs_, H', ⟨qo_⟩, qy_⟩
     ·rw [if_neg c10] at H
      have c10b0 : (a2 == 1) = false := beq_eq_false_iff_ne.mpr c10
      have c10b1 : (a2 != 1) = true := bne_iff_ne.mpr c10
      by_cases c12 : a2 = 2
      ·rw [if_pos c12] at H
       have c12b0 : (a2 == 2) = true := beq_iff_eq.mpr c12
       have c12b1 : (a2 != 2) = false := bne_eq_false_iff_eq.mpr c12
       clear c12
       replace H := bm_ H
       obtain ⟨t419, A130, H⟩ := H
       replace H : (a0k.j0 k a0 a1 a2 l3 (!t419)) = some (r1, r2) := H
       have A13 := am_ A130
       clear A130
       have H' := am_ H
       clear H
       go_wp2_with (first | (go_at_call 26; (with_reducible refine (a0s.calls k _ _ l3 t419 _ ?s1 ?s2 A13.out).mono ?_); (case s1 => repeat (first | exact HR3.out | (with_reducible refine Kd.a2f ?_ _) | (with_reducible refine Kd.a2g ?_ _) | (with_reducible refine Kd.a2v ?_))); (case s2 => exact HC3.out); rintro e w' ⟨rfl, ⟨nd, rfl⟩⟩))
       go_meet
       case rel => exact ⟨_, (!t419), qs_, H', ⟨qo_⟩, qy_⟩
      ·rw [if_neg c12] at H
       have c12b0 : (a2 == 2) = false := beq_eq_false_iff_ne.mpr c12
       have c12b1 : (a2 != 2) = true := bne_iff_ne.mpr c12
       have H' := am_ H
       clear H
       go_wp2
       go_meet
       case rel => exact ⟨_, (true), qs_, H', ⟨qo_⟩, qy_⟩
  case rest =>
   clear HC7
   try clear c1
   try clear p2
   try clear c3
   try clear c6
   try clear c8
   try clear c8b0
   try clear c9
   try clear c9b0
   try clear c10
   try clear c10b0
   try clear c10b1
   try clear c12
   try clear c12b0
   try clear c12b1
   obtain ⟨kq, x32_6, rfl, HA, HJ6, ⟨mc6, rfl⟩⟩ := hcut
   cases kq with
   | zero => exact absurd HA.out (by simp [a0k.j0])
   | succ kj6 =>
    have H := HA.out
    clear HA
    simp only [a0k.j0] at H
    by_cases c14 : x32_6 = true
    ·subst c14
     have H1 : (some (0, 1)) = some (r1, r2) := by rw [if_pos rfl] at H; exact H
     clear H
     have H := H1
     clear H1
     simp only [Option.some.injEq, Prod.mk.injEq] at H
     obtain ⟨rfl, rfl⟩ := H
     go_wp2
     go_ret2
     exact ⟨qs_, qy_⟩
    ·replace c14 := be_ c14
     subst c14
     have H1 : (if a2 = 2 then (a0k.j1 kj6 l3 (wrap64 ((wrap64 (a0 + a1)) + 3))) else (a0k.j1 kj6 l3 (wrap64 (a0 + a1)))) = some (r1, r2) := by rw [if_neg (show ¬ (false = true) by decide)] at H; exact H
     clear H
     have H := H1
     clear H1
     have HC15 := am_ H
     clear H
     go_upto_if 37 with (fail)
     go_cut [10] (fun v10 wc => ∃ (kq : Nat) (x10_14 : Int), v10 = .int .i64 x10_14 ∧ Aside0 (a0k.j1 kq l3 x10_14 = some (r1, r2)) ∧ Aside0 (kq ≤ kj6) ∧ a1g w wc)
     case first =>
      have H := HC15.out
      clear HC15
      by_cases c16 : a2 = 2
      ·rw [if_pos c16] at H
       have c16b0 : (a2 == 2) = true := beq_iff_eq.mpr c16
       have c16b1 : (a2 != 2) = false := bne_eq_false_iff_eq.mpr c16
       clear c16
       (first | rw [c16b0] | (simp only [a2r, a2y]; rw [c16b0]) | skip)
       have H' := am_ H
       clear H
       go_wp2
       go_meet
       case rel => exact ⟨_, (wrap64 ((wrap64 (a0 + a1)) + 3)), qs_, H', ⟨by have := HJ6.out; first | omega | exact Nat.le_refl _⟩, qy_⟩
      ·rw [if_neg c16] at H
       have c16b0 : (a2 == 2) = false := beq_eq_false_iff_ne.mpr c16
       have c16b1 : (a2 != 2) = true := bne_iff_ne.mpr c16
       (first | rw [c16b0] | (simp only [a2r, a2y]; rw [c16b0]) | skip)
       have H' := am_ H
       clear H
       go_wp2
       go_meet
       case rel => exact ⟨_, (wrap64 (a0 + a1)), qs_, H', ⟨by have := HJ6.out; first | omega | exact Nat.le_refl _⟩, qy_⟩
     case rest =>
      clear HC15
      try clear c1
      try clear p2
      try clear c3
      try clear c6
      try clear p6
      try clear c8
      try clear c8b0
      try clear c9
      try clear c9b0
      try clear c10
      try clear c10b0
      try clear c10b1
      try clear c12
      try clear c12b0
      try clear c12b1
      try clear c14
      try clear c16
      try clear c16b0
      try clear c16b1
      try clear p2
      obtain ⟨kq, x10_14, rfl, HA, HJ14, ⟨mc14, rfl⟩⟩ := hcut
      cases kq with
      | zero => exact absurd HA.out (by simp [a0k.j1])
      | succ kj14 =>
       have H := HA.out
       clear HA
       simp only [a0k.j1] at H
       have HC17 := am_ H
       clear H
       go_upto_block 0 with (fail)
       go_cut [10] (fun v10 wc => ∃ (kq : Nat) (x10_16 : Int), v10 = .int .i64 x10_16 ∧ Aside0 (a0k.j3 kq x10_16 = some (r1, r2)) ∧ Aside0 (kq ≤ kj14) ∧ a1g w wc)
       case first =>
        have H := HC17.out
        clear HC17
        have H' := am_ H
        clear H
        go_wp2
        go_loopg [10] kj14 (fun kq v10 w' => ∃ (x10_3 : Int), v10 = .int .i64 x10_3 ∧ Aside0 (a0k.l0 kq l3 x10_3 = some (r1, r2)) ∧ Aside0 (kq ≤ kj14) ∧ a1g w w')
        case atStart => exact ⟨(x10_14), qs_, H', ⟨Nat.le_refl _⟩, qy_⟩
        case round =>
         clear H'
         try clear c1
         try clear p2
         try clear c3
         try clear c6
         try clear p6
         try clear c8
         try clear c8b0
         try clear c9
         try clear c9b0
         try clear c10
         try clear c10b0
         try clear c10b1
         try clear c12
         try clear c12b0
         try clear c12b1
         try clear c14
         try clear c16
         try clear c16b0
         try clear c16b1
         try clear p2
         try clear p6
         obtain ⟨x10_3, rfl, HA, HK3, ⟨m3, rfl⟩⟩ := hrel
         cases gk with
         | zero => exact absurd HA.out (by simp [a0k.l0])
         | succ k3 =>
          have H := HA.out
          clear HA
          simp only [a0k.l0] at H
          by_cases c18 : x10_3 ≤ 36524
          ·rw [if_pos c18] at H
           have c18b0 : decide (x10_3 ≤ 36524) = true := decide_eq_true c18
           clear c18
           (first | rw [c18b0] | (simp only [a2r, a2y]; rw [c18b0]) | skip)
           replace H := bm_ H
           obtain ⟨t420, A190, H⟩ := H
           replace H : (if t420 = true then (a0k.j3 k3 x10_3) else (a0k.l0 k3 l3 (wrap64 (x10_3 + 1)))) = some (r1, r2) := H
           have A19 := am_ A190
           clear A190
           by_cases c20 : t420 = true
           ·subst c20
            have H1 : (a0k.j3 k3 x10_3) = some (r1, r2) := by rw [if_pos rfl] at H; exact H
            clear H
            have H := H1
            clear H1
            have H' := am_ H
            clear H
            go_wp2_with (first | (go_at_call 77; (with_reducible refine (a2z.calls k3 x10_3 _ _ l3 true _ ?s1 ?s2 A19.out).mono ?_); (case s1 => repeat (first | exact HR3.out | (with_reducible refine Kd.a2f ?_ _) | (with_reducible refine Kd.a2g ?_ _) | (with_reducible refine Kd.a2v ?_))); (case s2 => exact HC3.out); rintro e w' ⟨rfl, ⟨nd, rfl⟩⟩))
            go_meet
            case rel => exact ⟨_, (x10_3), qs_, H', ⟨by have := HJ6.out; have := HJ14.out; have := HK3.out; first | omega | exact Nat.le_refl _⟩, qy_⟩
           ·replace c20 := be_ c20
            subst c20
            have H1 : (a0k.l0 k3 l3 (wrap64 (x10_3 + 1))) = some (r1, r2) := by rw [if_neg (show ¬ (false = true) by decide)] at H; exact H
            clear H
            have H := H1
            clear H1
            have H' := am_ H
            clear H
            go_wp2_with (first | (go_at_call 77; (with_reducible refine (a2z.calls k3 x10_3 _ _ l3 false _ ?s1 ?s2 A19.out).mono ?_); (case s1 => repeat (first | exact HR3.out | (with_reducible refine Kd.a2f ?_ _) | (with_reducible refine Kd.a2g ?_ _) | (with_reducible refine Kd.a2v ?_))); (case s2 => exact HC3.out); rintro e w' ⟨rfl, ⟨nd, rfl⟩⟩))
            go_roundg k3
            case measure => have := HJ6.out; have := HJ14.out; have := HK3.out; omega
            case rel => exact ⟨(wrap64 (x10_3 + 1)), qs_, H', ⟨by have := HJ6.out; have := HJ14.out; have := HK3.out; omega⟩, qy_⟩
          ·rw [if_neg c18] at H
           have c18b0 : decide (x10_3 ≤ 36524) = false := decide_eq_false c18
           clear c18
           (first | rw [c18b0] | (simp only [a2r, a2y]; rw [c18b0]) | skip)
           have H' := am_ H
           clear H
           go_wp2
           go_meet
           case rel => exact ⟨_, (x10_3), qs_, H', ⟨by have := HJ6.out; have := HJ14.out; have := HK3.out; first | omega | exact Nat.le_refl _⟩, qy_⟩
       case rest =>
        clear HC17
        try clear c1
        try clear c2
        try clear p2
        try clear c3
        try clear c6
        try clear p6
        try clear c8
        try clear c8b0
        try clear c9
        try clear c9b0
        try clear c10
        try clear c10b0
        try clear c10b1
        try clear c12
        try clear c12b0
        try clear c12b1
        try clear c14
        try clear c16
        try clear c16b0
        try clear c16b1
        try clear c18
        try clear c18b0
        try clear c20
        try clear p2
        try clear p6
        obtain ⟨kq, x10_16, rfl, HA, HJ16, ⟨mc16, rfl⟩⟩ := hcut
        cases kq with
        | zero => exact absurd HA.out (by simp [a0k.j3])
        | succ kj16 =>
         have H := HA.out
         clear HA
         simp only [a0k.j3] at H
         by_cases c21 : x10_16 > 36524
         ·rw [if_pos c21] at H
          have c21b0 : decide (36524 < x10_16) = true := decide_eq_true c21
          clear c21
          simp only [Option.some.injEq, Prod.mk.injEq] at H
          obtain ⟨rfl, rfl⟩ := H
          go_wp2
          go_ret2
          exact ⟨qs_, qy_⟩
         ·rw [if_neg c21] at H
          have c21b0 : decide (36524 < x10_16) = false := decide_eq_false c21
          clear c21
          simp only [Option.some.injEq, Prod.mk.injEq] at H
          obtain ⟨rfl, rfl⟩ := H
          go_wp2
          go_ret2
          exact ⟨qs_, qy_⟩
 ·replace c6 := be_ c6
  subst c6
  have H1 : (some (0, 3)) = some (r1, r2) := by rw [if_neg (show ¬ (false = true) by decide)] at H; exact H
  clear H
  have H := H1
  clear H1
  simp only [Option.some.injEq, Prod.mk.injEq] at H
  obtain ⟨rfl, rfl⟩ := H
  go_enter Try.func66, Try.ntmps66
  go_wp2_with (first | ((with_reducible refine a0b (f := 39) rfl ?_); refine a0p (some 12) rfl rfl Try.func39 (by kernel_rfl) rfl #[.int .i64 a0] rfl ql_ ?_; (with_reducible refine (RcIn.calls a0 false _ A5.out).mono ?_); rintro e w' ⟨rfl, ⟨nd, rfl⟩⟩; refine ⟨_, rfl, ?_⟩))
  go_ret2
  exact ⟨qs_, qy_⟩
def a5e.f (k : Nat) (a0_0 a0_1 a0_2 a0_3 : Int) (a0_4 : Bool) (a1_0 a1_1 a1_2 : Int) (l1_3 : List ByteArray) (l1_4 : List (S43)) (l1_5 l2 : List Int) : Option (Bool) := (a0k.f k a1_0 a0_0 a1_1 l2).bind fun bt423 => (if bt423.2 = 0 then (some (decide (a1_2 < bt423.1))) else (some true))
theorem a5e.mono : ∀ a0 a1 a2 a3 a4 a5 a6 a7 a8 a9 a10 a11 k, LeO (a5e.f k a0 a1 a2 a3 a4 a5 a6 a7 a8 a9 a10 a11) (a5e.f (k + 1) a0 a1 a2 a3 a4 a5 a6 a7 a8 a9 a10 a11) := by
 intro a0 a1 a2 a3 a4 a5 a6 a7 a8 a9 a10 a11 k
 unfold a5e.f
 with_reducible (repeat' first | apply a0k.mono | apply LeO.refl | apply LeO.none | apply LeO.ite | refine LeO.bind ?_ (fun _ => ?_))
set_option maxHeartbeats 8000000 in
set_option maxRecDepth 100000 in
theorem a5e.calls (k : Nat) (a0_0 a0_1 a0_2 a0_3 : Int) (a0_4 : Bool) (a1_0 a1_1 a1_2 : Int) (A1_3 : Option Addr) (c1_3 : Nat) (l1_3 : List ByteArray) (A1_4 : Option Addr) (c1_4 : Nat) (l1_4 : List (S43)) (A1_5 : Option Addr) (c1_5 : Nat) (l1_5 : List Int) (A2 : Option Addr) (c2 : Nat) (l2 : List Int) (r : Bool) (w : World) (hr1_3 : Kd.C Kd.string w A1_3 l1_3.length l1_3) (hc1_3 : l1_3.length ≤ c1_3) (hr1_4 : Kd.C k43 w A1_4 l1_4.length l1_4) (hc1_4 : l1_4.length ≤ c1_4) (hr1_5 : Kd.C (Kd.int .i64) w A1_5 l1_5.length l1_5) (hc1_5 : l1_5.length ≤ c1_5) (hr2 : Kd.C (Kd.int .i64) w A2 l2.length l2) (hc2 : l2.length ≤ c2) (h : a5e.f k a0_0 a0_1 a0_2 a0_3 a0_4 a1_0 a1_1 a1_2 l1_3 l1_4 l1_5 l2 = some r) :
  Calls Try.prog 48 #[.agg #[.int .i64 a0_0, .int .i64 a0_1, .int .i64 a0_2, .int .i64 a0_3, .bool a0_4], .agg #[.int .i64 a1_0, .int .i64 a1_1, .int .i64 a1_2, .slice A1_3 l1_3.length c1_3, .slice A1_4 l1_4.length c1_4, .slice A1_5 l1_5.length c1_5], .slice A2 l2.length c2] w fun e w' => e = .returned (.bool r) ∧ Below w.heap.size w w' := by
 have hu25 := Try.underlying25
 have hu30 := Try.underlying30
 have HR1_3 := am_ hr1_3
 have HC1_3 := am_ hc1_3
 clear hr1_3 hc1_3
 have HR1_4 := am_ hr1_4
 have HC1_4 := am_ hc1_4
 clear hr1_4 hc1_4
 have HR1_5 := am_ hr1_5
 have HC1_5 := am_ hc1_5
 clear hr1_5 hc1_5
 have HR2 := am_ hr2
 have HC2 := am_ hc2
 clear hr2 hc2
 have HB := am_ (Below.refl w.heap.size w)
 have H : ((a0k.f k a1_0 a0_0 a1_1 l2).bind fun bt423 => (if bt423.2 = 0 then (some (decide (a1_2 < bt423.1))) else (some true))) = some r := h
 clear h
 replace H := bm_ H
 obtain ⟨⟨t423, t424⟩, A40, H⟩ := H
 replace H : (if t424 = 0 then (some (decide (a1_2 < t423))) else (some true)) = some r := H
 have A4 := am_ A40
 clear A40
 by_cases c5 : t424 = 0
 ·rw [if_pos c5] at H
  have c5b0 : (t424 == 0) = true := beq_iff_eq.mpr c5
  have c5b1 : (t424 != 0) = false := bne_eq_false_iff_eq.mpr c5
  clear c5
  obtain rfl := si_ H
  go_enter Try.func48, Try.ntmps48
  go_wp2_with (first | ((with_reducible refine a0d (N := 3) rfl ?_); refine qev_ 3 #[.int .i64 a0_0, .int .i64 a0_1, .int .i64 a0_2, .int .i64 a0_3, .bool a0_4] 25 ?_; intro gb421 hg w6 hbox hb; have BK421 := am_ (hbox); have GW421 := qga_ hg; have GE421 := qga_ hg; replace HB := qbs_ hb; clear hb hbox hg) | ((with_reducible refine a0d (N := 4) rfl ?_); refine qev_ 4 #[.int .i64 a1_0, .int .i64 a1_1, .int .i64 a1_2, .slice A1_3 l1_3.length c1_3, .slice A1_4 l1_4.length c1_4, .slice A1_5 l1_5.length c1_5] 30 ?_; intro gb422 hg w7 hbox hb; have BK422 := am_ (hbox); have GW422 := qga_ hg; have GE422 := qga_ hg; replace HB := qbs_ hb; have NB421_422 := am_ ((by rw [hg]; exact Nat.ne_of_lt (a0y (qk_ BK421)) : gb421 ≠ gb422)); have NB422_421 := am_ ((by rw [hg]; exact Nat.ne_of_gt (a0y (qk_ BK421)) : gb422 ≠ gb421)); replace BK421 := qkb_ BK421 hb; clear hb hbox hg; have hnb8 := NB422_421.out; have hnc8 := NB421_422.out; obtain ⟨z'9_0, z'9_1, z'9_2, z'9_3, z'9_4, z'9_5⟩ := qz6_ BK422; obtain ⟨y'9_0, y'9_1, y'9_2, y'9_3, y'9_4, y'9_5⟩ := qf6_ BK422; obtain ⟨z'10_0, z'10_1, z'10_2, z'10_3, z'10_4⟩ := qz5_ BK421; obtain ⟨y'10_0, y'10_1, y'10_2, y'10_3, y'10_4⟩ := qf5_ BK421) | ((with_reducible refine a0b (f := 66) rfl ?_); refine a0p (some 17) rfl rfl Try.func66 (by kernel_rfl) rfl #[.int .i64 a1_0, .int .i64 a0_0, .int .i64 a1_1, .slice A2 l2.length c2] rfl ql_ ?_; (with_reducible refine (a0k.calls k a1_0 a0_0 a1_1 _ _ l2 t423 t424 _ ?s1 ?s2 A4.out).mono ?_); (case s1 => exact qc_ HR2); (case s2 => exact HC2.out); rintro e w' ⟨rfl, ⟨nd, rfl⟩⟩; refine ⟨_, rfl, ?_⟩))
  go_ret
  exact ⟨qx_, qb_⟩
 ·rw [if_neg c5] at H
  have c5b0 : (t424 == 0) = false := beq_eq_false_iff_ne.mpr c5
  have c5b1 : (t424 != 0) = true := bne_iff_ne.mpr c5
  obtain rfl := si_ H
  go_enter Try.func48, Try.ntmps48
  go_wp2_with (first | ((with_reducible refine a0d (N := 3) rfl ?_); refine qev_ 3 #[.int .i64 a0_0, .int .i64 a0_1, .int .i64 a0_2, .int .i64 a0_3, .bool a0_4] 25 ?_; intro gb421 hg w11 hbox hb; have BK421 := am_ (hbox); have GW421 := qga_ hg; have GE421 := qga_ hg; replace HB := qbs_ hb; clear hb hbox hg) | ((with_reducible refine a0d (N := 4) rfl ?_); refine qev_ 4 #[.int .i64 a1_0, .int .i64 a1_1, .int .i64 a1_2, .slice A1_3 l1_3.length c1_3, .slice A1_4 l1_4.length c1_4, .slice A1_5 l1_5.length c1_5] 30 ?_; intro gb422 hg w12 hbox hb; have BK422 := am_ (hbox); have GW422 := qga_ hg; have GE422 := qga_ hg; replace HB := qbs_ hb; have NB421_422 := am_ ((by rw [hg]; exact Nat.ne_of_lt (a0y (qk_ BK421)) : gb421 ≠ gb422)); have NB422_421 := am_ ((by rw [hg]; exact Nat.ne_of_gt (a0y (qk_ BK421)) : gb422 ≠ gb421)); replace BK421 := qkb_ BK421 hb; clear hb hbox hg; have hnb13 := NB422_421.out; have hnc13 := NB421_422.out; obtain ⟨z'14_0, z'14_1, z'14_2, z'14_3, z'14_4, z'14_5⟩ := qz6_ BK422; obtain ⟨y'14_0, y'14_1, y'14_2, y'14_3, y'14_4, y'14_5⟩ := qf6_ BK422; obtain ⟨z'15_0, z'15_1, z'15_2, z'15_3, z'15_4⟩ := qz5_ BK421; obtain ⟨y'15_0, y'15_1, y'15_2, y'15_3, y'15_4⟩ := qf5_ BK421) | ((with_reducible refine a0b (f := 66) rfl ?_); refine a0p (some 17) rfl rfl Try.func66 (by kernel_rfl) rfl #[.int .i64 a1_0, .int .i64 a0_0, .int .i64 a1_1, .slice A2 l2.length c2] rfl ql_ ?_; (with_reducible refine (a0k.calls k a1_0 a0_0 a1_1 _ _ l2 t423 t424 _ ?s1 ?s2 A4.out).mono ?_); (case s1 => exact qc_ HR2); (case s2 => exact HC2.out); rintro e w' ⟨rfl, ⟨nd, rfl⟩⟩; refine ⟨_, rfl, ?_⟩))
  go_ret
  exact ⟨qx_, qb_⟩
end Go.Proofs.Ytemnlgefngjliaa.Px
