/- Contracts of Go functions, printed. Conditions: as each theorem states. -/
import Derived.Test.YtemnlgefngjliaaPx0
import Derived.Test.YtemnlgefngjliaaPx2
namespace Go.Proofs.Ytemnlgefngjliaa.Px
open Go.Proofs.Ytemnlgefngjliaa.Given
open Go.RowKit Go.Proofs.YtemnlgefngjliaaW.PrintWords Go.Proofs.YtemnlgefngjliaaW.PrintLast Go.Proofs.YtemnlgefngjliaaW.PrintMore
attribute [local go_sem] a2f a2g a2r a2s a1x a1y a2h a2i
set_option linter.unusedVariables false
set_option linter.unusedSimpArgs false
mutual
def a0n.j0 : Nat → Int → Int → Int → List Int → Bool → Option (Int × Int)
 | 0, _, _, _, _, _ => none
 | k + 1, x0, x1, x2, x3, x23 => if x23 = true then (some (0, 1)) else (if x2 = 1 then (a0n.j1 k x0 x1 x3) else (if x2 = 2 then (a0n.j1 k (wrap64 (x0 + 3)) x1 x3) else (some (0, 1))))
def a0n.j1 : Nat → Int → Int → List Int → Option (Int × Int)
 | 0, _, _, _ => none
 | k + 1, x0, x1, x3 => a0n.l0 k (wrap64 (x0 + x1)) x3
def a0n.l0 : Nat → Int → List Int → Option (Int × Int)
 | 0, _, _ => none
 | k + 1, x0, x3 => (a2e.f k x3 x0).bind fun t117 => (if t117 = true then (a0n.l0 k (wrap64 (x0 + 1)) x3) else ((a3q.f x0).bind fun t118 => (if t118 = true then (some (x0, 0)) else (some (0, 3)))))
end
def a0n.f (k : Nat) (a0 a1 a2 : Int) (l3 : List Int) : Option (Int × Int) := (a3q.f a0).bind fun t115 => (if t115 = true then (if a1 < 0 then (a0n.j0 k a0 a1 a2 l3 true) else (if a1 > 1000 then (a0n.j0 k a0 a1 a2 l3 true) else ((a0k.f k l3).bind fun t116 => (a0n.j0 k a0 a1 a2 l3 (!t116))))) else (some (0, 3)))
theorem a0n.a0t : ∀ k, (∀ y0 y1 y2 y3 y4, LeO (a0n.j0 k y0 y1 y2 y3 y4) (a0n.j0 (k + 1) y0 y1 y2 y3 y4)) ∧ (∀ y0 y1 y2, LeO (a0n.j1 k y0 y1 y2) (a0n.j1 (k + 1) y0 y1 y2)) ∧ (∀ y0 y1, LeO (a0n.l0 k y0 y1) (a0n.l0 (k + 1) y0 y1))
 | 0 => ⟨fun _ _ _ _ _ r h => by simp [a0n.j0] at h, fun _ _ _ r h => by simp [a0n.j1] at h, fun _ _ r h => by simp [a0n.l0] at h⟩
 | k + 1 => by
  obtain ⟨ih0, ih1, ih2⟩ := a0n.a0t k
  refine ⟨?_, ?_, ?_⟩
  ·intro y0 y1 y2 y3 y4
   unfold a0n.j0
   with_reducible (repeat' first | apply ih0 | apply ih1 | apply ih2 | apply a2e.mono | apply a0k.mono | apply LeO.refl | apply LeO.none | apply LeO.ite | refine LeO.bind ?_ (fun _ => ?_))
  ·intro y0 y1 y2
   unfold a0n.j1
   with_reducible (repeat' first | apply ih0 | apply ih1 | apply ih2 | apply a2e.mono | apply a0k.mono | apply LeO.refl | apply LeO.none | apply LeO.ite | refine LeO.bind ?_ (fun _ => ?_))
  ·intro y0 y1
   unfold a0n.l0
   with_reducible (repeat' first | apply ih0 | apply ih1 | apply ih2 | apply a2e.mono | apply a0k.mono | apply LeO.refl | apply LeO.none | apply LeO.ite | refine LeO.bind ?_ (fun _ => ?_))
theorem a0n.mono : ∀ a0 a1 a2 a3 k, LeO (a0n.f k a0 a1 a2 a3) (a0n.f (k + 1) a0 a1 a2 a3) := by
 intro a0 a1 a2 a3 k
 obtain ⟨ih0, ih1, ih2⟩ := a0n.a0t k
 unfold a0n.f
 with_reducible (repeat' first | apply ih0 | apply ih1 | apply ih2 | apply a2e.mono | apply a0k.mono | apply LeO.refl | apply LeO.none | apply LeO.ite | refine LeO.bind ?_ (fun _ => ?_))
set_option maxHeartbeats 8000000 in
set_option maxRecDepth 100000 in
theorem a0n.calls (k : Nat) (a0 a1 a2 : Int) (A3 : Option Addr) (c3 : Nat) (l3 : List Int) (r1 r2 : Int) (w : World) (hr3 : Kd.C (Kd.int .i64) w A3 l3.length l3) (hc3 : l3.length ≤ c3) (h : a0n.f k a0 a1 a2 l3 = some (r1, r2)) :
  Calls Try.prog 61 #[.int .i64 a0, .int .i64 a1, .int .i64 a2, .slice A3 l3.length c3] w fun e w' => e = .returned (.tuple #[.int .i64 r1, .int .i64 r2]) ∧ a1j w w' := by
 have HR3 := am_ hr3
 have HC3 := am_ hc3
 clear hr3 hc3
 have H : ((a3q.f a0).bind fun t115 => (if t115 = true then (if a1 < 0 then (a0n.j0 k a0 a1 a2 l3 true) else (if a1 > 1000 then (a0n.j0 k a0 a1 a2 l3 true) else ((a0k.f k l3).bind fun t116 => (a0n.j0 k a0 a1 a2 l3 (!t116))))) else (some (0, 3)))) = some (r1, r2) := h
 clear h
 replace H := bm_ H
 obtain ⟨t115, A50, H⟩ := H
 replace H : (if t115 = true then (if a1 < 0 then (a0n.j0 k a0 a1 a2 l3 true) else (if a1 > 1000 then (a0n.j0 k a0 a1 a2 l3 true) else ((a0k.f k l3).bind fun t116 => (a0n.j0 k a0 a1 a2 l3 (!t116))))) else (some (0, 3))) = some (r1, r2) := H
 have A5 := am_ A50
 clear A50
 by_cases c6 : t115 = true
 ·subst c6
  have H1 : (if a1 < 0 then (a0n.j0 k a0 a1 a2 l3 true) else (if a1 > 1000 then (a0n.j0 k a0 a1 a2 l3 true) else ((a0k.f k l3).bind fun t116 => (a0n.j0 k a0 a1 a2 l3 (!t116))))) = some (r1, r2) := by rw [if_pos rfl] at H; exact H
  clear H
  have H := H1
  clear H1
  have HC7 := am_ H
  clear H
  go_enter Try.func61, Try.ntmps61
  go_upto_region 3 with (first | ((with_reducible refine a0e (f := 58) rfl ?_); refine a0w (some 11) rfl rfl Try.func58 (by kernel_rfl) rfl #[.int .i64 a0] rfl ql_ ?_; (with_reducible refine (a3q.calls a0 true _ A5.out).mono ?_); rintro e w' ⟨rfl, ⟨nd, rfl⟩⟩; refine ⟨_, rfl, ?_⟩))
  (try simp only [Act.put, List.setIfInBounds_toArray, List.set_cons_zero, List.set_cons_succ])
  go_cut [23] (fun v23 wc => ∃ (kq : Nat) (x23_6 : Bool), v23 = .bool x23_6 ∧ Aside0 (a0n.j0 kq a0 a1 a2 l3 x23_6 = some (r1, r2)) ∧ Aside0 (kq ≤ k) ∧ a1j w wc)
  case first =>
   have H := HC7.out
   clear HC7
   by_cases c8 : a1 < 0
   ·rw [if_pos c8] at H
    have c8b0 : decide (a1 < 0) = true := decide_eq_true c8
    clear c8
    (first | rw [c8b0] | (simp only [a3h, a3u]; rw [c8b0]) | skip)
    have H' := am_ H
    clear H
    go_wp2
    go_meet
    case rel => exact ⟨_, (true), qs_, H', ⟨qo_⟩, qy_⟩
   ·rw [if_neg c8] at H
    have c8b0 : decide (a1 < 0) = false := decide_eq_false c8
    clear c8
    (first | rw [c8b0] | (simp only [a3h, a3u]; rw [c8b0]) | skip)
    by_cases c9 : a1 > 1000
    ·rw [if_pos c9] at H
     have c9b0 : decide (1000 < a1) = true := decide_eq_true c9
     clear c9
     have H' := am_ H
     clear H
     go_wp2
     go_meet
     case rel => exact ⟨_, (true), qs_, H', ⟨qo_⟩, qy_⟩
    ·rw [if_neg c9] at H
     have c9b0 : decide (1000 < a1) = false := decide_eq_false c9
     clear c9
     replace H := bm_ H
     obtain ⟨t116, A100, H⟩ := H
     replace H : (a0n.j0 k a0 a1 a2 l3 (!t116)) = some (r1, r2) := H
     have A10 := am_ A100
     clear A100
     have H' := am_ H
     clear H
     go_wp2_with (first | (go_at_call 59; (with_reducible refine (a0k.calls k _ _ l3 t116 _ ?s1 ?s2 A10.out).mono ?_); (case s1 => repeat (first | exact HR3.out | (with_reducible refine Kd.a2b ?_ _) | (with_reducible refine Kd.a2c ?_ _) | (with_reducible refine Kd.a2m ?_))); (case s2 => exact HC3.out); rintro e w' ⟨rfl, ⟨nd, rfl⟩⟩))
     go_meet
     case rel => exact ⟨_, (!t116), qs_, H', ⟨qo_⟩, qy_⟩
  case rest =>
   clear HC7
   try clear p2
   try clear c3
   try clear c5
   try clear c6
   try clear c8
   try clear c8b0
   try clear c9
   try clear c9b0
   obtain ⟨kq, x23_6, rfl, HA, HJ6, ⟨mc6, rfl⟩⟩ := hcut
   cases kq with
   | zero => exact absurd HA.out (by simp [a0n.j0])
   | succ kj6 =>
    have H := HA.out
    clear HA
    simp only [a0n.j0] at H
    by_cases c11 : x23_6 = true
    ·subst c11
     have H1 : (some (0, 1)) = some (r1, r2) := by rw [if_pos rfl] at H; exact H
     clear H
     have H := H1
     clear H1
     simp only [Option.some.injEq, Prod.mk.injEq] at H
     obtain ⟨rfl, rfl⟩ := H
     go_wp2
     go_ret2
     exact ⟨qs_, qy_⟩
    ·replace c11 := be_ c11
     subst c11
     have H1 : (if a2 = 1 then (a0n.j1 kj6 a0 a1 l3) else (if a2 = 2 then (a0n.j1 kj6 (wrap64 (a0 + 3)) a1 l3) else (some (0, 1)))) = some (r1, r2) := by rw [if_neg (show ¬ (false = true) by decide)] at H; exact H
     clear H
     have H := H1
     clear H1
     have HC12 := am_ H
     clear H
     go_upto_block 0 with (fail)
     go_cut [0] (fun v0 wc => ∃ (kq : Nat) (x0_11 : Int), v0 = .int .i64 x0_11 ∧ Aside0 (a0n.j1 kq x0_11 a1 l3 = some (r1, r2)) ∧ Aside0 (kq ≤ kj6) ∧ a1j w wc)
     case first =>
      have H := HC12.out
      clear HC12
      by_cases c13 : a2 = 1
      ·rw [if_pos c13] at H
       have c13b0 : (a2 == 1) = true := beq_iff_eq.mpr c13
       have c13b1 : (a2 != 1) = false := bne_eq_false_iff_eq.mpr c13
       clear c13
       (first | rw [c13b0] | (simp only [a3h, a3u]; rw [c13b0]) | skip)
       have H' := am_ H
       clear H
       go_wp2
       go_meet
       case rel => exact ⟨_, (a0), qs_, H', ⟨by have := HJ6.out; first | omega | exact Nat.le_refl _⟩, qy_⟩
      ·rw [if_neg c13] at H
       have c13b0 : (a2 == 1) = false := beq_eq_false_iff_ne.mpr c13
       have c13b1 : (a2 != 1) = true := bne_iff_ne.mpr c13
       (first | rw [c13b0] | (simp only [a3h, a3u]; rw [c13b0]) | skip)
       by_cases c14 : a2 = 2
       ·rw [if_pos c14] at H
        have c14b0 : (a2 == 2) = true := beq_iff_eq.mpr c14
        have c14b1 : (a2 != 2) = false := bne_eq_false_iff_eq.mpr c14
        clear c14
        have H' := am_ H
        clear H
        go_wp2
        go_meet
        case rel => exact ⟨_, (wrap64 (a0 + 3)), qs_, H', ⟨by have := HJ6.out; first | omega | exact Nat.le_refl _⟩, qy_⟩
       ·rw [if_neg c14] at H
        have c14b0 : (a2 == 2) = false := beq_eq_false_iff_ne.mpr c14
        have c14b1 : (a2 != 2) = true := bne_iff_ne.mpr c14
        simp only [Option.some.injEq, Prod.mk.injEq] at H
        obtain ⟨rfl, rfl⟩ := H
        go_wp2
        go_ret2
        exact ⟨qs_, qy_⟩
     case rest =>
      clear HC12
      try clear c1
      try clear p2
      try clear c3
      try clear c5
      try clear c6
      try clear p6
      try clear c8
      try clear c8b0
      try clear c9
      try clear c9b0
      try clear c11
      try clear c13
      try clear c13b0
      try clear c13b1
      try clear c14
      try clear c14b0
      try clear c14b1
      try clear p2
      obtain ⟨kq, x0_11, rfl, HA, HJ11, ⟨mc11, rfl⟩⟩ := hcut
      cases kq with
      | zero => exact absurd HA.out (by simp [a0n.j1])
      | succ kj11 =>
       have H := HA.out
       clear HA
       simp only [a0n.j1] at H
       have H' := am_ H
       clear H
       go_wp2
       go_loopg [0] kj11 (fun kq v0 w' => ∃ (x0_3 : Int), v0 = .int .i64 x0_3 ∧ Aside0 (a0n.l0 kq x0_3 l3 = some (r1, r2)) ∧ Aside0 (kq ≤ kj11) ∧ a1j w w')
       case atStart => exact ⟨(wrap64 (x0_11 + a1)), qs_, H', ⟨Nat.le_refl _⟩, qy_⟩
       case round =>
        clear H'
        try clear c1
        try clear p2
        try clear c3
        try clear c5
        try clear c6
        try clear p6
        try clear c8
        try clear c8b0
        try clear c9
        try clear c9b0
        try clear c11
        try clear c13
        try clear c13b0
        try clear c13b1
        try clear c14
        try clear c14b0
        try clear c14b1
        try clear p2
        try clear p6
        obtain ⟨x0_3, rfl, HA, HK3, ⟨m3, rfl⟩⟩ := hrel
        cases gk with
        | zero => exact absurd HA.out (by simp [a0n.l0])
        | succ k3 =>
         have H := HA.out
         clear HA
         simp only [a0n.l0] at H
         replace H := bm_ H
         obtain ⟨t117, A150, H⟩ := H
         replace H : (if t117 = true then (a0n.l0 k3 (wrap64 (x0_3 + 1)) l3) else ((a3q.f x0_3).bind fun t118 => (if t118 = true then (some (x0_3, 0)) else (some (0, 3))))) = some (r1, r2) := H
         have A15 := am_ A150
         clear A150
         by_cases c16 : t117 = true
         ·subst c16
          have H1 : (a0n.l0 k3 (wrap64 (x0_3 + 1)) l3) = some (r1, r2) := by rw [if_pos rfl] at H; exact H
          clear H
          have H := H1
          clear H1
          have H' := am_ H
          clear H
          go_wp2_with (first | ((with_reducible refine a0e (f := 60) rfl ?_); refine a0w (some 36) rfl rfl Try.func60 (by kernel_rfl) rfl #[.slice A3 l3.length c3, .int .i64 x0_3] rfl ql_ ?_; (with_reducible refine (a2e.calls k3 _ _ l3 x0_3 true _ ?s1 ?s2 A15.out).mono ?_); (case s1 => repeat (first | exact HR3.out | (with_reducible refine Kd.a2b ?_ _) | (with_reducible refine Kd.a2c ?_ _) | (with_reducible refine Kd.a2m ?_))); (case s2 => exact HC3.out); rintro e w' ⟨rfl, ⟨nd, rfl⟩⟩; refine ⟨_, rfl, ?_⟩))
          go_roundg k3
          case measure => have := HJ6.out; have := HJ11.out; have := HK3.out; omega
          case rel => exact ⟨(wrap64 (x0_3 + 1)), qs_, H', ⟨by have := HJ6.out; have := HJ11.out; have := HK3.out; omega⟩, qy_⟩
         ·replace c16 := be_ c16
          subst c16
          have H1 : ((a3q.f x0_3).bind fun t118 => (if t118 = true then (some (x0_3, 0)) else (some (0, 3)))) = some (r1, r2) := by rw [if_neg (show ¬ (false = true) by decide)] at H; exact H
          clear H
          have H := H1
          clear H1
          replace H := bm_ H
          obtain ⟨t118, A170, H⟩ := H
          replace H : (if t118 = true then (some (x0_3, 0)) else (some (0, 3))) = some (r1, r2) := H
          have A17 := am_ A170
          clear A170
          by_cases c18 : t118 = true
          ·subst c18
           have H1 : (some (x0_3, 0)) = some (r1, r2) := by rw [if_pos rfl] at H; exact H
           clear H
           have H := H1
           clear H1
           simp only [Option.some.injEq, Prod.mk.injEq] at H
           obtain ⟨rfl, rfl⟩ := H
           go_wp2_with (first | ((with_reducible refine a0e (f := 60) rfl ?_); refine a0w (some 36) rfl rfl Try.func60 (by kernel_rfl) rfl #[.slice A3 l3.length c3, .int .i64 x0_3] rfl ql_ ?_; (with_reducible refine (a2e.calls k3 _ _ l3 x0_3 false _ ?s1 ?s2 A15.out).mono ?_); (case s1 => repeat (first | exact HR3.out | (with_reducible refine Kd.a2b ?_ _) | (with_reducible refine Kd.a2c ?_ _) | (with_reducible refine Kd.a2m ?_))); (case s2 => exact HC3.out); rintro e w' ⟨rfl, ⟨nd, rfl⟩⟩; refine ⟨_, rfl, ?_⟩) | ((with_reducible refine a0e (f := 58) rfl ?_); refine a0w (some 40) rfl rfl Try.func58 (by kernel_rfl) rfl #[.int .i64 x0_3] rfl ql_ ?_; (with_reducible refine (a3q.calls x0_3 true _ A17.out).mono ?_); rintro e w' ⟨rfl, ⟨nd, rfl⟩⟩; refine ⟨_, rfl, ?_⟩))
           go_ret2
           exact ⟨qs_, qy_⟩
          ·replace c18 := be_ c18
           subst c18
           have H1 : (some (0, 3)) = some (r1, r2) := by rw [if_neg (show ¬ (false = true) by decide)] at H; exact H
           clear H
           have H := H1
           clear H1
           simp only [Option.some.injEq, Prod.mk.injEq] at H
           obtain ⟨rfl, rfl⟩ := H
           go_wp2_with (first | ((with_reducible refine a0e (f := 60) rfl ?_); refine a0w (some 36) rfl rfl Try.func60 (by kernel_rfl) rfl #[.slice A3 l3.length c3, .int .i64 x0_3] rfl ql_ ?_; (with_reducible refine (a2e.calls k3 _ _ l3 x0_3 false _ ?s1 ?s2 A15.out).mono ?_); (case s1 => repeat (first | exact HR3.out | (with_reducible refine Kd.a2b ?_ _) | (with_reducible refine Kd.a2c ?_ _) | (with_reducible refine Kd.a2m ?_))); (case s2 => exact HC3.out); rintro e w' ⟨rfl, ⟨nd, rfl⟩⟩; refine ⟨_, rfl, ?_⟩) | ((with_reducible refine a0e (f := 58) rfl ?_); refine a0w (some 40) rfl rfl Try.func58 (by kernel_rfl) rfl #[.int .i64 x0_3] rfl ql_ ?_; (with_reducible refine (a3q.calls x0_3 false _ A17.out).mono ?_); rintro e w' ⟨rfl, ⟨nd, rfl⟩⟩; refine ⟨_, rfl, ?_⟩))
           go_ret2
           exact ⟨qs_, qy_⟩
 ·replace c6 := be_ c6
  subst c6
  have H1 : (some (0, 3)) = some (r1, r2) := by rw [if_neg (show ¬ (false = true) by decide)] at H; exact H
  clear H
  have H := H1
  clear H1
  simp only [Option.some.injEq, Prod.mk.injEq] at H
  obtain ⟨rfl, rfl⟩ := H
  go_enter Try.func61, Try.ntmps61
  go_wp2_with (first | ((with_reducible refine a0e (f := 58) rfl ?_); refine a0w (some 11) rfl rfl Try.func58 (by kernel_rfl) rfl #[.int .i64 a0] rfl ql_ ?_; (with_reducible refine (a3q.calls a0 false _ A5.out).mono ?_); rintro e w' ⟨rfl, ⟨nd, rfl⟩⟩; refine ⟨_, rfl, ?_⟩))
  go_ret2
  exact ⟨qs_, qy_⟩
def a5n.f (k : Nat) (a0_0 a0_1 a0_2 a0_3 : Int) (a0_4 : Bool) (a0_5 a0_6 a0_7 : Int) (l0_8 : List ByteArray) (l0_9 : List (S43)) (l0_10 : List Int) (a0_11 : ByteArray) (l0_12 : List Int) : Option (Bool) := (a0n.f k a0_5 a0_0 a0_6 l0_12).bind fun bt120 => (if bt120.2 = 0 then (some (decide (a0_7 < bt120.1))) else (some true))
theorem a5n.mono : ∀ a0 a1 a2 a3 a4 a5 a6 a7 a8 a9 a10 a11 a12 k, LeO (a5n.f k a0 a1 a2 a3 a4 a5 a6 a7 a8 a9 a10 a11 a12) (a5n.f (k + 1) a0 a1 a2 a3 a4 a5 a6 a7 a8 a9 a10 a11 a12) := by
 intro a0 a1 a2 a3 a4 a5 a6 a7 a8 a9 a10 a11 a12 k
 unfold a5n.f
 with_reducible (repeat' first | apply a0n.mono | apply LeO.refl | apply LeO.none | apply LeO.ite | refine LeO.bind ?_ (fun _ => ?_))
set_option maxHeartbeats 8000000 in
set_option maxRecDepth 100000 in
theorem a5n.calls (k : Nat) (a0_0 a0_1 a0_2 a0_3 : Int) (a0_4 : Bool) (a0_5 a0_6 a0_7 : Int) (A0_8 : Option Addr) (c0_8 : Nat) (l0_8 : List ByteArray) (A0_9 : Option Addr) (c0_9 : Nat) (l0_9 : List (S43)) (A0_10 : Option Addr) (c0_10 : Nat) (l0_10 : List Int) (a0_11 : ByteArray) (A0_12 : Option Addr) (c0_12 : Nat) (l0_12 : List Int) (r : Bool) (w : World) (hr0_8 : Kd.C Kd.string w A0_8 l0_8.length l0_8) (hc0_8 : l0_8.length ≤ c0_8) (hr0_9 : Kd.C k43 w A0_9 l0_9.length l0_9) (hc0_9 : l0_9.length ≤ c0_9) (hr0_10 : Kd.C (Kd.int .i64) w A0_10 l0_10.length l0_10) (hc0_10 : l0_10.length ≤ c0_10) (hr0_12 : Kd.C (Kd.int .i64) w A0_12 l0_12.length l0_12) (hc0_12 : l0_12.length ≤ c0_12) (h : a5n.f k a0_0 a0_1 a0_2 a0_3 a0_4 a0_5 a0_6 a0_7 l0_8 l0_9 l0_10 a0_11 l0_12 = some r) :
  Calls Try.prog 44 #[.agg #[.int .i64 a0_0, .int .i64 a0_1, .int .i64 a0_2, .int .i64 a0_3, .bool a0_4, .int .i64 a0_5, .int .i64 a0_6, .int .i64 a0_7, .slice A0_8 l0_8.length c0_8, .slice A0_9 l0_9.length c0_9, .slice A0_10 l0_10.length c0_10, .string a0_11, .slice A0_12 l0_12.length c0_12]] w fun e w' => e = .returned (.bool r) ∧ Below w.heap.size w w' := by
 have hu62 := Try.underlying62
 have HR0_8 := am_ hr0_8
 have HC0_8 := am_ hc0_8
 clear hr0_8 hc0_8
 have HR0_9 := am_ hr0_9
 have HC0_9 := am_ hc0_9
 clear hr0_9 hc0_9
 have HR0_10 := am_ hr0_10
 have HC0_10 := am_ hc0_10
 clear hr0_10 hc0_10
 have HR0_12 := am_ hr0_12
 have HC0_12 := am_ hc0_12
 clear hr0_12 hc0_12
 have HB := am_ (Below.refl w.heap.size w)
 have H : ((a0n.f k a0_5 a0_0 a0_6 l0_12).bind fun bt120 => (if bt120.2 = 0 then (some (decide (a0_7 < bt120.1))) else (some true))) = some r := h
 clear h
 replace H := bm_ H
 obtain ⟨⟨t120, t121⟩, A20, H⟩ := H
 replace H : (if t121 = 0 then (some (decide (a0_7 < t120))) else (some true)) = some r := H
 have A2 := am_ A20
 clear A20
 by_cases c3 : t121 = 0
 ·rw [if_pos c3] at H
  have c3b0 : (t121 == 0) = true := beq_iff_eq.mpr c3
  have c3b1 : (t121 != 0) = false := bne_eq_false_iff_eq.mpr c3
  clear c3
  obtain rfl := si_ H
  go_enter Try.func44, Try.ntmps44
  go_wp2_with (first | ((with_reducible refine a0f (N := 1) rfl ?_); refine qev_ 1 #[.int .i64 a0_0, .int .i64 a0_1, .int .i64 a0_2, .int .i64 a0_3, .bool a0_4, .int .i64 a0_5, .int .i64 a0_6, .int .i64 a0_7, .slice A0_8 l0_8.length c0_8, .slice A0_9 l0_9.length c0_9, .slice A0_10 l0_10.length c0_10, .string a0_11, .slice A0_12 l0_12.length c0_12] 62 ?_; intro gb119 hg w4 hbox hb; have BK119 := am_ (hbox); have GW119 := qga_ hg; have GE119 := qga_ hg; replace HB := qbs_ hb; clear hb hbox hg; obtain ⟨z'5_0, z'5_1, z'5_2, z'5_3, z'5_4, z'5_5, z'5_6, z'5_7, z'5_8, z'5_9, z'5_10, z'5_11, z'5_12⟩ := a1u BK119; obtain ⟨y'5_0, y'5_1, y'5_2, y'5_3, y'5_4, y'5_5, y'5_6, y'5_7, y'5_8, y'5_9, y'5_10, y'5_11, y'5_12⟩ := a1v BK119) | ((with_reducible refine a0e (f := 61) rfl ?_); refine a0w (some 17) rfl rfl Try.func61 (by kernel_rfl) rfl #[.int .i64 a0_5, .int .i64 a0_0, .int .i64 a0_6, .slice A0_12 l0_12.length c0_12] rfl ql_ ?_; (with_reducible refine (a0n.calls k a0_5 a0_0 a0_6 _ _ l0_12 t120 t121 _ ?s1 ?s2 A2.out).mono ?_); (case s1 => exact qc_ HR0_12); (case s2 => exact HC0_12.out); rintro e w' ⟨rfl, ⟨nd, rfl⟩⟩; refine ⟨_, rfl, ?_⟩))
  go_ret
  exact ⟨qx_, qb_⟩
 ·rw [if_neg c3] at H
  have c3b0 : (t121 == 0) = false := beq_eq_false_iff_ne.mpr c3
  have c3b1 : (t121 != 0) = true := bne_iff_ne.mpr c3
  obtain rfl := si_ H
  go_enter Try.func44, Try.ntmps44
  go_wp2_with (first | ((with_reducible refine a0f (N := 1) rfl ?_); refine qev_ 1 #[.int .i64 a0_0, .int .i64 a0_1, .int .i64 a0_2, .int .i64 a0_3, .bool a0_4, .int .i64 a0_5, .int .i64 a0_6, .int .i64 a0_7, .slice A0_8 l0_8.length c0_8, .slice A0_9 l0_9.length c0_9, .slice A0_10 l0_10.length c0_10, .string a0_11, .slice A0_12 l0_12.length c0_12] 62 ?_; intro gb119 hg w6 hbox hb; have BK119 := am_ (hbox); have GW119 := qga_ hg; have GE119 := qga_ hg; replace HB := qbs_ hb; clear hb hbox hg; obtain ⟨z'7_0, z'7_1, z'7_2, z'7_3, z'7_4, z'7_5, z'7_6, z'7_7, z'7_8, z'7_9, z'7_10, z'7_11, z'7_12⟩ := a1u BK119; obtain ⟨y'7_0, y'7_1, y'7_2, y'7_3, y'7_4, y'7_5, y'7_6, y'7_7, y'7_8, y'7_9, y'7_10, y'7_11, y'7_12⟩ := a1v BK119) | ((with_reducible refine a0e (f := 61) rfl ?_); refine a0w (some 17) rfl rfl Try.func61 (by kernel_rfl) rfl #[.int .i64 a0_5, .int .i64 a0_0, .int .i64 a0_6, .slice A0_12 l0_12.length c0_12] rfl ql_ ?_; (with_reducible refine (a0n.calls k a0_5 a0_0 a0_6 _ _ l0_12 t120 t121 _ ?s1 ?s2 A2.out).mono ?_); (case s1 => exact qc_ HR0_12); (case s2 => exact HC0_12.out); rintro e w' ⟨rfl, ⟨nd, rfl⟩⟩; refine ⟨_, rfl, ?_⟩))
  go_ret
  exact ⟨qx_, qb_⟩
def Si.l0 : Nat → List ByteArray → ByteArray → Int → Int → Option (Int)
 | 0, _, _, _, _ => none
 | k + 1, x0, x1, x7, x8 => if x8 < x7 then (if 0 ≤ x8 then (if x8 < (x0.length : Int) then (if x1.toList = (rdOf ByteArray.empty x0 x8).toList then (some x8) else (Si.l0 k x0 x1 x7 (wrap64 (x8 + 1)))) else (none)) else (none)) else (some (-1))
def Si.f (k : Nat) (l0 : List ByteArray) (a1 : ByteArray) : Option (Int) := Si.l0 k l0 a1 (l0.length : Int) 0
theorem Si.a0t : ∀ k, (∀ y0 y1 y2 y3, LeO (Si.l0 k y0 y1 y2 y3) (Si.l0 (k + 1) y0 y1 y2 y3))
 | 0 => fun _ _ _ _ r h => by simp [Si.l0] at h
 | k + 1 => by
  have ih0 := Si.a0t k
  ·intro y0 y1 y2 y3
   unfold Si.l0
   with_reducible (repeat' first | apply ih0 | apply LeO.refl | apply LeO.none | apply LeO.ite | refine LeO.bind ?_ (fun _ => ?_))
theorem Si.mono : ∀ a0 a1 k, LeO (Si.f k a0 a1) (Si.f (k + 1) a0 a1) := by
 intro a0 a1 k
 have ih0 := Si.a0t k
 unfold Si.f
 with_reducible (repeat' first | apply ih0 | apply LeO.refl | apply LeO.none | apply LeO.ite | refine LeO.bind ?_ (fun _ => ?_))
set_option maxHeartbeats 8000000 in
set_option maxRecDepth 100000 in
theorem Si.calls (k : Nat) (A0 : Option Addr) (c0 : Nat) (l0 : List ByteArray) (a1 : ByteArray) (r : Int) (w : World) (hr0 : Kd.C Kd.string w A0 l0.length l0) (hc0 : l0.length ≤ c0) (h : Si.f k l0 a1 = some r) :
  Calls Try.prog 75 #[.slice A0 l0.length c0, .string a1] w fun e w' => e = .returned (.int .i64 r) ∧ a1j w w' := by
 have HR0 := am_ hr0
 have HC0 := am_ hc0
 clear hr0 hc0
 have H : (Si.l0 k l0 a1 (l0.length : Int) 0) = some r := h
 clear h
 have H' := am_ H
 clear H
 go_enter Try.func75, Try.ntmps75
 go_wp2
 go_loopg [8] k (fun kq v8 w' => ∃ (x8_1 : Int), v8 = .int .i64 x8_1 ∧ Aside0 (Si.l0 kq l0 a1 (l0.length : Int) x8_1 = some r) ∧ Aside0 (kq ≤ k) ∧ a1j w w')
 case atStart => exact ⟨(0), qs_, H', ⟨Nat.le_refl _⟩, qy_⟩
 case round =>
  clear H'
  try clear p2
  obtain ⟨x8_1, rfl, HA, HK1, ⟨m1, rfl⟩⟩ := hrel
  cases gk with
  | zero => exact absurd HA.out (by simp [Si.l0])
  | succ k1 =>
   have H := HA.out
   clear HA
   simp only [Si.l0] at H
   by_cases c3 : x8_1 < (l0.length : Int)
   ·rw [if_pos c3] at H
    have c3b0 : decide (x8_1 < (l0.length : Int)) = true := decide_eq_true c3
    clear c3
    by_cases c4 : 0 ≤ x8_1
    ·rw [if_pos c4] at H
     have c4b0 : decide (0 ≤ x8_1) = true := decide_eq_true c4
     clear c4
     by_cases c5 : x8_1 < (l0.length : Int)
     ·rw [if_pos c5] at H
      have c5b0 : decide (x8_1 < (l0.length : Int)) = true := decide_eq_true c5
      clear c5
      by_cases c6 : a1.toList = (rdOf ByteArray.empty l0 x8_1).toList
      ·rw [if_pos c6] at H
       have c6b0 : (a1.toList == (rdOf ByteArray.empty l0 x8_1).toList) = true := beq_iff_eq.mpr c6
       have c6b1 : (a1.toList != (rdOf ByteArray.empty l0 x8_1).toList) = false := bne_eq_false_iff_eq.mpr c6
       clear c6
       obtain rfl := si_ H
       have p122 : 0 ≤ (x8_1 : Int) := ot_
       have q122 : x8_1 < (l0.length : Int) := ot_
       obtain ⟨ad122, e122, hx122_0⟩ := Kd.a4d HR0.out x8_1 p122 q122
       cases e122
       replace p122 := eq_true p122
       replace q122 := eq_true q122
       go_wp2
       go_ret
       exact ⟨qs_, qy_⟩
      ·rw [if_neg c6] at H
       have c6b0 : (a1.toList == (rdOf ByteArray.empty l0 x8_1).toList) = false := beq_eq_false_iff_ne.mpr c6
       have c6b1 : (a1.toList != (rdOf ByteArray.empty l0 x8_1).toList) = true := bne_iff_ne.mpr c6
       have H' := am_ H
       clear H
       have p122 : 0 ≤ (x8_1 : Int) := ot_
       have q122 : x8_1 < (l0.length : Int) := ot_
       obtain ⟨ad122, e122, hx122_0⟩ := Kd.a4d HR0.out x8_1 p122 q122
       cases e122
       replace p122 := eq_true p122
       replace q122 := eq_true q122
       go_wp2
       go_roundg k1
       case measure => have := HK1.out; omega
       case rel => exact ⟨(wrap64 (x8_1 + 1)), qs_, H', ⟨by have := HK1.out; omega⟩, qy_⟩
     ·rw [if_neg c5] at H
      exact absurd H (by simp)
    ·rw [if_neg c4] at H
     exact absurd H (by simp)
   ·rw [if_neg c3] at H
    have c3b0 : decide (x8_1 < (l0.length : Int)) = false := decide_eq_false c3
    clear c3
    obtain rfl := si_ H
    go_wp2
    go_ret
    exact ⟨qs_, qy_⟩
def Sc.f (k : Nat) (l0 : List ByteArray) (a1 : ByteArray) : Option (Bool) := (Si.f k l0 a1).bind fun t123 => (some (decide (t123 ≥ 0)))
theorem Sc.mono : ∀ a0 a1 k, LeO (Sc.f k a0 a1) (Sc.f (k + 1) a0 a1) := by
 intro a0 a1 k
 unfold Sc.f
 with_reducible (repeat' first | apply Si.mono | apply LeO.refl | apply LeO.none | apply LeO.ite | refine LeO.bind ?_ (fun _ => ?_))
set_option maxHeartbeats 8000000 in
set_option maxRecDepth 100000 in
theorem Sc.calls (k : Nat) (A0 : Option Addr) (c0 : Nat) (l0 : List ByteArray) (a1 : ByteArray) (r : Bool) (w : World) (hr0 : Kd.C Kd.string w A0 l0.length l0) (hc0 : l0.length ≤ c0) (h : Sc.f k l0 a1 = some r) :
  Calls Try.prog 62 #[.slice A0 l0.length c0, .string a1] w fun e w' => e = .returned (.bool r) ∧ a1j w w' := by
 have HR0 := am_ hr0
 have HC0 := am_ hc0
 clear hr0 hc0
 have H : ((Si.f k l0 a1).bind fun t123 => (some (decide (t123 ≥ 0)))) = some r := h
 clear h
 replace H := bm_ H
 obtain ⟨t123, A30, H⟩ := H
 replace H : (some (decide (t123 ≥ 0))) = some r := H
 have A3 := am_ A30
 clear A30
 obtain rfl := si_ H
 go_enter Try.func62, Try.ntmps62
 go_wp2_with (first | ((with_reducible refine a0e (f := 75) rfl ?_); refine a0w (some 7) rfl rfl Try.func75 (by kernel_rfl) rfl #[.slice A0 l0.length c0, .string a1] rfl ql_ ?_; (with_reducible refine (Si.calls k _ _ l0 a1 t123 _ ?s1 ?s2 A3.out).mono ?_); (case s1 => repeat (first | exact HR0.out | (with_reducible refine Kd.a2b ?_ _) | (with_reducible refine Kd.a2c ?_ _) | (with_reducible refine Kd.a2m ?_))); (case s2 => exact HC0.out); rintro e w' ⟨rfl, ⟨nd, rfl⟩⟩; refine ⟨_, rfl, ?_⟩))
 go_ret
 exact ⟨qs_, qy_⟩
def a4h.f (k : Nat) (a0_0 a0_1 a0_2 a0_3 : Int) (a0_4 : Bool) (a0_5 a0_6 a0_7 : Int) (l0_8 : List ByteArray) (l0_9 : List (S43)) (l0_10 : List Int) (a0_11 : ByteArray) (l0_12 : List Int) : Option (Bool) := (Sc.f k l0_8 a0_11).bind fun t125 => (some (!t125))
theorem a4h.mono : ∀ a0 a1 a2 a3 a4 a5 a6 a7 a8 a9 a10 a11 a12 k, LeO (a4h.f k a0 a1 a2 a3 a4 a5 a6 a7 a8 a9 a10 a11 a12) (a4h.f (k + 1) a0 a1 a2 a3 a4 a5 a6 a7 a8 a9 a10 a11 a12) := by
 intro a0 a1 a2 a3 a4 a5 a6 a7 a8 a9 a10 a11 a12 k
 unfold a4h.f
 with_reducible (repeat' first | apply Sc.mono | apply LeO.refl | apply LeO.none | apply LeO.ite | refine LeO.bind ?_ (fun _ => ?_))
set_option maxHeartbeats 8000000 in
set_option maxRecDepth 100000 in
theorem a4h.calls (k : Nat) (a0_0 a0_1 a0_2 a0_3 : Int) (a0_4 : Bool) (a0_5 a0_6 a0_7 : Int) (A0_8 : Option Addr) (c0_8 : Nat) (l0_8 : List ByteArray) (A0_9 : Option Addr) (c0_9 : Nat) (l0_9 : List (S43)) (A0_10 : Option Addr) (c0_10 : Nat) (l0_10 : List Int) (a0_11 : ByteArray) (A0_12 : Option Addr) (c0_12 : Nat) (l0_12 : List Int) (r : Bool) (w : World) (hr0_8 : Kd.C Kd.string w A0_8 l0_8.length l0_8) (hc0_8 : l0_8.length ≤ c0_8) (hr0_9 : Kd.C k43 w A0_9 l0_9.length l0_9) (hc0_9 : l0_9.length ≤ c0_9) (hr0_10 : Kd.C (Kd.int .i64) w A0_10 l0_10.length l0_10) (hc0_10 : l0_10.length ≤ c0_10) (hr0_12 : Kd.C (Kd.int .i64) w A0_12 l0_12.length l0_12) (hc0_12 : l0_12.length ≤ c0_12) (h : a4h.f k a0_0 a0_1 a0_2 a0_3 a0_4 a0_5 a0_6 a0_7 l0_8 l0_9 l0_10 a0_11 l0_12 = some r) :
  Calls Try.prog 45 #[.agg #[.int .i64 a0_0, .int .i64 a0_1, .int .i64 a0_2, .int .i64 a0_3, .bool a0_4, .int .i64 a0_5, .int .i64 a0_6, .int .i64 a0_7, .slice A0_8 l0_8.length c0_8, .slice A0_9 l0_9.length c0_9, .slice A0_10 l0_10.length c0_10, .string a0_11, .slice A0_12 l0_12.length c0_12]] w fun e w' => e = .returned (.bool r) ∧ Below w.heap.size w w' := by
 have hu62 := Try.underlying62
 have HR0_8 := am_ hr0_8
 have HC0_8 := am_ hc0_8
 clear hr0_8 hc0_8
 have HR0_9 := am_ hr0_9
 have HC0_9 := am_ hc0_9
 clear hr0_9 hc0_9
 have HR0_10 := am_ hr0_10
 have HC0_10 := am_ hc0_10
 clear hr0_10 hc0_10
 have HR0_12 := am_ hr0_12
 have HC0_12 := am_ hc0_12
 clear hr0_12 hc0_12
 have HB := am_ (Below.refl w.heap.size w)
 have H : ((Sc.f k l0_8 a0_11).bind fun t125 => (some (!t125))) = some r := h
 clear h
 replace H := bm_ H
 obtain ⟨t125, A20, H⟩ := H
 replace H : (some (!t125)) = some r := H
 have A2 := am_ A20
 clear A20
 obtain rfl := si_ H
 go_enter Try.func45, Try.ntmps45
 go_wp2_with (first | ((with_reducible refine a0f (N := 1) rfl ?_); refine qev_ 1 #[.int .i64 a0_0, .int .i64 a0_1, .int .i64 a0_2, .int .i64 a0_3, .bool a0_4, .int .i64 a0_5, .int .i64 a0_6, .int .i64 a0_7, .slice A0_8 l0_8.length c0_8, .slice A0_9 l0_9.length c0_9, .slice A0_10 l0_10.length c0_10, .string a0_11, .slice A0_12 l0_12.length c0_12] 62 ?_; intro gb124 hg w3 hbox hb; have BK124 := am_ (hbox); have GW124 := qga_ hg; have GE124 := qga_ hg; replace HB := qbs_ hb; clear hb hbox hg; obtain ⟨z'4_0, z'4_1, z'4_2, z'4_3, z'4_4, z'4_5, z'4_6, z'4_7, z'4_8, z'4_9, z'4_10, z'4_11, z'4_12⟩ := a1u BK124; obtain ⟨y'4_0, y'4_1, y'4_2, y'4_3, y'4_4, y'4_5, y'4_6, y'4_7, y'4_8, y'4_9, y'4_10, y'4_11, y'4_12⟩ := a1v BK124) | ((with_reducible refine a0e (f := 62) rfl ?_); refine a0w (some 8) rfl rfl Try.func62 (by kernel_rfl) rfl #[.slice A0_8 l0_8.length c0_8, .string a0_11] rfl ql_ ?_; (with_reducible refine (Sc.calls k _ _ l0_8 a0_11 t125 _ ?s1 ?s2 A2.out).mono ?_); (case s1 => exact qc_ HR0_8); (case s2 => exact HC0_8.out); rintro e w' ⟨rfl, ⟨nd, rfl⟩⟩; refine ⟨_, rfl, ?_⟩))
 go_ret
 exact ⟨qx_, qb_⟩
def a6f.f (a0_0 a0_1 a0_2 : Int) : Option (Int) := some a0_1
set_option maxHeartbeats 8000000 in
set_option maxRecDepth 100000 in
theorem a6f.calls (a0_0 a0_1 a0_2 r : Int) (w : World) (h : a6f.f a0_0 a0_1 a0_2 = some r) :
  Calls Try.prog 34 #[.agg #[.int .i64 a0_0, .int .i64 a0_1, .int .i64 a0_2]] w fun e w' => e = .returned (.int .i64 r) ∧ Below w.heap.size w w' := by
 have hu43 := Try.underlying43
 have HB := am_ (Below.refl w.heap.size w)
 have H : (some a0_1) = some r := h
 clear h
 obtain rfl := si_ H
 go_enter Try.func34, Try.ntmps34
 go_wp2_with (first | ((with_reducible refine a0f (N := 1) rfl ?_); refine qev_ 1 #[.int .i64 a0_0, .int .i64 a0_1, .int .i64 a0_2] 43 ?_; intro gb126 hg w2 hbox hb; have BK126 := am_ (hbox); have GW126 := qga_ hg; have GE126 := qga_ hg; replace HB := qbs_ hb; clear hb hbox hg; obtain ⟨z'3_0, z'3_1, z'3_2⟩ := qz3_ BK126; obtain ⟨y'3_0, y'3_1, y'3_2⟩ := qf3_ BK126))
 go_ret
 exact ⟨qx_, qb_⟩
end Go.Proofs.Ytemnlgefngjliaa.Px
