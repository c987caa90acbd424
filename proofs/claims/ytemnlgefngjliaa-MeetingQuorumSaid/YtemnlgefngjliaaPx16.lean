/- Contracts of Go functions, printed. Conditions: as each theorem states. -/
import Derived.Test.YtemnlgefngjliaaPx0
import Derived.Test.YtemnlgefngjliaaPx1
namespace Go.Proofs.Ytemnlgefngjliaa.Px
open Go.Proofs.Ytemnlgefngjliaa.Given
open Go.RowKit Go.Proofs.YtemnlgefngjliaaW.PrintWords Go.Proofs.YtemnlgefngjliaaW.PrintLast Go.Proofs.YtemnlgefngjliaaW.PrintMore
attribute [local go_sem] a2f a2g a2r a2s a1x a1y a2h a2i
set_option linter.unusedVariables false
set_option linter.unusedSimpArgs false
attribute [local go_sem high] b8p
mutual
def a2u.l0 : Nat → Int → Int → Int → Int → List ByteArray → List (S43) → List Int → Option (Bool)
 | 0, _, _, _, _, _, _, _ => none
 | k + 1, x3, z0, z1, z2, z3, z4, z5 => if x3 < (z3.length : Int) then (a2u.j1 k x3 (decide (x3 < 30)) z0 z1 z2 z3 z4 z5) else (a2u.j1 k x3 false z0 z1 z2 z3 z4 z5)
def a2u.j1 : Nat → Int → Bool → Int → Int → Int → List ByteArray → List (S43) → List Int → Option (Bool)
 | 0, _, _, _, _, _, _, _, _ => none
 | k + 1, x3, x12, z0, z1, z2, z3, z4, z5 => if x12 = true then (if 0 ≤ x3 then (if x3 < (z3.length : Int) then (if ((rdOf ByteArray.empty z3 x3).size : Int) > 100 then (some false) else (a2u.l0 k (wrap64 (x3 + 1)) z0 z1 z2 z3 z4 z5)) else (none)) else (none)) else (if (z3.length : Int) ≤ 30 then (if (z4.length : Int) ≤ 70 then (some (decide ((z5.length : Int) ≤ 70))) else (some false)) else (some false))
end
def a2u.f (k : Nat) (a0_0 a0_1 a0_2 : Int) (l0_3 : List ByteArray) (l0_4 : List (S43)) (l0_5 : List Int) : Option (Bool) := a2u.l0 k 0 a0_0 a0_1 a0_2 l0_3 l0_4 l0_5
theorem a2u.a0t : ∀ k, (∀ y0 y1 y2 y3 y4 y5 y6, LeO (a2u.l0 k y0 y1 y2 y3 y4 y5 y6) (a2u.l0 (k + 1) y0 y1 y2 y3 y4 y5 y6)) ∧ (∀ y0 y1 y2 y3 y4 y5 y6 y7, LeO (a2u.j1 k y0 y1 y2 y3 y4 y5 y6 y7) (a2u.j1 (k + 1) y0 y1 y2 y3 y4 y5 y6 y7))
 | 0 => ⟨fun _ _ _ _ _ _ _ r h => by simp [a2u.l0] at h, fun _ _ _ _ _ _ _ _ r h => by simp [a2u.j1] at h⟩
 | k + 1 => by
  obtain ⟨ih0, ih1⟩ := a2u.a0t k
  refine ⟨?_, ?_⟩
  ·intro y0 y1 y2 y3 y4 y5 y6
   unfold a2u.l0
   with_reducible (repeat' first | apply ih0 | apply ih1 | apply LeO.refl | apply LeO.none | apply LeO.ite | refine LeO.bind ?_ (fun _ => ?_))
  ·intro y0 y1 y2 y3 y4 y5 y6 y7
   unfold a2u.j1
   with_reducible (repeat' first | apply ih0 | apply ih1 | apply LeO.refl | apply LeO.none | apply LeO.ite | refine LeO.bind ?_ (fun _ => ?_))
theorem a2u.mono : ∀ a0 a1 a2 a3 a4 a5 k, LeO (a2u.f k a0 a1 a2 a3 a4 a5) (a2u.f (k + 1) a0 a1 a2 a3 a4 a5) := by
 intro a0 a1 a2 a3 a4 a5 k
 obtain ⟨ih0, ih1⟩ := a2u.a0t k
 unfold a2u.f
 with_reducible (repeat' first | apply ih0 | apply ih1 | apply LeO.refl | apply LeO.none | apply LeO.ite | refine LeO.bind ?_ (fun _ => ?_))
set_option maxHeartbeats 8000000 in
set_option maxRecDepth 100000 in
theorem a2u.calls (k : Nat) (a0_0 a0_1 a0_2 : Int) (A0_3 : Option Addr) (c0_3 : Nat) (l0_3 : List ByteArray) (A0_4 : Option Addr) (c0_4 : Nat) (l0_4 : List (S43)) (A0_5 : Option Addr) (c0_5 : Nat) (l0_5 : List Int) (r : Bool) (w : World) (hr0_3 : Kd.C Kd.string w A0_3 l0_3.length l0_3) (hc0_3 : l0_3.length ≤ c0_3) (hr0_4 : Kd.C k43 w A0_4 l0_4.length l0_4) (hc0_4 : l0_4.length ≤ c0_4) (hr0_5 : Kd.C (Kd.int .i64) w A0_5 l0_5.length l0_5) (hc0_5 : l0_5.length ≤ c0_5) (h : a2u.f k a0_0 a0_1 a0_2 l0_3 l0_4 l0_5 = some r) :
  Calls Try.prog 12 #[.agg #[.int .i64 a0_0, .int .i64 a0_1, .int .i64 a0_2, .slice A0_3 l0_3.length c0_3, .slice A0_4 l0_4.length c0_4, .slice A0_5 l0_5.length c0_5]] w fun e w' => e = .returned (.bool r) ∧ Below w.heap.size w w' := by
 have hu30 := Try.underlying30
 have HR0_3 := am_ hr0_3
 have HC0_3 := am_ hc0_3
 clear hr0_3 hc0_3
 have HR0_4 := am_ hr0_4
 have HC0_4 := am_ hc0_4
 clear hr0_4 hc0_4
 have HR0_5 := am_ hr0_5
 have HC0_5 := am_ hc0_5
 clear hr0_5 hc0_5
 have HB := am_ (Below.refl w.heap.size w)
 have H : (a2u.l0 k 0 a0_0 a0_1 a0_2 l0_3 l0_4 l0_5) = some r := h
 clear h
 have H' := am_ H
 clear H
 go_enter Try.func12, Try.ntmps12
 go_wp2_with (first | ((with_reducible refine a0f (N := 1) rfl ?_); (try (refine a3n (by rfl) ?_; dsimp only)); refine qev_ 1 #[.int .i64 a0_0, .int .i64 a0_1, .int .i64 a0_2, .slice A0_3 l0_3.length c0_3, .slice A0_4 l0_4.length c0_4, .slice A0_5 l0_5.length c0_5] 30 ?_; intro gb347 hg w2 hbox hb; have BK347 := am_ (hbox); have GW347 := qga_ hg; have GE347 := qga_ hg; replace HB := qbs_ hb; clear hb hbox hg))
 go_loopg [3] k (fun kq v3 w' => ∃ (x3_1 : Int), v3 = .int .i64 x3_1 ∧ Aside0 (a2u.l0 kq x3_1 a0_0 a0_1 a0_2 l0_3 l0_4 l0_5 = some r) ∧ Aside0 (kq ≤ k) ∧ Aside0 (w'.heap[gb347]? = some (.cells #[.int .i64 a0_0, .int .i64 a0_1, .int .i64 a0_2, (.slice A0_3 l0_3.length c0_3), (.slice A0_4 l0_4.length c0_4), (.slice A0_5 l0_5.length c0_5)] 30 (0, 0))) ∧ Aside0 (Below w.heap.size w w'))
 case atStart => exact ⟨(0), qs_, H', ⟨Nat.le_refl _⟩, ⟨qk_ BK347⟩, ⟨qb_⟩⟩
 case round =>
  clear H'
  try clear c1
  try clear p2
  obtain ⟨x3_1, rfl, HA, HK1, BK347, HB⟩ := hrel
  cases gk with
  | zero => exact absurd HA.out (by simp [a2u.l0])
  | succ k1 =>
   have H := HA.out
   clear HA
   simp only [a2u.l0] at H
   have HC3 := am_ H
   clear H
   go_upto_region 2 with (fail)
   go_cut [12] (fun v12 wc => ∃ (kq : Nat) (x12_2 : Bool), v12 = .bool x12_2 ∧ Aside0 (a2u.j1 kq x3_1 x12_2 a0_0 a0_1 a0_2 l0_3 l0_4 l0_5 = some r) ∧ Aside0 (kq ≤ k1) ∧ Aside0 (wc.heap[gb347]? = some (.cells #[.int .i64 a0_0, .int .i64 a0_1, .int .i64 a0_2, (.slice A0_3 l0_3.length c0_3), (.slice A0_4 l0_4.length c0_4), (.slice A0_5 l0_5.length c0_5)] 30 (0, 0))) ∧ Aside0 (Below w.heap.size w wc))
   case first =>
    have H := HC3.out
    clear HC3
    by_cases c4 : x3_1 < (l0_3.length : Int)
    ·rw [if_pos c4] at H
     have c4b0 : decide (x3_1 < (l0_3.length : Int)) = true := decide_eq_true c4
     clear c4
     (first | rw [c4b0] | (simp only [a3h, a3u]; rw [c4b0]) | skip)
     have H' := am_ H
     clear H
     obtain ⟨z'5_0, z'5_1, z'5_2, z'5_3, z'5_4, z'5_5⟩ := qz6_ BK347; obtain ⟨y'5_0, y'5_1, y'5_2, y'5_3, y'5_4, y'5_5⟩ := qf6_ BK347
     go_wp2
     go_meet
     case rel => exact ⟨_, (decide (x3_1 < 30)), qs_, H', ⟨by have := HK1.out; first | omega | exact Nat.le_refl _⟩, ⟨qk_ BK347⟩, ⟨qb_⟩⟩
    ·rw [if_neg c4] at H
     have c4b0 : decide (x3_1 < (l0_3.length : Int)) = false := decide_eq_false c4
     clear c4
     (first | rw [c4b0] | (simp only [a3h, a3u]; rw [c4b0]) | skip)
     have H' := am_ H
     clear H
     obtain ⟨z'6_0, z'6_1, z'6_2, z'6_3, z'6_4, z'6_5⟩ := qz6_ BK347; obtain ⟨y'6_0, y'6_1, y'6_2, y'6_3, y'6_4, y'6_5⟩ := qf6_ BK347
     go_wp2
     go_meet
     case rel => exact ⟨_, (false), qs_, H', ⟨by have := HK1.out; first | omega | exact Nat.le_refl _⟩, ⟨qk_ BK347⟩, ⟨qb_⟩⟩
   case rest =>
    clear HC3
    try clear c1
    try clear p2
    try clear c4
    try clear c4b0
    try clear z'5_0 z'5_1 z'5_2 z'5_3 z'5_4 z'5_5
    try clear z'6_0 z'6_1 z'6_2 z'6_3 z'6_4 z'6_5
    try clear y'5_0 y'5_1 y'5_2 y'5_3 y'5_4 y'5_5
    try clear y'6_0 y'6_1 y'6_2 y'6_3 y'6_4 y'6_5
    try clear p2
    obtain ⟨kq, x12_2, rfl, HA, HJ2, BK347, HB⟩ := hcut
    cases kq with
    | zero => exact absurd HA.out (by simp [a2u.j1])
    | succ kj2 =>
     have H := HA.out
     clear HA
     simp only [a2u.j1] at H
     by_cases c7 : x12_2 = true
     ·subst c7
      have H1 : (if 0 ≤ x3_1 then (if x3_1 < (l0_3.length : Int) then (if ((rdOf ByteArray.empty l0_3 x3_1).size : Int) > 100 then (some false) else (a2u.l0 kj2 (wrap64 (x3_1 + 1)) a0_0 a0_1 a0_2 l0_3 l0_4 l0_5)) else (none)) else (none)) = some r := by rw [if_pos rfl] at H; exact H
      clear H
      have H := H1
      clear H1
      by_cases c8 : 0 ≤ x3_1
      ·rw [if_pos c8] at H
       have c8b0 : decide (0 ≤ x3_1) = true := decide_eq_true c8
       clear c8
       by_cases c9 : x3_1 < (l0_3.length : Int)
       ·rw [if_pos c9] at H
        have c9b0 : decide (x3_1 < (l0_3.length : Int)) = true := decide_eq_true c9
        clear c9
        by_cases c10 : ((rdOf ByteArray.empty l0_3 x3_1).size : Int) > 100
        ·rw [if_pos c10] at H
         have c10b0 : decide (100 < ((rdOf ByteArray.empty l0_3 x3_1).size : Int)) = true := decide_eq_true c10
         have c10b1 : decide (100 < (rdOf ByteArray.empty l0_3 x3_1).size) = true := decide_eq_true (by omega)
         clear c10
         obtain rfl := si_ H
         obtain ⟨z'11_0, z'11_1, z'11_2, z'11_3, z'11_4, z'11_5⟩ := qz6_ BK347; obtain ⟨y'11_0, y'11_1, y'11_2, y'11_3, y'11_4, y'11_5⟩ := qf6_ BK347
         have p348 : 0 ≤ (x3_1 : Int) := ot_
         have q348 : x3_1 < (l0_3.length : Int) := ot_
         obtain ⟨ad348, e348, hx348_0⟩ := Kd.a4d HR0_3.out x3_1 p348 q348
         cases e348
         replace hx348_0 := qh_ HB hx348_0
         replace p348 := eq_true p348
         replace q348 := eq_true q348
         go_wp2
         go_ret
         exact ⟨qx_, qb_⟩
        ·rw [if_neg c10] at H
         have c10b0 : decide (100 < ((rdOf ByteArray.empty l0_3 x3_1).size : Int)) = false := decide_eq_false c10
         have c10b1 : decide (100 < (rdOf ByteArray.empty l0_3 x3_1).size) = false := decide_eq_false (by omega)
         clear c10
         have H' := am_ H
         clear H
         obtain ⟨z'12_0, z'12_1, z'12_2, z'12_3, z'12_4, z'12_5⟩ := qz6_ BK347; obtain ⟨y'12_0, y'12_1, y'12_2, y'12_3, y'12_4, y'12_5⟩ := qf6_ BK347
         have p348 : 0 ≤ (x3_1 : Int) := ot_
         have q348 : x3_1 < (l0_3.length : Int) := ot_
         obtain ⟨ad348, e348, hx348_0⟩ := Kd.a4d HR0_3.out x3_1 p348 q348
         cases e348
         replace hx348_0 := qh_ HB hx348_0
         replace p348 := eq_true p348
         replace q348 := eq_true q348
         go_wp2
         go_roundg kj2
         case measure => have := HK1.out; have := HJ2.out; omega
         case rel => exact ⟨(wrap64 (x3_1 + 1)), qs_, H', ⟨by have := HK1.out; have := HJ2.out; omega⟩, ⟨qk_ BK347⟩, ⟨qb_⟩⟩
       ·rw [if_neg c9] at H
        exact absurd H (by simp)
      ·rw [if_neg c8] at H
       exact absurd H (by simp)
     ·replace c7 := be_ c7
      subst c7
      have H1 : (if (l0_3.length : Int) ≤ 30 then (if (l0_4.length : Int) ≤ 70 then (some (decide ((l0_5.length : Int) ≤ 70))) else (some false)) else (some false)) = some r := by rw [if_neg (show ¬ (false = true) by decide)] at H; exact H
      clear H
      have H := H1
      clear H1
      by_cases c13 : (l0_3.length : Int) ≤ 30
      ·rw [if_pos c13] at H
       have c13b0 : decide ((l0_3.length : Int) ≤ 30) = true := decide_eq_true c13
       have c13b1 : decide (l0_3.length ≤ 30) = true := decide_eq_true (by omega)
       clear c13
       by_cases c14 : (l0_4.length : Int) ≤ 70
       ·rw [if_pos c14] at H
        have c14b0 : decide ((l0_4.length : Int) ≤ 70) = true := decide_eq_true c14
        have c14b1 : decide (l0_4.length ≤ 70) = true := decide_eq_true (by omega)
        clear c14
        obtain rfl := si_ H
        obtain ⟨z'15_0, z'15_1, z'15_2, z'15_3, z'15_4, z'15_5⟩ := qz6_ BK347; obtain ⟨y'15_0, y'15_1, y'15_2, y'15_3, y'15_4, y'15_5⟩ := qf6_ BK347
        go_wp2
        go_ret
        exact ⟨qx_, qb_⟩
       ·rw [if_neg c14] at H
        have c14b0 : decide ((l0_4.length : Int) ≤ 70) = false := decide_eq_false c14
        have c14b1 : decide (l0_4.length ≤ 70) = false := decide_eq_false (by omega)
        clear c14
        obtain rfl := si_ H
        obtain ⟨z'16_0, z'16_1, z'16_2, z'16_3, z'16_4, z'16_5⟩ := qz6_ BK347; obtain ⟨y'16_0, y'16_1, y'16_2, y'16_3, y'16_4, y'16_5⟩ := qf6_ BK347
        go_wp2
        go_ret
        exact ⟨qx_, qb_⟩
      ·rw [if_neg c13] at H
       have c13b0 : decide ((l0_3.length : Int) ≤ 30) = false := decide_eq_false c13
       have c13b1 : decide (l0_3.length ≤ 30) = false := decide_eq_false (by omega)
       clear c13
       obtain rfl := si_ H
       obtain ⟨z'17_0, z'17_1, z'17_2, z'17_3, z'17_4, z'17_5⟩ := qz6_ BK347; obtain ⟨y'17_0, y'17_1, y'17_2, y'17_3, y'17_4, y'17_5⟩ := qf6_ BK347
       go_wp2
       go_ret
       exact ⟨qx_, qb_⟩
def a3w.f (a0 : Int) : Option (Int) := if a0 < 0 then (some (IntKind.u64.wrap ((IntKind.u64.wrap (wrap64 (-(wrap64 (a0 + 1))))) + 1))) else (some (IntKind.u64.wrap (a0)))
set_option maxHeartbeats 8000000 in
set_option maxRecDepth 100000 in
theorem a3w.calls (a0 r : Int) (w : World) (h : a3w.f a0 = some r) :
  Calls Try.prog 86 #[.int .i64 a0] w fun e w' => e = .returned (.int .u64 r) ∧ a1j w w' := by
 have H : (if a0 < 0 then (some (IntKind.u64.wrap ((IntKind.u64.wrap (wrap64 (-(wrap64 (a0 + 1))))) + 1))) else (some (IntKind.u64.wrap (a0)))) = some r := h
 clear h
 by_cases c2 : a0 < 0
 ·rw [if_pos c2] at H
  have c2b0 : decide (a0 < 0) = true := decide_eq_true c2
  clear c2
  obtain rfl := si_ H
  go_enter Try.func86, Try.ntmps86
  go_wp2
  go_ret
  exact ⟨qs_, qy_⟩
 ·rw [if_neg c2] at H
  have c2b0 : decide (a0 < 0) = false := decide_eq_false c2
  clear c2
  obtain rfl := si_ H
  go_enter Try.func86, Try.ntmps86
  go_wp2
  go_ret
  exact ⟨qs_, qy_⟩
def a2l.l0 : Nat → Int → Int → Option (Int)
 | 0, _, _ => none
 | k + 1, x0, x1 => if x1 = 0 then (some x0) else (a2l.l0 k x1 (Int.tmod x0 x1))
def a2l.f (k : Nat) (a0 a1 : Int) : Option (Int) := a2l.l0 k a0 a1
theorem a2l.a0t : ∀ k, (∀ y0 y1, LeO (a2l.l0 k y0 y1) (a2l.l0 (k + 1) y0 y1))
 | 0 => fun _ _ r h => by simp [a2l.l0] at h
 | k + 1 => by
  have ih0 := a2l.a0t k
  ·intro y0 y1
   unfold a2l.l0
   with_reducible (repeat' first | apply ih0 | apply LeO.refl | apply LeO.none | apply LeO.ite | refine LeO.bind ?_ (fun _ => ?_))
theorem a2l.mono : ∀ a0 a1 k, LeO (a2l.f k a0 a1) (a2l.f (k + 1) a0 a1) := by
 intro a0 a1 k
 have ih0 := a2l.a0t k
 unfold a2l.f
 with_reducible (repeat' first | apply ih0 | apply LeO.refl | apply LeO.none | apply LeO.ite | refine LeO.bind ?_ (fun _ => ?_))
set_option maxHeartbeats 8000000 in
set_option maxRecDepth 100000 in
theorem a2l.calls (k : Nat) (a0 a1 r : Int) (w : World) (h : a2l.f k a0 a1 = some r) :
  Calls Try.prog 85 #[.int .u64 a0, .int .u64 a1] w fun e w' => e = .returned (.int .u64 r) ∧ a1j w w' := by
 have H : (a2l.l0 k a0 a1) = some r := h
 clear h
 have H' := am_ H
 clear H
 go_enter Try.func85, Try.ntmps85
 go_wp2
 go_loopg [0, 1] k (fun kq v0 v1 w' => ∃ (x0_1 : Int) (x1_1 : Int), v0 = .int .u64 x0_1 ∧ v1 = .int .u64 x1_1 ∧ Aside0 (a2l.l0 kq x0_1 x1_1 = some r) ∧ Aside0 (kq ≤ k) ∧ a1j w w')
 case atStart => exact ⟨(a0), (a1), qs_, qs_, H', ⟨Nat.le_refl _⟩, qy_⟩
 case round =>
  clear H'
  try clear p2
  obtain ⟨x0_1, x1_1, rfl, rfl, HA, HK1, ⟨m1, rfl⟩⟩ := hrel
  cases gk with
  | zero => exact absurd HA.out (by simp [a2l.l0])
  | succ k1 =>
   have H := HA.out
   clear HA
   simp only [a2l.l0] at H
   by_cases c3 : x1_1 = 0
   ·rw [if_pos c3] at H
    have c3b0 : (x1_1 == 0) = true := beq_iff_eq.mpr c3
    have c3b1 : (x1_1 != 0) = false := bne_eq_false_iff_eq.mpr c3
    clear c3
    obtain rfl := si_ H
    go_wp2
    go_ret
    exact ⟨qs_, qy_⟩
   ·rw [if_neg c3] at H
    have c3b0 : (x1_1 == 0) = false := beq_eq_false_iff_ne.mpr c3
    have c3b1 : (x1_1 != 0) = true := bne_iff_ne.mpr c3
    have H' := am_ H
    clear H
    go_wp2
    go_roundg k1
    case measure => have := HK1.out; omega
    case rel => exact ⟨(x1_1), (Int.tmod x0_1 x1_1), qs_, qs_, H', ⟨by have := HK1.out; omega⟩, qy_⟩
def a2n.j0 : Nat → Int → Int → Int → Int → Bool → Option (Int × Int × Int)
 | 0, _, _, _, _, _ => none
 | k + 1, x0, x1, x7, x8, x30 => if x30 = true then (some (0, 0, 3)) else (if ((decide (x0 < 0)) != (decide (x1 < 0))) = true then (some (wrap64 (-(wrap64 (x7))), wrap64 (x8), 0)) else (some (wrap64 (x7), wrap64 (x8), 0)))
def a2n.f (k : Nat) (a0 a1 : Int) : Option (Int × Int × Int) := if a1 = 0 then (some (0, 0, 7)) else ((a3w.f a0).bind fun t350 => ((a3w.f a1).bind fun t351 => ((a2l.f k t350 t351).bind fun t352 => ((a3w.f a0).bind fun t353 => (if t352 = 0 then (none) else ((a3w.f a1).bind fun t354 => (if (IntKind.u64.wrap (Int.tdiv t353 t352)) > 1000000000 then (a2n.j0 k a0 a1 (IntKind.u64.wrap (Int.tdiv t353 t352)) (IntKind.u64.wrap (Int.tdiv t354 t352)) true) else (a2n.j0 k a0 a1 (IntKind.u64.wrap (Int.tdiv t353 t352)) (IntKind.u64.wrap (Int.tdiv t354 t352)) (decide ((IntKind.u64.wrap (Int.tdiv t354 t352)) > 1000000000))))))))))
theorem a2n.a0t : ∀ k, (∀ y0 y1 y2 y3 y4, LeO (a2n.j0 k y0 y1 y2 y3 y4) (a2n.j0 (k + 1) y0 y1 y2 y3 y4))
 | 0 => fun _ _ _ _ _ r h => by simp [a2n.j0] at h
 | k + 1 => by
  have ih0 := a2n.a0t k
  ·intro y0 y1 y2 y3 y4
   unfold a2n.j0
   with_reducible (repeat' first | apply ih0 | apply a2l.mono | apply LeO.refl | apply LeO.none | apply LeO.ite | refine LeO.bind ?_ (fun _ => ?_))
theorem a2n.mono : ∀ a0 a1 k, LeO (a2n.f k a0 a1) (a2n.f (k + 1) a0 a1) := by
 intro a0 a1 k
 have ih0 := a2n.a0t k
 unfold a2n.f
 with_reducible (repeat' first | apply ih0 | apply a2l.mono | apply LeO.refl | apply LeO.none | apply LeO.ite | refine LeO.bind ?_ (fun _ => ?_))
set_option maxHeartbeats 8000000 in
set_option maxRecDepth 100000 in
theorem a2n.calls (k : Nat) (a0 a1 r1 r2 r3 : Int) (w : World) (h : a2n.f k a0 a1 = some (r1, r2, r3)) :
  Calls Try.prog 80 #[.int .i64 a0, .int .i64 a1] w fun e w' => e = .returned (.tuple #[.agg #[.int .i64 r1, .int .i64 r2], .int .i64 r3]) ∧ Below w.heap.size w w' := by
 have hu23 := Try.underlying23
 have HB := am_ (Below.refl w.heap.size w)
 have H : (if a1 = 0 then (some (0, 0, 7)) else ((a3w.f a0).bind fun t350 => ((a3w.f a1).bind fun t351 => ((a2l.f k t350 t351).bind fun t352 => ((a3w.f a0).bind fun t353 => (if t352 = 0 then (none) else ((a3w.f a1).bind fun t354 => (if (IntKind.u64.wrap (Int.tdiv t353 t352)) > 1000000000 then (a2n.j0 k a0 a1 (IntKind.u64.wrap (Int.tdiv t353 t352)) (IntKind.u64.wrap (Int.tdiv t354 t352)) true) else (a2n.j0 k a0 a1 (IntKind.u64.wrap (Int.tdiv t353 t352)) (IntKind.u64.wrap (Int.tdiv t354 t352)) (decide ((IntKind.u64.wrap (Int.tdiv t354 t352)) > 1000000000))))))))))) = some (r1, r2, r3) := h
 clear h
 by_cases c3 : a1 = 0
 ·rw [if_pos c3] at H
  have c3b0 : (a1 == 0) = true := beq_iff_eq.mpr c3
  have c3b1 : (a1 != 0) = false := bne_eq_false_iff_eq.mpr c3
  clear c3
  simp only [Option.some.injEq, Prod.mk.injEq] at H
  obtain ⟨rfl, rfl, rfl⟩ := H
  go_enter Try.func80, Try.ntmps80
  go_wp2_with (first | ((with_reducible refine a0f (N := 4) rfl ?_); refine qev_ 4 #[.int .i64 0, .int .i64 0] 23 ?_; intro gb349 hg w4 hbox hb; have BK349 := am_ (hbox); have GW349 := qga_ hg; have GE349 := qga_ hg; replace HB := qbs_ hb; clear hb hbox hg; obtain ⟨z'5_0, z'5_1⟩ := qz2_ BK349; obtain ⟨y'5_0, y'5_1⟩ := qf2_ BK349))
  refine bodyPost_ret (a6t rfl _ _ gb349 23 #[.int .i64 0, .int .i64 0] (0, 0) _ rfl (by refine qd_ ?_; refine a0d (cs := #[.int .i64 0, .int .i64 0]) ?_ 1 _ rfl; refine qd_ ?_; refine a0d (cs := #[.int .i64 0, .int .i64 0]) ?_ 0 _ rfl; refine qd_ ?_; exact BK349.out) Try.underlying23 rfl (by kernel_rfl)) rfl ?_
  exact ⟨qx_, qb_⟩
 ·rw [if_neg c3] at H
  have c3b0 : (a1 == 0) = false := beq_eq_false_iff_ne.mpr c3
  have c3b1 : (a1 != 0) = true := bne_iff_ne.mpr c3
  replace H := bm_ H
  obtain ⟨t350, A60, H⟩ := H
  replace H : ((a3w.f a1).bind fun t351 => ((a2l.f k t350 t351).bind fun t352 => ((a3w.f a0).bind fun t353 => (if t352 = 0 then (none) else ((a3w.f a1).bind fun t354 => (if (IntKind.u64.wrap (Int.tdiv t353 t352)) > 1000000000 then (a2n.j0 k a0 a1 (IntKind.u64.wrap (Int.tdiv t353 t352)) (IntKind.u64.wrap (Int.tdiv t354 t352)) true) else (a2n.j0 k a0 a1 (IntKind.u64.wrap (Int.tdiv t353 t352)) (IntKind.u64.wrap (Int.tdiv t354 t352)) (decide ((IntKind.u64.wrap (Int.tdiv t354 t352)) > 1000000000))))))))) = some (r1, r2, r3) := H
  have A6 := am_ A60
  clear A60
  replace H := bm_ H
  obtain ⟨t351, A70, H⟩ := H
  replace H : ((a2l.f k t350 t351).bind fun t352 => ((a3w.f a0).bind fun t353 => (if t352 = 0 then (none) else ((a3w.f a1).bind fun t354 => (if (IntKind.u64.wrap (Int.tdiv t353 t352)) > 1000000000 then (a2n.j0 k a0 a1 (IntKind.u64.wrap (Int.tdiv t353 t352)) (IntKind.u64.wrap (Int.tdiv t354 t352)) true) else (a2n.j0 k a0 a1 (IntKind.u64.wrap (Int.tdiv t353 t352)) (IntKind.u64.wrap (Int.tdiv t354 t352)) (decide ((IntKind.u64.wrap (Int.tdiv t354 t352)) > 1000000000)))))))) = some (r1, r2, r3) := H
  have A7 := am_ A70
  clear A70
  replace H := bm_ H
  obtain ⟨t352, A80, H⟩ := H
  replace H : ((a3w.f a0).bind fun t353 => (if t352 = 0 then (none) else ((a3w.f a1).bind fun t354 => (if (IntKind.u64.wrap (Int.tdiv t353 t352)) > 1000000000 then (a2n.j0 k a0 a1 (IntKind.u64.wrap (Int.tdiv t353 t352)) (IntKind.u64.wrap (Int.tdiv t354 t352)) true) else (a2n.j0 k a0 a1 (IntKind.u64.wrap (Int.tdiv t353 t352)) (IntKind.u64.wrap (Int.tdiv t354 t352)) (decide ((IntKind.u64.wrap (Int.tdiv t354 t352)) > 1000000000))))))) = some (r1, r2, r3) := H
  have A8 := am_ A80
  clear A80
  replace H := bm_ H
  obtain ⟨t353, A90, H⟩ := H
  replace H : (if t352 = 0 then (none) else ((a3w.f a1).bind fun t354 => (if (IntKind.u64.wrap (Int.tdiv t353 t352)) > 1000000000 then (a2n.j0 k a0 a1 (IntKind.u64.wrap (Int.tdiv t353 t352)) (IntKind.u64.wrap (Int.tdiv t354 t352)) true) else (a2n.j0 k a0 a1 (IntKind.u64.wrap (Int.tdiv t353 t352)) (IntKind.u64.wrap (Int.tdiv t354 t352)) (decide ((IntKind.u64.wrap (Int.tdiv t354 t352)) > 1000000000)))))) = some (r1, r2, r3) := H
  have A9 := am_ A90
  clear A90
  by_cases c10 : t352 = 0
  ·rw [if_pos c10] at H
   exact absurd H (by simp)
  ·rw [if_neg c10] at H
   have c10b0 : (t352 == 0) = false := beq_eq_false_iff_ne.mpr c10
   have c10b1 : (t352 != 0) = true := bne_iff_ne.mpr c10
   replace H := bm_ H
   obtain ⟨t354, A110, H⟩ := H
   replace H : (if (IntKind.u64.wrap (Int.tdiv t353 t352)) > 1000000000 then (a2n.j0 k a0 a1 (IntKind.u64.wrap (Int.tdiv t353 t352)) (IntKind.u64.wrap (Int.tdiv t354 t352)) true) else (a2n.j0 k a0 a1 (IntKind.u64.wrap (Int.tdiv t353 t352)) (IntKind.u64.wrap (Int.tdiv t354 t352)) (decide ((IntKind.u64.wrap (Int.tdiv t354 t352)) > 1000000000)))) = some (r1, r2, r3) := H
   have A11 := am_ A110
   clear A110
   have HC12 := am_ H
   clear H
   go_enter Try.func80, Try.ntmps80
   go_upto_region 6 with (first | ((with_reducible refine a0f (N := 4) rfl ?_); refine qev_ 4 #[.int .i64 0, .int .i64 0] 23 ?_; intro gb349 hg w13 hbox hb; have BK349 := am_ (hbox); have GW349 := qga_ hg; have GE349 := qga_ hg; replace HB := qbs_ hb; clear hb hbox hg) | ((with_reducible refine a0e (f := 86) rfl ?_); refine a0w (some 13) rfl rfl Try.func86 (by kernel_rfl) rfl #[.int .i64 a0] rfl ql_ ?_; (with_reducible refine (a3w.calls a0 t350 _ A6.out).mono ?_); rintro e w' ⟨rfl, ⟨nd, rfl⟩⟩; refine ⟨_, rfl, ?_⟩) | ((with_reducible refine a0e (f := 86) rfl ?_); refine a0w (some 15) rfl rfl Try.func86 (by kernel_rfl) rfl #[.int .i64 a1] rfl ql_ ?_; (with_reducible refine (a3w.calls a1 t351 _ A7.out).mono ?_); rintro e w' ⟨rfl, ⟨nd, rfl⟩⟩; refine ⟨_, rfl, ?_⟩) | ((with_reducible refine a0e (f := 85) rfl ?_); refine a0w (some 16) rfl rfl Try.func85 (by kernel_rfl) rfl #[.int .u64 t350, .int .u64 t351] rfl ql_ ?_; (with_reducible refine (a2l.calls k t350 t351 t352 _ A8.out).mono ?_); rintro e w' ⟨rfl, ⟨nd, rfl⟩⟩; refine ⟨_, rfl, ?_⟩) | ((with_reducible refine a0e (f := 86) rfl ?_); refine a0w (some 18) rfl rfl Try.func86 (by kernel_rfl) rfl #[.int .i64 a0] rfl ql_ ?_; (with_reducible refine (a3w.calls a0 t353 _ A9.out).mono ?_); rintro e w' ⟨rfl, ⟨nd, rfl⟩⟩; refine ⟨_, rfl, ?_⟩) | ((with_reducible refine a0e (f := 86) rfl ?_); refine a0w (some 22) rfl rfl Try.func86 (by kernel_rfl) rfl #[.int .i64 a1] rfl ql_ ?_; (with_reducible refine (a3w.calls a1 t354 _ A11.out).mono ?_); rintro e w' ⟨rfl, ⟨nd, rfl⟩⟩; refine ⟨_, rfl, ?_⟩))
   (try simp only [Act.put, List.setIfInBounds_toArray, List.set_cons_zero, List.set_cons_succ])
   go_cut [30] (fun v30 wc => ∃ (kq : Nat) (x30_11 : Bool), v30 = .bool x30_11 ∧ Aside0 (a2n.j0 kq a0 a1 (IntKind.u64.wrap (Int.tdiv t353 t352)) (IntKind.u64.wrap (Int.tdiv t354 t352)) x30_11 = some (r1, r2, r3)) ∧ Aside0 (kq ≤ k) ∧ Aside0 (wc.heap[gb349]? = some (.cells #[.int .i64 0, .int .i64 0] 23 (0, 0))) ∧ Aside0 (Below w.heap.size w wc))
   case first =>
    have H := HC12.out
    clear HC12
    by_cases c14 : (IntKind.u64.wrap (Int.tdiv t353 t352)) > 1000000000
    ·rw [if_pos c14] at H
     have c14b0 : decide (1000000000 < (IntKind.u64.wrap (Int.tdiv t353 t352))) = true := decide_eq_true c14
     clear c14
     (first | rw [c14b0] | (simp only [a3h, a3u]; rw [c14b0]) | skip)
     have H' := am_ H
     clear H
     go_wp2
     go_meet
     case rel => exact ⟨_, (true), qs_, H', ⟨qo_⟩, ⟨qk_ BK349⟩, ⟨qb_⟩⟩
    ·rw [if_neg c14] at H
     have c14b0 : decide (1000000000 < (IntKind.u64.wrap (Int.tdiv t353 t352))) = false := decide_eq_false c14
     clear c14
     (first | rw [c14b0] | (simp only [a3h, a3u]; rw [c14b0]) | skip)
     have H' := am_ H
     clear H
     go_wp2
     go_meet
     case rel => exact ⟨_, (decide ((IntKind.u64.wrap (Int.tdiv t354 t352)) > 1000000000)), qs_, H', ⟨qo_⟩, ⟨qk_ BK349⟩, ⟨qb_⟩⟩
   case rest =>
    clear HC12
    try clear c1
    try clear p2
    try clear c3
    try clear c3b0
    try clear c3b1
    try clear c8
    try clear c10
    try clear c10b0
    try clear c10b1
    try clear c14
    try clear c14b0
    try clear z'5_0 z'5_1
    try clear y'5_0 y'5_1
    obtain ⟨kq, x30_11, rfl, HA, HJ11, BK349, HB⟩ := hcut
    cases kq with
    | zero => exact absurd HA.out (by simp [a2n.j0])
    | succ kj11 =>
     have H := HA.out
     clear HA
     simp only [a2n.j0] at H
     by_cases c15 : x30_11 = true
     ·subst c15
      have H1 : (some (0, 0, 3)) = some (r1, r2, r3) := by rw [if_pos rfl] at H; exact H
      clear H
      have H := H1
      clear H1
      simp only [Option.some.injEq, Prod.mk.injEq] at H
      obtain ⟨rfl, rfl, rfl⟩ := H
      obtain ⟨z'16_0, z'16_1⟩ := qz2_ BK349; obtain ⟨y'16_0, y'16_1⟩ := qf2_ BK349
      go_wp2
      refine bodyPost_ret (a6t rfl _ _ gb349 23 #[.int .i64 0, .int .i64 0] (0, 0) _ rfl (by refine qd_ ?_; refine a0d (cs := #[.int .i64 0, .int .i64 0]) ?_ 1 _ rfl; refine qd_ ?_; refine a0d (cs := #[.int .i64 0, .int .i64 0]) ?_ 0 _ rfl; refine qd_ ?_; exact BK349.out) Try.underlying23 rfl (by kernel_rfl)) rfl ?_
      exact ⟨qx_, qb_⟩
     ·replace c15 := be_ c15
      subst c15
      have H1 : (if ((decide (a0 < 0)) != (decide (a1 < 0))) = true then (some (wrap64 (-(wrap64 ((IntKind.u64.wrap (Int.tdiv t353 t352))))), wrap64 ((IntKind.u64.wrap (Int.tdiv t354 t352))), 0)) else (some (wrap64 ((IntKind.u64.wrap (Int.tdiv t353 t352))), wrap64 ((IntKind.u64.wrap (Int.tdiv t354 t352))), 0))) = some (r1, r2, r3) := by rw [if_neg (show ¬ (false = true) by decide)] at H; exact H
      clear H
      have H := H1
      clear H1
      by_cases c17 : ((decide (a0 < 0)) != (decide (a1 < 0))) = true
      ·rw [if_pos c17] at H
       have c17b0 : ((decide (a0 < 0)) != (decide (a1 < 0))) = true := c17
       (try (have c17b1 : decide ((decide (a0 < 0)) = (decide (a1 < 0))) = false := by simpa using c17))
       (try (have c17b2 : ((decide (a0 < 0)) == (decide (a1 < 0))) = false := by simpa using c17))
       (try (have c17b3 : ¬ ((decide (a0 < 0)) = (decide (a1 < 0))) := by simpa using c17))
       clear c17
       simp only [Option.some.injEq, Prod.mk.injEq] at H
       obtain ⟨rfl, rfl, rfl⟩ := H
       obtain ⟨z'18_0, z'18_1⟩ := qz2_ BK349; obtain ⟨y'18_0, y'18_1⟩ := qf2_ BK349
       go_wp2
       refine bodyPost_ret (a6t rfl _ _ gb349 23 #[.int .i64 (wrap64 (-(wrap64 ((IntKind.u64.wrap (Int.tdiv t353 t352)))))), .int .i64 (wrap64 ((IntKind.u64.wrap (Int.tdiv t354 t352))))] (0, 0) _ rfl (by refine qd_ ?_; refine a0d (cs := #[.int .i64 (wrap64 (-(wrap64 ((IntKind.u64.wrap (Int.tdiv t353 t352)))))), .int .i64 0]) ?_ 1 _ rfl; refine qd_ ?_; refine a0d (cs := #[.int .i64 0, .int .i64 0]) ?_ 0 _ rfl; refine qd_ ?_; exact BK349.out) Try.underlying23 rfl (by kernel_rfl)) rfl ?_
       exact ⟨qx_, qb_⟩
      ·rw [if_neg c17] at H
       have c17b0 : ((decide (a0 < 0)) != (decide (a1 < 0))) = false := by simpa using c17
       (try (have c17b1 : decide ((decide (a0 < 0)) = (decide (a1 < 0))) = true := by simpa using c17))
       (try (have c17b2 : ((decide (a0 < 0)) == (decide (a1 < 0))) = true := by simpa using c17))
       clear c17
       simp only [Option.some.injEq, Prod.mk.injEq] at H
       obtain ⟨rfl, rfl, rfl⟩ := H
       obtain ⟨z'19_0, z'19_1⟩ := qz2_ BK349; obtain ⟨y'19_0, y'19_1⟩ := qf2_ BK349
       go_wp2
       refine bodyPost_ret (a6t rfl _ _ gb349 23 #[.int .i64 (wrap64 ((IntKind.u64.wrap (Int.tdiv t353 t352)))), .int .i64 (wrap64 ((IntKind.u64.wrap (Int.tdiv t354 t352))))] (0, 0) _ rfl (by refine qd_ ?_; refine a0d (cs := #[.int .i64 (wrap64 ((IntKind.u64.wrap (Int.tdiv t353 t352)))), .int .i64 0]) ?_ 1 _ rfl; refine qd_ ?_; refine a0d (cs := #[.int .i64 0, .int .i64 0]) ?_ 0 _ rfl; refine qd_ ?_; exact BK349.out) Try.underlying23 rfl (by kernel_rfl)) rfl ?_
       exact ⟨qx_, qb_⟩
def a4p.f (k : Nat) (a0_0 a0_1 : Int) : Option (Bool) := if a0_1 < 1 then (some false) else ((a2n.f k a0_0 a0_1).bind fun bt356 => (if bt356.2.2 = 0 then (some (bt356.1 == a0_0 && (bt356.2.1 == a0_1))) else (some false)))
theorem a4p.mono : ∀ a0 a1 k, LeO (a4p.f k a0 a1) (a4p.f (k + 1) a0 a1) := by
 intro a0 a1 k
 unfold a4p.f
 with_reducible (repeat' first | apply a2n.mono | apply LeO.refl | apply LeO.none | apply LeO.ite | refine LeO.bind ?_ (fun _ => ?_))
set_option maxHeartbeats 8000000 in
set_option maxRecDepth 100000 in
theorem a4p.calls (k : Nat) (a0_0 a0_1 : Int) (r : Bool) (w : World) (h : a4p.f k a0_0 a0_1 = some r) :
  Calls Try.prog 68 #[.agg #[.int .i64 a0_0, .int .i64 a0_1]] w fun e w' => e = .returned (.bool r) ∧ Below w.heap.size w w' := by
 have hu23 := Try.underlying23
 have HB := am_ (Below.refl w.heap.size w)
 have H : (if a0_1 < 1 then (some false) else ((a2n.f k a0_0 a0_1).bind fun bt356 => (if bt356.2.2 = 0 then (some (bt356.1 == a0_0 && (bt356.2.1 == a0_1))) else (some false)))) = some r := h
 clear h
 by_cases c2 : a0_1 < 1
 ·rw [if_pos c2] at H
  have c2b0 : decide (a0_1 < 1) = true := decide_eq_true c2
  clear c2
  obtain rfl := si_ H
  go_enter Try.func68, Try.ntmps68
  go_wp2_with (first | ((with_reducible refine a0f (N := 1) rfl ?_); refine qev_ 1 #[.int .i64 a0_0, .int .i64 a0_1] 23 ?_; intro gb355 hg w3 hbox hb; have BK355 := am_ (hbox); have GW355 := qga_ hg; have GE355 := qga_ hg; replace HB := qbs_ hb; clear hb hbox hg; obtain ⟨z'4_0, z'4_1⟩ := qz2_ BK355; obtain ⟨y'4_0, y'4_1⟩ := qf2_ BK355))
  go_ret
  exact ⟨qx_, qb_⟩
 ·rw [if_neg c2] at H
  have c2b0 : decide (a0_1 < 1) = false := decide_eq_false c2
  clear c2
  replace H := bm_ H
  obtain ⟨⟨t356, t357, t358⟩, A50, H⟩ := H
  replace H : (if t358 = 0 then (some (t356 == a0_0 && (t357 == a0_1))) else (some false)) = some r := H
  have A5 := am_ A50
  clear A50
  by_cases c6 : t358 = 0
  ·rw [if_pos c6] at H
   have c6b0 : (t358 == 0) = true := beq_iff_eq.mpr c6
   have c6b1 : (t358 != 0) = false := bne_eq_false_iff_eq.mpr c6
   clear c6
   obtain rfl := si_ H
   go_enter Try.func68, Try.ntmps68
   go_wp2_with (first | ((with_reducible refine a0f (N := 1) rfl ?_); refine qev_ 1 #[.int .i64 a0_0, .int .i64 a0_1] 23 ?_; intro gb355 hg w7 hbox hb; have BK355 := am_ (hbox); have GW355 := qga_ hg; have GE355 := qga_ hg; replace HB := qbs_ hb; clear hb hbox hg; obtain ⟨z'8_0, z'8_1⟩ := qz2_ BK355; obtain ⟨y'8_0, y'8_1⟩ := qf2_ BK355) | ((with_reducible refine a0e (f := 80) rfl ?_); refine a0w (some 13) rfl rfl Try.func80 (by kernel_rfl) rfl #[.int .i64 a0_0, .int .i64 a0_1] rfl ql_ ?_; (with_reducible refine (a2n.calls k a0_0 a0_1 t356 t357 t358 _ A5.out).mono ?_); rintro e w9 ⟨rfl, hb⟩; refine ⟨_, rfl, ?_⟩; replace BK355 := qkb_ BK355 hb; replace HB := qbs_ hb; (try clear hb); (try clear hb2); (try clear hk); (try clear hi)) | ((with_reducible refine a0f (N := 3) rfl ?_); refine qev_ 3 #[.int .i64 0, .int .i64 0] 23 ?_; intro gb359 hg w10 hbox hb; have BK359 := am_ (hbox); have GW359 := qga_ hg; have GE359 := qga_ hg; replace HB := qbs_ hb; have NB355_359 := am_ ((by rw [hg]; exact Nat.ne_of_lt (a0u (qk_ BK355)) : gb355 ≠ gb359)); have NB359_355 := am_ ((by rw [hg]; exact Nat.ne_of_gt (a0u (qk_ BK355)) : gb359 ≠ gb355)); replace BK355 := qkb_ BK355 hb; clear hb hbox hg; have hnb11 := NB359_355.out; have hnc11 := NB355_359.out; obtain ⟨z'12_0, z'12_1⟩ := qz2_ BK359; obtain ⟨y'12_0, y'12_1⟩ := qf2_ BK359; obtain ⟨z'13_0, z'13_1⟩ := qz2_ BK355; obtain ⟨y'13_0, y'13_1⟩ := qf2_ BK355))
   go_ret
   exact ⟨qx_, qb_⟩
  ·rw [if_neg c6] at H
   have c6b0 : (t358 == 0) = false := beq_eq_false_iff_ne.mpr c6
   have c6b1 : (t358 != 0) = true := bne_iff_ne.mpr c6
   obtain rfl := si_ H
   go_enter Try.func68, Try.ntmps68
   go_wp2_with (first | ((with_reducible refine a0f (N := 1) rfl ?_); refine qev_ 1 #[.int .i64 a0_0, .int .i64 a0_1] 23 ?_; intro gb355 hg w14 hbox hb; have BK355 := am_ (hbox); have GW355 := qga_ hg; have GE355 := qga_ hg; replace HB := qbs_ hb; clear hb hbox hg; obtain ⟨z'15_0, z'15_1⟩ := qz2_ BK355; obtain ⟨y'15_0, y'15_1⟩ := qf2_ BK355) | ((with_reducible refine a0e (f := 80) rfl ?_); refine a0w (some 13) rfl rfl Try.func80 (by kernel_rfl) rfl #[.int .i64 a0_0, .int .i64 a0_1] rfl ql_ ?_; (with_reducible refine (a2n.calls k a0_0 a0_1 t356 t357 t358 _ A5.out).mono ?_); rintro e w16 ⟨rfl, hb⟩; refine ⟨_, rfl, ?_⟩; replace BK355 := qkb_ BK355 hb; replace HB := qbs_ hb; (try clear hb); (try clear hb2); (try clear hk); (try clear hi)) | ((with_reducible refine a0f (N := 3) rfl ?_); refine qev_ 3 #[.int .i64 0, .int .i64 0] 23 ?_; intro gb359 hg w17 hbox hb; have BK359 := am_ (hbox); have GW359 := qga_ hg; have GE359 := qga_ hg; replace HB := qbs_ hb; have NB355_359 := am_ ((by rw [hg]; exact Nat.ne_of_lt (a0u (qk_ BK355)) : gb355 ≠ gb359)); have NB359_355 := am_ ((by rw [hg]; exact Nat.ne_of_gt (a0u (qk_ BK355)) : gb359 ≠ gb355)); replace BK355 := qkb_ BK355 hb; clear hb hbox hg; have hnb18 := NB359_355.out; have hnc18 := NB355_359.out; obtain ⟨z'19_0, z'19_1⟩ := qz2_ BK359; obtain ⟨y'19_0, y'19_1⟩ := qf2_ BK359))
   go_ret
   exact ⟨qx_, qb_⟩
end Go.Proofs.Ytemnlgefngjliaa.Px
