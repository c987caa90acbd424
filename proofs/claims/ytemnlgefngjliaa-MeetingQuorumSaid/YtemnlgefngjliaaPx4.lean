/- Contracts of Go functions, printed. Conditions: as each theorem states. -/
import Derived.Test.YtemnlgefngjliaaPx0
import Derived.Test.YtemnlgefngjliaaPx2
namespace Go.Proofs.Ytemnlgefngjliaa.Px
open Go.Proofs.Ytemnlgefngjliaa.Given
open Go.RowKit Go.Proofs.YtemnlgefngjliaaW.PrintWords Go.Proofs.YtemnlgefngjliaaW.PrintLast Go.Proofs.YtemnlgefngjliaaW.PrintMore
attribute [local go_sem] a2f a2g a2r a2s a1x a1y a2h a2i
set_option linter.unusedVariables false
set_option linter.unusedSimpArgs false
def Sb.l0 : Nat → List Int → Int → Int → Int → Int → Option (Int × Bool)
 | 0, _, _, _, _, _ => none
 | k + 1, x0, x1, x6, x7, x8 => if x7 < x8 then (if 0 ≤ (wrap64 ((IntKind.u64.wrap (wrap64 (x7 + x8))) / 2)) then (if (wrap64 ((IntKind.u64.wrap (wrap64 (x7 + x8))) / 2)) < (x0.length : Int) then ((cmp_Less_int.f (rd x0 (wrap64 ((IntKind.u64.wrap (wrap64 (x7 + x8))) / 2))) x1).bind fun t128 => (if t128 = true then (Sb.l0 k x0 x1 x6 (wrap64 ((wrap64 ((IntKind.u64.wrap (wrap64 (x7 + x8))) / 2)) + 1)) x8) else (Sb.l0 k x0 x1 x6 x7 (wrap64 ((IntKind.u64.wrap (wrap64 (x7 + x8))) / 2))))) else (none)) else (none)) else (if x7 < x6 then (if 0 ≤ x7 then (if x7 < (x0.length : Int) then (if (rd x0 x7) = x1 then (some (x7, true)) else ((a2a.f (rd x0 x7)).bind fun t131 => (if t131 = true then ((a2a.f x1).bind fun t132 => (some (x7, t132))) else (some (x7, false))))) else (none)) else (none)) else (some (x7, false)))
def Sb.f (k : Nat) (l0 : List Int) (a1 : Int) : Option (Int × Bool) := Sb.l0 k l0 a1 (l0.length : Int) 0 (l0.length : Int)
theorem Sb.a0t : ∀ k, (∀ y0 y1 y2 y3 y4, LeO (Sb.l0 k y0 y1 y2 y3 y4) (Sb.l0 (k + 1) y0 y1 y2 y3 y4))
 | 0 => fun _ _ _ _ _ r h => by simp [Sb.l0] at h
 | k + 1 => by
  have ih0 := Sb.a0t k
  ·intro y0 y1 y2 y3 y4
   unfold Sb.l0
   with_reducible (repeat' first | apply ih0 | apply LeO.refl | apply LeO.none | apply LeO.ite | refine LeO.bind ?_ (fun _ => ?_))
theorem Sb.mono : ∀ a0 a1 k, LeO (Sb.f k a0 a1) (Sb.f (k + 1) a0 a1) := by
 intro a0 a1 k
 have ih0 := Sb.a0t k
 unfold Sb.f
 with_reducible (repeat' first | apply ih0 | apply LeO.refl | apply LeO.none | apply LeO.ite | refine LeO.bind ?_ (fun _ => ?_))
set_option maxHeartbeats 8000000 in
set_option maxRecDepth 100000 in
theorem Sb.calls (k : Nat) (A0 : Option Addr) (c0 : Nat) (l0 : List Int) (a1 r1 : Int) (r2 : Bool) (w : World) (hr0 : Kd.C (Kd.int .i64) w A0 l0.length l0) (hc0 : l0.length ≤ c0) (h : Sb.f k l0 a1 = some (r1, r2)) :
  Calls Try.prog 82 #[.slice A0 l0.length c0, .int .i64 a1] w fun e w' => e = .returned (.tuple #[.int .i64 r1, .bool r2]) ∧ a1j w w' := by
 have HR0 := am_ hr0
 have HC0 := am_ hc0
 clear hr0 hc0
 have H : (Sb.l0 k l0 a1 (l0.length : Int) 0 (l0.length : Int)) = some (r1, r2) := h
 clear h
 have H' := am_ H
 clear H
 go_enter Try.func82, Try.ntmps82
 go_wp2
 go_loopg [7, 8] k (fun kq v7 v8 w' => ∃ (x7_1 : Int) (x8_1 : Int), v7 = .int .i64 x7_1 ∧ v8 = .int .i64 x8_1 ∧ Aside0 (Sb.l0 kq l0 a1 (l0.length : Int) x7_1 x8_1 = some (r1, r2)) ∧ Aside0 (kq ≤ k) ∧ a1j w w')
 case atStart => exact ⟨(0), ((l0.length : Int)), qs_, qs_, H', ⟨Nat.le_refl _⟩, qy_⟩
 case round =>
  clear H'
  try clear p2
  obtain ⟨x7_1, x8_1, rfl, rfl, HA, HK1, ⟨m1, rfl⟩⟩ := hrel
  cases gk with
  | zero => exact absurd HA.out (by simp [Sb.l0])
  | succ k1 =>
   have H := HA.out
   clear HA
   simp only [Sb.l0] at H
   by_cases c3 : x7_1 < x8_1
   ·rw [if_pos c3] at H
    have c3b0 : decide (x7_1 < x8_1) = true := decide_eq_true c3
    clear c3
    obtain ⟨ji4, hji4⟩ : ∃ j_ : Int, (wrap64 ((IntKind.u64.wrap (wrap64 (x7_1 + x8_1))) / 2)) = j_ := ⟨_, rfl⟩
    replace H : (if 0 ≤ (ji4) then (if (ji4) < (l0.length : Int) then ((cmp_Less_int.f (rd l0 (ji4)) a1).bind fun t128 => (if t128 = true then (Sb.l0 k1 l0 a1 (l0.length : Int) (wrap64 ((ji4) + 1)) x8_1) else (Sb.l0 k1 l0 a1 (l0.length : Int) x7_1 ji4))) else (none)) else (none)) = some (r1, r2) := by first | (rw [hji4] at H; exact H) | (simp only [hji4] at H ⊢; exact H)
    have hji4w : (IntKind.i64.wrap ((IntKind.u64.wrap (wrap64 (x7_1 + x8_1))) / 2)) = ji4 := (a3h _).trans hji4
    by_cases c5 : 0 ≤ (ji4)
    ·rw [if_pos c5] at H
     have c5b0 : decide (0 ≤ (ji4)) = true := decide_eq_true c5
     clear c5
     by_cases c6 : (ji4) < (l0.length : Int)
     ·rw [if_pos c6] at H
      have c6b0 : decide ((ji4) < (l0.length : Int)) = true := decide_eq_true c6
      clear c6
      replace H := bm_ H
      obtain ⟨t128, A70, H⟩ := H
      replace H : (if t128 = true then (Sb.l0 k1 l0 a1 (l0.length : Int) (wrap64 ((ji4) + 1)) x8_1) else (Sb.l0 k1 l0 a1 (l0.length : Int) x7_1 ji4)) = some (r1, r2) := H
      have A7 := am_ A70
      clear A70
      by_cases c8 : t128 = true
      ·subst c8
       have H1 : (Sb.l0 k1 l0 a1 (l0.length : Int) (wrap64 ((ji4) + 1)) x8_1) = some (r1, r2) := by rw [if_pos rfl] at H; exact H
       clear H
       have H := H1
       clear H1
       have H' := am_ H
       clear H
       have p127 : 0 ≤ ((ji4) : Int) := ot_
       have q127 : (ji4) < (l0.length : Int) := ot_
       obtain ⟨ad127, e127, hx127_0⟩ := Kd.a2o HR0.out (ji4) p127 q127
       cases e127
       replace p127 := eq_true p127
       replace q127 := eq_true q127
       go_wp2_with (first | ((with_reducible refine a0e (f := 83) rfl ?_); refine a0w (some 27) rfl rfl Try.func83 (by kernel_rfl) rfl #[.int .i64 (rd l0 (ji4)), .int .i64 a1] rfl (by (try simp only [List.map_toArray, List.map_cons, List.map_nil]); first | done | (simp only [hji4]; rfl) | rfl | (simp only [List.length_drop, List.length_take]; rfl)) ?_; (with_reducible refine (cmp_Less_int.calls (rd l0 (ji4)) a1 true _ A7.out).mono ?_); rintro e w' ⟨rfl, ⟨nd, rfl⟩⟩; refine ⟨_, rfl, ?_⟩))
       go_roundg k1
       case measure => have := HK1.out; omega
       case rel => exact ⟨(wrap64 ((ji4) + 1)), (x8_1), (by first | rfl | (simp; done) | (simp only [← hji4] <;> (first | rfl | simp)) | (simp [*]; done)), qs_, H', ⟨by have := HK1.out; omega⟩, qy_⟩
      ·replace c8 := be_ c8
       subst c8
       have H1 : (Sb.l0 k1 l0 a1 (l0.length : Int) x7_1 ji4) = some (r1, r2) := by rw [if_neg (show ¬ (false = true) by decide)] at H; exact H
       clear H
       have H := H1
       clear H1
       have H' := am_ H
       clear H
       have p127 : 0 ≤ ((ji4) : Int) := ot_
       have q127 : (ji4) < (l0.length : Int) := ot_
       obtain ⟨ad127, e127, hx127_0⟩ := Kd.a2o HR0.out (ji4) p127 q127
       cases e127
       replace p127 := eq_true p127
       replace q127 := eq_true q127
       go_wp2_with (first | ((with_reducible refine a0e (f := 83) rfl ?_); refine a0w (some 27) rfl rfl Try.func83 (by kernel_rfl) rfl #[.int .i64 (rd l0 (ji4)), .int .i64 a1] rfl (by (try simp only [List.map_toArray, List.map_cons, List.map_nil]); first | done | (simp only [hji4]; rfl) | rfl | (simp only [List.length_drop, List.length_take]; rfl)) ?_; (with_reducible refine (cmp_Less_int.calls (rd l0 (ji4)) a1 false _ A7.out).mono ?_); rintro e w' ⟨rfl, ⟨nd, rfl⟩⟩; refine ⟨_, rfl, ?_⟩))
       go_roundg k1
       case measure => have := HK1.out; omega
       case rel => exact ⟨(x7_1), (ji4), qs_, (by first | rfl | (simp; done) | (simp only [← hji4] <;> (first | rfl | simp)) | (simp [*]; done)), H', ⟨by have := HK1.out; omega⟩, qy_⟩
     ·rw [if_neg c6] at H
      exact absurd H (by simp)
    ·rw [if_neg c5] at H
     exact absurd H (by simp)
   ·rw [if_neg c3] at H
    have c3b0 : decide (x7_1 < x8_1) = false := decide_eq_false c3
    clear c3
    by_cases c9 : x7_1 < (l0.length : Int)
    ·rw [if_pos c9] at H
     have c9b0 : decide (x7_1 < (l0.length : Int)) = true := decide_eq_true c9
     clear c9
     by_cases c10 : 0 ≤ x7_1
     ·rw [if_pos c10] at H
      have c10b0 : decide (0 ≤ x7_1) = true := decide_eq_true c10
      clear c10
      by_cases c11 : x7_1 < (l0.length : Int)
      ·rw [if_pos c11] at H
       have c11b0 : decide (x7_1 < (l0.length : Int)) = true := decide_eq_true c11
       clear c11
       by_cases c12 : (rd l0 x7_1) = a1
       ·rw [if_pos c12] at H
        have c12b0 : ((rd l0 x7_1) == a1) = true := beq_iff_eq.mpr c12
        have c12b1 : ((rd l0 x7_1) != a1) = false := bne_eq_false_iff_eq.mpr c12
        clear c12
        simp only [Option.some.injEq, Prod.mk.injEq] at H
        obtain ⟨rfl, rfl⟩ := H
        have p129 : 0 ≤ (x7_1 : Int) := ot_
        have q129 : x7_1 < (l0.length : Int) := ot_
        obtain ⟨ad129, e129, hx129_0⟩ := Kd.a2o HR0.out x7_1 p129 q129
        cases e129
        replace p129 := eq_true p129
        replace q129 := eq_true q129
        go_wp2
        go_ret2
        exact ⟨qs_, qy_⟩
       ·rw [if_neg c12] at H
        have c12b0 : ((rd l0 x7_1) == a1) = false := beq_eq_false_iff_ne.mpr c12
        have c12b1 : ((rd l0 x7_1) != a1) = true := bne_iff_ne.mpr c12
        replace H := bm_ H
        obtain ⟨t131, A130, H⟩ := H
        replace H : (if t131 = true then ((a2a.f a1).bind fun t132 => (some (x7_1, t132))) else (some (x7_1, false))) = some (r1, r2) := H
        have A13 := am_ A130
        clear A130
        by_cases c14 : t131 = true
        ·subst c14
         have H1 : ((a2a.f a1).bind fun t132 => (some (x7_1, t132))) = some (r1, r2) := by rw [if_pos rfl] at H; exact H
         clear H
         have H := H1
         clear H1
         replace H := bm_ H
         obtain ⟨t132, A150, H⟩ := H
         replace H : (some (x7_1, t132)) = some (r1, r2) := H
         have A15 := am_ A150
         clear A150
         simp only [Option.some.injEq, Prod.mk.injEq] at H
         obtain ⟨rfl, rfl⟩ := H
         have p129 : 0 ≤ (x7_1 : Int) := ot_
         have q129 : x7_1 < (l0.length : Int) := ot_
         obtain ⟨ad129, e129, hx129_0⟩ := Kd.a2o HR0.out x7_1 p129 q129
         cases e129
         replace p129 := eq_true p129
         replace q129 := eq_true q129
         have p130 : 0 ≤ (x7_1 : Int) := ot_
         have q130 : x7_1 < (l0.length : Int) := ot_
         obtain ⟨ad130, e130, hx130_0⟩ := Kd.a2o HR0.out x7_1 p130 q130
         obtain rfl : ad129 = ad130 := (by injection e130)
         replace p130 := eq_true p130
         replace q130 := eq_true q130
         go_wp2_with (first | (go_at_call 84; (with_reducible refine (a2a.calls (rd l0 x7_1) true _ A13.out).mono ?_); rintro e w' ⟨rfl, ⟨nd, rfl⟩⟩) | (go_at_call 84; (with_reducible refine (a2a.calls a1 t132 _ A15.out).mono ?_); rintro e w' ⟨rfl, ⟨nd, rfl⟩⟩))
         go_ret2
         exact ⟨qs_, qy_⟩
        ·replace c14 := be_ c14
         subst c14
         have H1 : (some (x7_1, false)) = some (r1, r2) := by rw [if_neg (show ¬ (false = true) by decide)] at H; exact H
         clear H
         have H := H1
         clear H1
         simp only [Option.some.injEq, Prod.mk.injEq] at H
         obtain ⟨rfl, rfl⟩ := H
         have p129 : 0 ≤ (x7_1 : Int) := ot_
         have q129 : x7_1 < (l0.length : Int) := ot_
         obtain ⟨ad129, e129, hx129_0⟩ := Kd.a2o HR0.out x7_1 p129 q129
         cases e129
         replace p129 := eq_true p129
         replace q129 := eq_true q129
         have p130 : 0 ≤ (x7_1 : Int) := ot_
         have q130 : x7_1 < (l0.length : Int) := ot_
         obtain ⟨ad130, e130, hx130_0⟩ := Kd.a2o HR0.out x7_1 p130 q130
         obtain rfl : ad129 = ad130 := (by injection e130)
         replace p130 := eq_true p130
         replace q130 := eq_true q130
         go_wp2_with (first | (go_at_call 84; (with_reducible refine (a2a.calls (rd l0 x7_1) false _ A13.out).mono ?_); rintro e w' ⟨rfl, ⟨nd, rfl⟩⟩))
         go_ret2
         exact ⟨qs_, qy_⟩
      ·rw [if_neg c11] at H
       exact absurd H (by simp)
     ·rw [if_neg c10] at H
      exact absurd H (by simp)
    ·rw [if_neg c9] at H
     have c9b0 : decide (x7_1 < (l0.length : Int)) = false := decide_eq_false c9
     clear c9
     simp only [Option.some.injEq, Prod.mk.injEq] at H
     obtain ⟨rfl, rfl⟩ := H
     go_wp2
     go_ret2
     exact ⟨qs_, qy_⟩
def a3b.f (k : Nat) (a0_0 a0_1 a0_2 a0_3 : Int) (a0_4 : Bool) (a0_5 a0_6 a0_7 : Int) (l0_8 : List ByteArray) (l0_9 : List (S43)) (l0_10 : List Int) (a0_11 : ByteArray) (l0_12 : List Int) (a1 : Int) : Option (Bool) := (Sb.f k l0_10 a1).bind fun bt134 => (some bt134.2)
theorem a3b.mono : ∀ a0 a1 a2 a3 a4 a5 a6 a7 a8 a9 a10 a11 a12 a13 k, LeO (a3b.f k a0 a1 a2 a3 a4 a5 a6 a7 a8 a9 a10 a11 a12 a13) (a3b.f (k + 1) a0 a1 a2 a3 a4 a5 a6 a7 a8 a9 a10 a11 a12 a13) := by
 intro a0 a1 a2 a3 a4 a5 a6 a7 a8 a9 a10 a11 a12 a13 k
 unfold a3b.f
 with_reducible (repeat' first | apply Sb.mono | apply LeO.refl | apply LeO.none | apply LeO.ite | refine LeO.bind ?_ (fun _ => ?_))
set_option maxHeartbeats 8000000 in
set_option maxRecDepth 100000 in
theorem a3b.calls (k : Nat) (a0_0 a0_1 a0_2 a0_3 : Int) (a0_4 : Bool) (a0_5 a0_6 a0_7 : Int) (A0_8 : Option Addr) (c0_8 : Nat) (l0_8 : List ByteArray) (A0_9 : Option Addr) (c0_9 : Nat) (l0_9 : List (S43)) (A0_10 : Option Addr) (c0_10 : Nat) (l0_10 : List Int) (a0_11 : ByteArray) (A0_12 : Option Addr) (c0_12 : Nat) (l0_12 : List Int) (a1 : Int) (r : Bool) (w : World) (hr0_8 : Kd.C Kd.string w A0_8 l0_8.length l0_8) (hc0_8 : l0_8.length ≤ c0_8) (hr0_9 : Kd.C k43 w A0_9 l0_9.length l0_9) (hc0_9 : l0_9.length ≤ c0_9) (hr0_10 : Kd.C (Kd.int .i64) w A0_10 l0_10.length l0_10) (hc0_10 : l0_10.length ≤ c0_10) (hr0_12 : Kd.C (Kd.int .i64) w A0_12 l0_12.length l0_12) (hc0_12 : l0_12.length ≤ c0_12) (h : a3b.f k a0_0 a0_1 a0_2 a0_3 a0_4 a0_5 a0_6 a0_7 l0_8 l0_9 l0_10 a0_11 l0_12 a1 = some r) :
  Calls Try.prog 72 #[.agg #[.int .i64 a0_0, .int .i64 a0_1, .int .i64 a0_2, .int .i64 a0_3, .bool a0_4, .int .i64 a0_5, .int .i64 a0_6, .int .i64 a0_7, .slice A0_8 l0_8.length c0_8, .slice A0_9 l0_9.length c0_9, .slice A0_10 l0_10.length c0_10, .string a0_11, .slice A0_12 l0_12.length c0_12], .int .i64 a1] w fun e w' => e = .returned (.bool r) ∧ Below w.heap.size w w' := by
 have hu62 := Try.underlying62
 have HR0_8 := am_ hr0_8
 have HC0_8 := am_ hc0_8
 clear hr0_8 hc0_8
 have HR0_9 := am_ hr0_9
 have HC0_9 := am_ hc0_9
 clear hr0_9 hc0_9
 have HR0_10 := am_ hr0_10
 have HC0_10 := am_ hc0_10
 clear hr0_10 hc0_10
 have HR0_12 := am_ hr0_12
 have HC0_12 := am_ hc0_12
 clear hr0_12 hc0_12
 have HB := am_ (Below.refl w.heap.size w)
 have H : ((Sb.f k l0_10 a1).bind fun bt134 => (some bt134.2)) = some r := h
 clear h
 replace H := bm_ H
 obtain ⟨⟨t134, t135⟩, A30, H⟩ := H
 replace H : (some t135) = some r := H
 have A3 := am_ A30
 clear A30
 obtain rfl := si_ H
 go_enter Try.func72, Try.ntmps72
 go_wp2_with (first | ((with_reducible refine a0f (N := 2) rfl ?_); refine qev_ 2 #[.int .i64 a0_0, .int .i64 a0_1, .int .i64 a0_2, .int .i64 a0_3, .bool a0_4, .int .i64 a0_5, .int .i64 a0_6, .int .i64 a0_7, .slice A0_8 l0_8.length c0_8, .slice A0_9 l0_9.length c0_9, .slice A0_10 l0_10.length c0_10, .string a0_11, .slice A0_12 l0_12.length c0_12] 62 ?_; intro gb133 hg w4 hbox hb; have BK133 := am_ (hbox); have GW133 := qga_ hg; have GE133 := qga_ hg; replace HB := qbs_ hb; clear hb hbox hg; obtain ⟨z'5_0, z'5_1, z'5_2, z'5_3, z'5_4, z'5_5, z'5_6, z'5_7, z'5_8, z'5_9, z'5_10, z'5_11, z'5_12⟩ := a1u BK133; obtain ⟨y'5_0, y'5_1, y'5_2, y'5_3, y'5_4, y'5_5, y'5_6, y'5_7, y'5_8, y'5_9, y'5_10, y'5_11, y'5_12⟩ := a1v BK133) | ((with_reducible refine a0e (f := 82) rfl ?_); refine a0w (some 12) rfl rfl Try.func82 (by kernel_rfl) rfl #[.slice A0_10 l0_10.length c0_10, .int .i64 a1] rfl ql_ ?_; (with_reducible refine (Sb.calls k _ _ l0_10 a1 t134 t135 _ ?s1 ?s2 A3.out).mono ?_); (case s1 => exact qc_ HR0_10); (case s2 => exact HC0_10.out); rintro e w' ⟨rfl, ⟨nd, rfl⟩⟩; refine ⟨_, rfl, ?_⟩))
 go_ret
 exact ⟨qx_, qb_⟩
def cmp_Compare_int.f (a0 a1 : Int) : Option (Int) := (cmp_isNaN_int.f a0).bind fun t136 => ((cmp_isNaN_int.f a1).bind fun t137 => (if t136 = true then (if t137 = true then (some 0) else (some (-1))) else (if t137 = true then (some 1) else (if a0 < a1 then (some (-1)) else (if a0 > a1 then (some 1) else (some 0))))))
set_option maxHeartbeats 8000000 in
set_option maxRecDepth 100000 in
theorem cmp_Compare_int.calls (a0 a1 r : Int) (w : World) (h : cmp_Compare_int.f a0 a1 = some r) :
  Calls Try.prog 71 #[.int .i64 a0, .int .i64 a1] w fun e w' => e = .returned (.int .i64 r) ∧ a1j w w' := by
 have H : ((cmp_isNaN_int.f a0).bind fun t136 => ((cmp_isNaN_int.f a1).bind fun t137 => (if t136 = true then (if t137 = true then (some 0) else (some (-1))) else (if t137 = true then (some 1) else (if a0 < a1 then (some (-1)) else (if a0 > a1 then (some 1) else (some 0))))))) = some r := h
 clear h
 replace H := bm_ H
 obtain ⟨t136, A30, H⟩ := H
 replace H : ((cmp_isNaN_int.f a1).bind fun t137 => (if t136 = true then (if t137 = true then (some 0) else (some (-1))) else (if t137 = true then (some 1) else (if a0 < a1 then (some (-1)) else (if a0 > a1 then (some 1) else (some 0)))))) = some r := H
 have A3 := am_ A30
 clear A30
 replace H := bm_ H
 obtain ⟨t137, A40, H⟩ := H
 replace H : (if t136 = true then (if t137 = true then (some 0) else (some (-1))) else (if t137 = true then (some 1) else (if a0 < a1 then (some (-1)) else (if a0 > a1 then (some 1) else (some 0))))) = some r := H
 have A4 := am_ A40
 clear A40
 by_cases c5 : t136 = true
 ·subst c5
  have H1 : (if t137 = true then (some 0) else (some (-1))) = some r := by rw [if_pos rfl] at H; exact H
  clear H
  have H := H1
  clear H1
  by_cases c6 : t137 = true
  ·subst c6
   have H1 : (some 0) = some r := by rw [if_pos rfl] at H; exact H
   clear H
   have H := H1
   clear H1
   obtain rfl := si_ H
   go_enter Try.func71, Try.ntmps71
   go_wp2_with (first | ((with_reducible refine a0e (f := 81) rfl ?_); refine a0w (some 8) rfl rfl Try.func81 (by kernel_rfl) rfl #[.int .i64 a0] rfl ql_ ?_; (with_reducible refine (cmp_isNaN_int.calls a0 true _ A3.out).mono ?_); rintro e w' ⟨rfl, ⟨nd, rfl⟩⟩; refine ⟨_, rfl, ?_⟩) | ((with_reducible refine a0e (f := 81) rfl ?_); refine a0w (some 10) rfl rfl Try.func81 (by kernel_rfl) rfl #[.int .i64 a1] rfl ql_ ?_; (with_reducible refine (cmp_isNaN_int.calls a1 true _ A4.out).mono ?_); rintro e w' ⟨rfl, ⟨nd, rfl⟩⟩; refine ⟨_, rfl, ?_⟩))
   go_ret
   exact ⟨qs_, qy_⟩
  ·replace c6 := be_ c6
   subst c6
   have H1 : (some (-1)) = some r := by rw [if_neg (show ¬ (false = true) by decide)] at H; exact H
   clear H
   have H := H1
   clear H1
   obtain rfl := si_ H
   go_enter Try.func71, Try.ntmps71
   go_wp2_with (first | ((with_reducible refine a0e (f := 81) rfl ?_); refine a0w (some 8) rfl rfl Try.func81 (by kernel_rfl) rfl #[.int .i64 a0] rfl ql_ ?_; (with_reducible refine (cmp_isNaN_int.calls a0 true _ A3.out).mono ?_); rintro e w' ⟨rfl, ⟨nd, rfl⟩⟩; refine ⟨_, rfl, ?_⟩) | ((with_reducible refine a0e (f := 81) rfl ?_); refine a0w (some 10) rfl rfl Try.func81 (by kernel_rfl) rfl #[.int .i64 a1] rfl ql_ ?_; (with_reducible refine (cmp_isNaN_int.calls a1 false _ A4.out).mono ?_); rintro e w' ⟨rfl, ⟨nd, rfl⟩⟩; refine ⟨_, rfl, ?_⟩))
   go_ret
   exact ⟨qs_, qy_⟩
 ·replace c5 := be_ c5
  subst c5
  have H1 : (if t137 = true then (some 1) else (if a0 < a1 then (some (-1)) else (if a0 > a1 then (some 1) else (some 0)))) = some r := by rw [if_neg (show ¬ (false = true) by decide)] at H; exact H
  clear H
  have H := H1
  clear H1
  by_cases c7 : t137 = true
  ·subst c7
   have H1 : (some 1) = some r := by rw [if_pos rfl] at H; exact H
   clear H
   have H := H1
   clear H1
   obtain rfl := si_ H
   go_enter Try.func71, Try.ntmps71
   go_wp2_with (first | ((with_reducible refine a0e (f := 81) rfl ?_); refine a0w (some 8) rfl rfl Try.func81 (by kernel_rfl) rfl #[.int .i64 a0] rfl ql_ ?_; (with_reducible refine (cmp_isNaN_int.calls a0 false _ A3.out).mono ?_); rintro e w' ⟨rfl, ⟨nd, rfl⟩⟩; refine ⟨_, rfl, ?_⟩) | ((with_reducible refine a0e (f := 81) rfl ?_); refine a0w (some 10) rfl rfl Try.func81 (by kernel_rfl) rfl #[.int .i64 a1] rfl ql_ ?_; (with_reducible refine (cmp_isNaN_int.calls a1 true _ A4.out).mono ?_); rintro e w' ⟨rfl, ⟨nd, rfl⟩⟩; refine ⟨_, rfl, ?_⟩))
   go_ret
   exact ⟨qs_, qy_⟩
  ·replace c7 := be_ c7
   subst c7
   have H1 : (if a0 < a1 then (some (-1)) else (if a0 > a1 then (some 1) else (some 0))) = some r := by rw [if_neg (show ¬ (false = true) by decide)] at H; exact H
   clear H
   have H := H1
   clear H1
   by_cases c8 : a0 < a1
   ·rw [if_pos c8] at H
    have c8b0 : decide (a0 < a1) = true := decide_eq_true c8
    clear c8
    obtain rfl := si_ H
    go_enter Try.func71, Try.ntmps71
    go_wp2_with (first | ((with_reducible refine a0e (f := 81) rfl ?_); refine a0w (some 8) rfl rfl Try.func81 (by kernel_rfl) rfl #[.int .i64 a0] rfl ql_ ?_; (with_reducible refine (cmp_isNaN_int.calls a0 false _ A3.out).mono ?_); rintro e w' ⟨rfl, ⟨nd, rfl⟩⟩; refine ⟨_, rfl, ?_⟩) | ((with_reducible refine a0e (f := 81) rfl ?_); refine a0w (some 10) rfl rfl Try.func81 (by kernel_rfl) rfl #[.int .i64 a1] rfl ql_ ?_; (with_reducible refine (cmp_isNaN_int.calls a1 false _ A4.out).mono ?_); rintro e w' ⟨rfl, ⟨nd, rfl⟩⟩; refine ⟨_, rfl, ?_⟩))
    go_ret
    exact ⟨qs_, qy_⟩
   ·rw [if_neg c8] at H
    have c8b0 : decide (a0 < a1) = false := decide_eq_false c8
    clear c8
    by_cases c9 : a0 > a1
    ·rw [if_pos c9] at H
     have c9b0 : decide (a1 < a0) = true := decide_eq_true c9
     clear c9
     obtain rfl := si_ H
     go_enter Try.func71, Try.ntmps71
     go_wp2_with (first | ((with_reducible refine a0e (f := 81) rfl ?_); refine a0w (some 8) rfl rfl Try.func81 (by kernel_rfl) rfl #[.int .i64 a0] rfl ql_ ?_; (with_reducible refine (cmp_isNaN_int.calls a0 false _ A3.out).mono ?_); rintro e w' ⟨rfl, ⟨nd, rfl⟩⟩; refine ⟨_, rfl, ?_⟩) | ((with_reducible refine a0e (f := 81) rfl ?_); refine a0w (some 10) rfl rfl Try.func81 (by kernel_rfl) rfl #[.int .i64 a1] rfl ql_ ?_; (with_reducible refine (cmp_isNaN_int.calls a1 false _ A4.out).mono ?_); rintro e w' ⟨rfl, ⟨nd, rfl⟩⟩; refine ⟨_, rfl, ?_⟩))
     go_ret
     exact ⟨qs_, qy_⟩
    ·rw [if_neg c9] at H
     have c9b0 : decide (a1 < a0) = false := decide_eq_false c9
     clear c9
     obtain rfl := si_ H
     go_enter Try.func71, Try.ntmps71
     go_wp2_with (first | ((with_reducible refine a0e (f := 81) rfl ?_); refine a0w (some 8) rfl rfl Try.func81 (by kernel_rfl) rfl #[.int .i64 a0] rfl ql_ ?_; (with_reducible refine (cmp_isNaN_int.calls a0 false _ A3.out).mono ?_); rintro e w' ⟨rfl, ⟨nd, rfl⟩⟩; refine ⟨_, rfl, ?_⟩) | ((with_reducible refine a0e (f := 81) rfl ?_); refine a0w (some 10) rfl rfl Try.func81 (by kernel_rfl) rfl #[.int .i64 a1] rfl ql_ ?_; (with_reducible refine (cmp_isNaN_int.calls a1 false _ A4.out).mono ?_); rintro e w' ⟨rfl, ⟨nd, rfl⟩⟩; refine ⟨_, rfl, ?_⟩))
     go_ret
     exact ⟨qs_, qy_⟩
def a5k.f (a0_0 a0_1 a0_2 a1 : Int) : Option (Int) := (cmp_Compare_int.f a0_0 a1).bind fun t139 => (some t139)
set_option maxHeartbeats 8000000 in
set_option maxRecDepth 100000 in
theorem a5k.calls (a0_0 a0_1 a0_2 a1 r : Int) (w : World) (h : a5k.f a0_0 a0_1 a0_2 a1 = some r) :
  Calls Try.prog 70 #[.agg #[.int .i64 a0_0, .int .i64 a0_1, .int .i64 a0_2], .int .i64 a1] w fun e w' => e = .returned (.int .i64 r) ∧ Below w.heap.size w w' := by
 have hu43 := Try.underlying43
 have HB := am_ (Below.refl w.heap.size w)
 have H : ((cmp_Compare_int.f a0_0 a1).bind fun t139 => (some t139)) = some r := h
 clear h
 replace H := bm_ H
 obtain ⟨t139, A30, H⟩ := H
 replace H : (some t139) = some r := H
 have A3 := am_ A30
 clear A30
 obtain rfl := si_ H
 go_enter Try.func70, Try.ntmps70
 go_wp2_with (first | ((with_reducible refine a0f (N := 2) rfl ?_); refine qev_ 2 #[.int .i64 a0_0, .int .i64 a0_1, .int .i64 a0_2] 43 ?_; intro gb138 hg w4 hbox hb; have BK138 := am_ (hbox); have GW138 := qga_ hg; have GE138 := qga_ hg; replace HB := qbs_ hb; clear hb hbox hg; obtain ⟨z'5_0, z'5_1, z'5_2⟩ := qz3_ BK138; obtain ⟨y'5_0, y'5_1, y'5_2⟩ := qf3_ BK138) | ((with_reducible refine a0e (f := 71) rfl ?_); refine a0w (some 8) rfl rfl Try.func71 (by kernel_rfl) rfl #[.int .i64 a0_0, .int .i64 a1] rfl ql_ ?_; (with_reducible refine (cmp_Compare_int.calls a0_0 a1 t139 _ A3.out).mono ?_); rintro e w' ⟨rfl, ⟨nd, rfl⟩⟩; refine ⟨_, rfl, ?_⟩))
 go_ret
 exact ⟨qx_, qb_⟩
def Av.l0 : Nat → List (S43) → Int → Int → Int → Int → Option (Int × Bool)
 | 0, _, _, _, _, _ => none
 | k + 1, x0, x1, x8, x9, x10 => if x9 < x10 then (if 0 ≤ (wrap64 ((IntKind.u64.wrap (wrap64 (x9 + x10))) / 2)) then (if (wrap64 ((IntKind.u64.wrap (wrap64 (x9 + x10))) / 2)) < (x0.length : Int) then ((a5k.f ((a0a x0 (wrap64 ((IntKind.u64.wrap (wrap64 (x9 + x10))) / 2))).f0) ((a0a x0 (wrap64 ((IntKind.u64.wrap (wrap64 (x9 + x10))) / 2))).f1) ((a0a x0 (wrap64 ((IntKind.u64.wrap (wrap64 (x9 + x10))) / 2))).f2) x1).bind fun t143 => (if t143 < 0 then (Av.l0 k x0 x1 x8 (wrap64 ((wrap64 ((IntKind.u64.wrap (wrap64 (x9 + x10))) / 2)) + 1)) x10) else (Av.l0 k x0 x1 x8 x9 (wrap64 ((IntKind.u64.wrap (wrap64 (x9 + x10))) / 2))))) else (none)) else (none)) else (if x9 < x8 then (if 0 ≤ x9 then (if x9 < (x0.length : Int) then ((a5k.f ((a0a x0 x9).f0) ((a0a x0 x9).f1) ((a0a x0 x9).f2) x1).bind fun t141 => (some (x9, (t141 == 0)))) else (none)) else (none)) else (some (x9, false)))
def Av.f (k : Nat) (l0 : List (S43)) (a1 : Int)  : Option (Int × Bool) := Av.l0 k l0 a1 (l0.length : Int) 0 (l0.length : Int)
theorem Av.a0t : ∀ k, (∀ y0 y1 y2 y3 y4, LeO (Av.l0 k y0 y1 y2 y3 y4) (Av.l0 (k + 1) y0 y1 y2 y3 y4))
 | 0 => fun _ _ _ _ _ r h => by simp [Av.l0] at h
 | k + 1 => by
  have ih0 := Av.a0t k
  ·intro y0 y1 y2 y3 y4
   unfold Av.l0
   with_reducible (repeat' first | apply ih0 | apply LeO.refl | apply LeO.none | apply LeO.ite | refine LeO.bind ?_ (fun _ => ?_))
theorem Av.mono : ∀ a0 a1 k, LeO (Av.f k a0 a1) (Av.f (k + 1) a0 a1) := by
 intro a0 a1 k
 have ih0 := Av.a0t k
 unfold Av.f
 with_reducible (repeat' first | apply ih0 | apply LeO.refl | apply LeO.none | apply LeO.ite | refine LeO.bind ?_ (fun _ => ?_))
set_option maxHeartbeats 8000000 in
set_option maxRecDepth 100000 in
theorem Av.calls (k : Nat) (A0 : Option Addr) (c0 : Nat) (l0 : List (S43)) (a1 : Int)  (r1 : Int) (r2 : Bool) (w : World) (hr0 : Kd.C k43 w A0 l0.length l0) (hc0 : l0.length ≤ c0) (h : Av.f k l0 a1 = some (r1, r2)) :
  Calls Try.prog 69 #[.slice A0 l0.length c0, .int .i64 a1, .func (.func 70) #[] #[]] w fun e w' => e = .returned (.tuple #[.int .i64 r1, .bool r2]) ∧ Below w.heap.size w w' := by
 have hu43 := Try.underlying43
 have HR0 := am_ hr0
 have HC0 := am_ hc0
 clear hr0 hc0
 have HB := am_ (Below.refl w.heap.size w)
 have H : (Av.l0 k l0 a1 (l0.length : Int) 0 (l0.length : Int)) = some (r1, r2) := h
 clear h
 have H' := am_ H
 clear H
 go_enter Try.func69, Try.ntmps69
 go_wp2
 go_loopg [9, 10] k (fun kq v9 v10 w' => ∃ (x9_1 : Int) (x10_1 : Int), v9 = .int .i64 x9_1 ∧ v10 = .int .i64 x10_1 ∧ Aside0 (Av.l0 kq l0 a1 (l0.length : Int) x9_1 x10_1 = some (r1, r2)) ∧ Aside0 (kq ≤ k) ∧ Aside0 (Below w.heap.size w w'))
 case atStart => exact ⟨(0), ((l0.length : Int)), qs_, qs_, H', ⟨Nat.le_refl _⟩, ⟨qb_⟩⟩
 case round =>
  clear H'
  try clear p2
  obtain ⟨x9_1, x10_1, rfl, rfl, HA, HK1, HB⟩ := hrel
  cases gk with
  | zero => exact absurd HA.out (by simp [Av.l0])
  | succ k1 =>
   have H := HA.out
   clear HA
   simp only [Av.l0] at H
   by_cases c4 : x9_1 < x10_1
   ·rw [if_pos c4] at H
    have c4b0 : decide (x9_1 < x10_1) = true := decide_eq_true c4
    clear c4
    obtain ⟨ji5, hji5⟩ : ∃ j_ : Int, (wrap64 ((IntKind.u64.wrap (wrap64 (x9_1 + x10_1))) / 2)) = j_ := ⟨_, rfl⟩
    replace H : (if 0 ≤ (ji5) then (if (ji5) < (l0.length : Int) then ((a5k.f ((a0a l0 (ji5)).f0) ((a0a l0 (ji5)).f1) ((a0a l0 (ji5)).f2) a1).bind fun t143 => (if t143 < 0 then (Av.l0 k1 l0 a1 (l0.length : Int) (wrap64 ((ji5) + 1)) x10_1) else (Av.l0 k1 l0 a1 (l0.length : Int) x9_1 ji5))) else (none)) else (none)) = some (r1, r2) := by first | (rw [hji5] at H; exact H) | (simp only [hji5] at H ⊢; exact H)
    have hji5w : (IntKind.i64.wrap ((IntKind.u64.wrap (wrap64 (x9_1 + x10_1))) / 2)) = ji5 := (a3h _).trans hji5
    by_cases c6 : 0 ≤ (ji5)
    ·rw [if_pos c6] at H
     have c6b0 : decide (0 ≤ (ji5)) = true := decide_eq_true c6
     clear c6
     by_cases c7 : (ji5) < (l0.length : Int)
     ·rw [if_pos c7] at H
      have c7b0 : decide ((ji5) < (l0.length : Int)) = true := decide_eq_true c7
      clear c7
      replace H := bm_ H
      obtain ⟨t143, A80, H⟩ := H
      replace H : (if t143 < 0 then (Av.l0 k1 l0 a1 (l0.length : Int) (wrap64 ((ji5) + 1)) x10_1) else (Av.l0 k1 l0 a1 (l0.length : Int) x9_1 ji5)) = some (r1, r2) := H
      have A8 := am_ A80
      clear A80
      by_cases c9 : t143 < 0
      ·rw [if_pos c9] at H
       have c9b0 : decide (t143 < 0) = true := decide_eq_true c9
       clear c9
       have H' := am_ H
       clear H
       have p142 : 0 ≤ ((ji5) : Int) := ot_
       have q142 : (ji5) < (l0.length : Int) := ot_
       obtain ⟨ad142, e142, hx142_0, hx142_1, hx142_2⟩ := a2p HR0.out (ji5) p142 q142
       cases e142
       replace hx142_0 := qh_ HB hx142_0
       replace hx142_1 := qh_ HB hx142_1
       replace hx142_2 := qh_ HB hx142_2
       replace p142 := eq_true p142
       replace q142 := eq_true q142
       go_wp2_with (first | (go_at_call 70; (with_reducible refine (a5k.calls ((a0a l0 (ji5)).f0) ((a0a l0 (ji5)).f1) ((a0a l0 (ji5)).f2) a1 t143 _ A8.out).mono ?_); rintro e w10 ⟨rfl, hb⟩; replace HB := qbs_ hb; (try clear hb); (try clear hb2); (try clear hk); (try clear hi)))
       go_roundg k1
       case measure => have := HK1.out; omega
       case rel => exact ⟨(wrap64 ((ji5) + 1)), (x10_1), (by first | rfl | (simp; done) | (simp only [← hji5] <;> (first | rfl | simp)) | (simp [*]; done)), qs_, H', ⟨by have := HK1.out; omega⟩, ⟨qb_⟩⟩
      ·rw [if_neg c9] at H
       have c9b0 : decide (t143 < 0) = false := decide_eq_false c9
       clear c9
       have H' := am_ H
       clear H
       have p142 : 0 ≤ ((ji5) : Int) := ot_
       have q142 : (ji5) < (l0.length : Int) := ot_
       obtain ⟨ad142, e142, hx142_0, hx142_1, hx142_2⟩ := a2p HR0.out (ji5) p142 q142
       cases e142
       replace hx142_0 := qh_ HB hx142_0
       replace hx142_1 := qh_ HB hx142_1
       replace hx142_2 := qh_ HB hx142_2
       replace p142 := eq_true p142
       replace q142 := eq_true q142
       go_wp2_with (first | (go_at_call 70; (with_reducible refine (a5k.calls ((a0a l0 (ji5)).f0) ((a0a l0 (ji5)).f1) ((a0a l0 (ji5)).f2) a1 t143 _ A8.out).mono ?_); rintro e w11 ⟨rfl, hb⟩; replace HB := qbs_ hb; (try clear hb); (try clear hb2); (try clear hk); (try clear hi)))
       go_roundg k1
       case measure => have := HK1.out; omega
       case rel => exact ⟨(x9_1), (ji5), qs_, (by first | rfl | (simp; done) | (simp only [← hji5] <;> (first | rfl | simp)) | (simp [*]; done)), H', ⟨by have := HK1.out; omega⟩, ⟨qb_⟩⟩
     ·rw [if_neg c7] at H
      exact absurd H (by simp)
    ·rw [if_neg c6] at H
     exact absurd H (by simp)
   ·rw [if_neg c4] at H
    have c4b0 : decide (x9_1 < x10_1) = false := decide_eq_false c4
    clear c4
    by_cases c12 : x9_1 < (l0.length : Int)
    ·rw [if_pos c12] at H
     have c12b0 : decide (x9_1 < (l0.length : Int)) = true := decide_eq_true c12
     clear c12
     by_cases c13 : 0 ≤ x9_1
     ·rw [if_pos c13] at H
      have c13b0 : decide (0 ≤ x9_1) = true := decide_eq_true c13
      clear c13
      by_cases c14 : x9_1 < (l0.length : Int)
      ·rw [if_pos c14] at H
       have c14b0 : decide (x9_1 < (l0.length : Int)) = true := decide_eq_true c14
       clear c14
       replace H := bm_ H
       obtain ⟨t141, A150, H⟩ := H
       replace H : (some (x9_1, (t141 == 0))) = some (r1, r2) := H
       have A15 := am_ A150
       clear A150
       simp only [Option.some.injEq, Prod.mk.injEq] at H
       obtain ⟨rfl, rfl⟩ := H
       have p140 : 0 ≤ (x9_1 : Int) := ot_
       have q140 : x9_1 < (l0.length : Int) := ot_
       obtain ⟨ad140, e140, hx140_0, hx140_1, hx140_2⟩ := a2p HR0.out x9_1 p140 q140
       cases e140
       replace hx140_0 := qh_ HB hx140_0
       replace hx140_1 := qh_ HB hx140_1
       replace hx140_2 := qh_ HB hx140_2
       replace p140 := eq_true p140
       replace q140 := eq_true q140
       go_wp2_with (first | (go_at_call 70; (with_reducible refine (a5k.calls ((a0a l0 x9_1).f0) ((a0a l0 x9_1).f1) ((a0a l0 x9_1).f2) a1 t141 _ A15.out).mono ?_); rintro e w16 ⟨rfl, hb⟩; replace HB := qbs_ hb; (try clear hb); (try clear hb2); (try clear hk); (try clear hi)))
       go_ret2
       exact ⟨qx_, qb_⟩
      ·rw [if_neg c14] at H
       exact absurd H (by simp)
     ·rw [if_neg c13] at H
      exact absurd H (by simp)
    ·rw [if_neg c12] at H
     have c12b0 : decide (x9_1 < (l0.length : Int)) = false := decide_eq_false c12
     clear c12
     simp only [Option.some.injEq, Prod.mk.injEq] at H
     obtain ⟨rfl, rfl⟩ := H
     go_wp2
     go_ret2
     exact ⟨qx_, qb_⟩
def a3c.f (k : Nat) (a0_0 a0_1 a0_2 a0_3 : Int) (a0_4 : Bool) (a0_5 a0_6 a0_7 : Int) (l0_8 : List ByteArray) (l0_9 : List (S43)) (l0_10 : List Int) (a0_11 : ByteArray) (l0_12 : List Int) (a1 : Int) : Option (Int × Bool) := (Av.f k l0_9 a1).bind fun bt145 => (some (bt145.1, bt145.2))
theorem a3c.mono : ∀ a0 a1 a2 a3 a4 a5 a6 a7 a8 a9 a10 a11 a12 a13 k, LeO (a3c.f k a0 a1 a2 a3 a4 a5 a6 a7 a8 a9 a10 a11 a12 a13) (a3c.f (k + 1) a0 a1 a2 a3 a4 a5 a6 a7 a8 a9 a10 a11 a12 a13) := by
 intro a0 a1 a2 a3 a4 a5 a6 a7 a8 a9 a10 a11 a12 a13 k
 unfold a3c.f
 with_reducible (repeat' first | apply Av.mono | apply LeO.refl | apply LeO.none | apply LeO.ite | refine LeO.bind ?_ (fun _ => ?_))
set_option maxHeartbeats 8000000 in
set_option maxRecDepth 100000 in
theorem a3c.calls (k : Nat) (a0_0 a0_1 a0_2 a0_3 : Int) (a0_4 : Bool) (a0_5 a0_6 a0_7 : Int) (A0_8 : Option Addr) (c0_8 : Nat) (l0_8 : List ByteArray) (A0_9 : Option Addr) (c0_9 : Nat) (l0_9 : List (S43)) (A0_10 : Option Addr) (c0_10 : Nat) (l0_10 : List Int) (a0_11 : ByteArray) (A0_12 : Option Addr) (c0_12 : Nat) (l0_12 : List Int) (a1 r1 : Int) (r2 : Bool) (w : World) (hr0_8 : Kd.C Kd.string w A0_8 l0_8.length l0_8) (hc0_8 : l0_8.length ≤ c0_8) (hr0_9 : Kd.C k43 w A0_9 l0_9.length l0_9) (hc0_9 : l0_9.length ≤ c0_9) (hr0_10 : Kd.C (Kd.int .i64) w A0_10 l0_10.length l0_10) (hc0_10 : l0_10.length ≤ c0_10) (hr0_12 : Kd.C (Kd.int .i64) w A0_12 l0_12.length l0_12) (hc0_12 : l0_12.length ≤ c0_12) (h : a3c.f k a0_0 a0_1 a0_2 a0_3 a0_4 a0_5 a0_6 a0_7 l0_8 l0_9 l0_10 a0_11 l0_12 a1 = some (r1, r2)) :
  Calls Try.prog 56 #[.agg #[.int .i64 a0_0, .int .i64 a0_1, .int .i64 a0_2, .int .i64 a0_3, .bool a0_4, .int .i64 a0_5, .int .i64 a0_6, .int .i64 a0_7, .slice A0_8 l0_8.length c0_8, .slice A0_9 l0_9.length c0_9, .slice A0_10 l0_10.length c0_10, .string a0_11, .slice A0_12 l0_12.length c0_12], .int .i64 a1] w fun e w' => e = .returned (.tuple #[.int .i64 r1, .bool r2]) ∧ Below w.heap.size w w' := by
 have hu62 := Try.underlying62
 have HR0_8 := am_ hr0_8
 have HC0_8 := am_ hc0_8
 clear hr0_8 hc0_8
 have HR0_9 := am_ hr0_9
 have HC0_9 := am_ hc0_9
 clear hr0_9 hc0_9
 have HR0_10 := am_ hr0_10
 have HC0_10 := am_ hc0_10
 clear hr0_10 hc0_10
 have HR0_12 := am_ hr0_12
 have HC0_12 := am_ hc0_12
 clear hr0_12 hc0_12
 have HB := am_ (Below.refl w.heap.size w)
 have H : ((Av.f k l0_9 a1).bind fun bt145 => (some (bt145.1, bt145.2))) = some (r1, r2) := h
 clear h
 replace H := bm_ H
 obtain ⟨⟨t145, t146⟩, A30, H⟩ := H
 replace H : (some (t145, t146)) = some (r1, r2) := H
 have A3 := am_ A30
 clear A30
 simp only [Option.some.injEq, Prod.mk.injEq] at H
 obtain ⟨rfl, rfl⟩ := H
 go_enter Try.func56, Try.ntmps56
 go_wp2_with (first | ((with_reducible refine a0f (N := 2) rfl ?_); refine qev_ 2 #[.int .i64 a0_0, .int .i64 a0_1, .int .i64 a0_2, .int .i64 a0_3, .bool a0_4, .int .i64 a0_5, .int .i64 a0_6, .int .i64 a0_7, .slice A0_8 l0_8.length c0_8, .slice A0_9 l0_9.length c0_9, .slice A0_10 l0_10.length c0_10, .string a0_11, .slice A0_12 l0_12.length c0_12] 62 ?_; intro gb144 hg w4 hbox hb; have BK144 := am_ (hbox); have GW144 := qga_ hg; have GE144 := qga_ hg; replace HB := qbs_ hb; clear hb hbox hg; obtain ⟨z'5_0, z'5_1, z'5_2, z'5_3, z'5_4, z'5_5, z'5_6, z'5_7, z'5_8, z'5_9, z'5_10, z'5_11, z'5_12⟩ := a1u BK144; obtain ⟨y'5_0, y'5_1, y'5_2, y'5_3, y'5_4, y'5_5, y'5_6, y'5_7, y'5_8, y'5_9, y'5_10, y'5_11, y'5_12⟩ := a1v BK144) | ((with_reducible refine a0e (f := 69) rfl ?_); refine a0w (some 10) rfl rfl Try.func69 (by kernel_rfl) rfl #[.slice A0_9 l0_9.length c0_9, .int .i64 a1, .func (.func 70) #[] #[]] rfl ql_ ?_; (with_reducible refine (Av.calls k _ _ l0_9 a1  t145 t146 _ ?s1 ?s2 A3.out).mono ?_); (case s1 => exact qc_ HR0_9); (case s2 => exact HC0_9.out); rintro e w6 ⟨rfl, hb⟩; refine ⟨_, rfl, ?_⟩; replace BK144 := qkb_ BK144 hb; replace HB := qbs_ hb; (try clear hb); (try clear hb2); (try clear hk); (try clear hi)))
 go_ret2
 exact ⟨qx_, qb_⟩
end Go.Proofs.Ytemnlgefngjliaa.Px
