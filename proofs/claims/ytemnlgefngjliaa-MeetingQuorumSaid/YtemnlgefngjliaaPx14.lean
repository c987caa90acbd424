/- Contracts of Go functions, printed. Conditions: as each theorem states. -/
import Derived.Test.YtemnlgefngjliaaPx0
import Derived.Test.YtemnlgefngjliaaPx8
import Derived.Test.YtemnlgefngjliaaPx9
import Derived.Test.YtemnlgefngjliaaPx12
namespace Go.Proofs.Ytemnlgefngjliaa.Px
open Go.Proofs.Ytemnlgefngjliaa.Given
open Go.RowKit Go.Proofs.YtemnlgefngjliaaW.PrintWords Go.Proofs.YtemnlgefngjliaaW.PrintLast Go.Proofs.YtemnlgefngjliaaW.PrintMore
attribute [local go_sem] a2f a2g a2r a2s a1x a1y a2h a2i
set_option linter.unusedVariables false
set_option linter.unusedSimpArgs false
def a1h.j0 : Nat → Int → Int → Bool → Int → Int → Option (Bool × Int)
 | 0, _, _, _, _, _ => none
 | k + 1, x0, x1, x20, u0, u1 => if x20 = true then (some (false, 1)) else (some (decide ((wrap64 (x0 * u1)) > (wrap64 ((wrap64 (x0 + x1)) * u0))), 0))
def a1h.f (k : Nat) (a0 a1 a2_0 a2_1 : Int) : Option (Bool × Int) := (a0s.f a0 0 1000000).bind fun t246 => (if t246 = true then ((a0s.f a1 0 1000000).bind fun t247 => (if t247 = true then ((a3y.f a2_0 a2_1).bind fun t248 => (a1h.j0 k a0 a1 (!t248) a2_0 a2_1)) else (a1h.j0 k a0 a1 true a2_0 a2_1))) else (a1h.j0 k a0 a1 true a2_0 a2_1))
theorem a1h.a0t : ∀ k, (∀ y0 y1 y2 y3 y4, LeO (a1h.j0 k y0 y1 y2 y3 y4) (a1h.j0 (k + 1) y0 y1 y2 y3 y4))
 | 0 => fun _ _ _ _ _ r h => by simp [a1h.j0] at h
 | k + 1 => by
  have ih0 := a1h.a0t k
  ·intro y0 y1 y2 y3 y4
   unfold a1h.j0
   with_reducible (repeat' first | apply ih0 | apply LeO.refl | apply LeO.none | apply LeO.ite | refine LeO.bind ?_ (fun _ => ?_))
theorem a1h.mono : ∀ a0 a1 a2 a3 k, LeO (a1h.f k a0 a1 a2 a3) (a1h.f (k + 1) a0 a1 a2 a3) := by
 intro a0 a1 a2 a3 k
 have ih0 := a1h.a0t k
 unfold a1h.f
 with_reducible (repeat' first | apply ih0 | apply LeO.refl | apply LeO.none | apply LeO.ite | refine LeO.bind ?_ (fun _ => ?_))
set_option maxHeartbeats 8000000 in
set_option maxRecDepth 100000 in
theorem a1h.calls (k : Nat) (a0 a1 a2_0 a2_1 : Int) (r1 : Bool) (r2 : Int) (w : World) (h : a1h.f k a0 a1 a2_0 a2_1 = some (r1, r2)) :
  Calls Try.prog 20 #[.int .i64 a0, .int .i64 a1, .agg #[.int .i64 a2_0, .int .i64 a2_1]] w fun e w' => e = .returned (.tuple #[.bool r1, .int .i64 r2]) ∧ Below w.heap.size w w' := by
 have hu23 := Try.underlying23
 have HB := am_ (Below.refl w.heap.size w)
 have H : ((a0s.f a0 0 1000000).bind fun t246 => (if t246 = true then ((a0s.f a1 0 1000000).bind fun t247 => (if t247 = true then ((a3y.f a2_0 a2_1).bind fun t248 => (a1h.j0 k a0 a1 (!t248) a2_0 a2_1)) else (a1h.j0 k a0 a1 true a2_0 a2_1))) else (a1h.j0 k a0 a1 true a2_0 a2_1))) = some (r1, r2) := h
 clear h
 have HC4 := am_ H
 clear H
 go_enter Try.func20, Try.ntmps20
 go_upto_region 1 with (first | ((with_reducible refine a0f (N := 5) rfl ?_); refine qev_ 5 #[.int .i64 a2_0, .int .i64 a2_1] 23 ?_; intro gb245 hg w5 hbox hb; have BK245 := am_ (hbox); have GW245 := qga_ hg; have GE245 := qga_ hg; replace HB := qbs_ hb; clear hb hbox hg))
 (try simp only [Act.put, List.setIfInBounds_toArray, List.set_cons_zero, List.set_cons_succ])
 go_cut [20] (fun v20 wc => ∃ (kq : Nat) (x20_3 : Bool), v20 = .bool x20_3 ∧ Aside0 (a1h.j0 kq a0 a1 x20_3 a2_0 a2_1 = some (r1, r2)) ∧ Aside0 (kq ≤ k) ∧ Aside0 (wc.heap[gb245]? = some (.cells #[.int .i64 a2_0, .int .i64 a2_1] 23 (0, 0))) ∧ Aside0 (Below w.heap.size w wc))
 case first =>
  have H := HC4.out
  clear HC4
  replace H := bm_ H
  obtain ⟨t246, A60, H⟩ := H
  replace H : (if t246 = true then ((a0s.f a1 0 1000000).bind fun t247 => (if t247 = true then ((a3y.f a2_0 a2_1).bind fun t248 => (a1h.j0 k a0 a1 (!t248) a2_0 a2_1)) else (a1h.j0 k a0 a1 true a2_0 a2_1))) else (a1h.j0 k a0 a1 true a2_0 a2_1)) = some (r1, r2) := H
  have A6 := am_ A60
  clear A60
  by_cases c7 : t246 = true
  ·subst c7
   have H1 : ((a0s.f a1 0 1000000).bind fun t247 => (if t247 = true then ((a3y.f a2_0 a2_1).bind fun t248 => (a1h.j0 k a0 a1 (!t248) a2_0 a2_1)) else (a1h.j0 k a0 a1 true a2_0 a2_1))) = some (r1, r2) := by rw [if_pos rfl] at H; exact H
   clear H
   have H := H1
   clear H1
   replace H := bm_ H
   obtain ⟨t247, A80, H⟩ := H
   replace H : (if t247 = true then ((a3y.f a2_0 a2_1).bind fun t248 => (a1h.j0 k a0 a1 (!t248) a2_0 a2_1)) else (a1h.j0 k a0 a1 true a2_0 a2_1)) = some (r1, r2) := H
   have A8 := am_ A80
   clear A80
   by_cases c9 : t247 = true
   ·subst c9
    have H1 : ((a3y.f a2_0 a2_1).bind fun t248 => (a1h.j0 k a0 a1 (!t248) a2_0 a2_1)) = some (r1, r2) := by rw [if_pos rfl] at H; exact H
    clear H
    have H := H1
    clear H1
    replace H := bm_ H
    obtain ⟨t248, A100, H⟩ := H
    replace H : (a1h.j0 k a0 a1 (!t248) a2_0 a2_1) = some (r1, r2) := H
    have A10 := am_ A100
    clear A100
    have H' := am_ H
    clear H
    go_wp2_with (first | ((with_reducible refine a0e (f := 51) rfl ?_); refine a0w (some 9) rfl rfl Try.func51 (by kernel_rfl) rfl #[.int .i64 a0, .int .i64 0, .int .i64 1000000] rfl ql_ ?_; (with_reducible refine (a0s.calls a0 0 1000000 true _ A6.out).mono ?_); rintro e w' ⟨rfl, ⟨nd, rfl⟩⟩; refine ⟨_, rfl, ?_⟩) | (go_at_call 51; (with_reducible refine (a0s.calls a1 0 1000000 true _ A8.out).mono ?_); rintro e w' ⟨rfl, ⟨nd, rfl⟩⟩; obtain ⟨z'11_0, z'11_1⟩ := qz2_ BK245; obtain ⟨y'11_0, y'11_1⟩ := qf2_ BK245) | (go_at_call 52; (with_reducible refine (a3y.calls a2_0 a2_1 t248 _ A10.out).mono ?_); rintro e w12 ⟨rfl, hb⟩; replace BK245 := qkb_ BK245 hb; replace HB := qbs_ hb; (try clear hb); (try clear hb2); (try clear hk); (try clear hi)))
    go_meet
    case rel => exact ⟨_, (!t248), qs_, H', ⟨qo_⟩, ⟨qk_ BK245⟩, ⟨qb_⟩⟩
   ·replace c9 := be_ c9
    subst c9
    have H1 : (a1h.j0 k a0 a1 true a2_0 a2_1) = some (r1, r2) := by rw [if_neg (show ¬ (false = true) by decide)] at H; exact H
    clear H
    have H := H1
    clear H1
    have H' := am_ H
    clear H
    go_wp2_with (first | ((with_reducible refine a0e (f := 51) rfl ?_); refine a0w (some 9) rfl rfl Try.func51 (by kernel_rfl) rfl #[.int .i64 a0, .int .i64 0, .int .i64 1000000] rfl ql_ ?_; (with_reducible refine (a0s.calls a0 0 1000000 true _ A6.out).mono ?_); rintro e w' ⟨rfl, ⟨nd, rfl⟩⟩; refine ⟨_, rfl, ?_⟩) | (go_at_call 51; (with_reducible refine (a0s.calls a1 0 1000000 false _ A8.out).mono ?_); rintro e w' ⟨rfl, ⟨nd, rfl⟩⟩))
    go_meet
    case rel => exact ⟨_, (true), qs_, H', ⟨qo_⟩, ⟨qk_ BK245⟩, ⟨qb_⟩⟩
  ·replace c7 := be_ c7
   subst c7
   have H1 : (a1h.j0 k a0 a1 true a2_0 a2_1) = some (r1, r2) := by rw [if_neg (show ¬ (false = true) by decide)] at H; exact H
   clear H
   have H := H1
   clear H1
   have H' := am_ H
   clear H
   go_wp2_with (first | ((with_reducible refine a0e (f := 51) rfl ?_); refine a0w (some 9) rfl rfl Try.func51 (by kernel_rfl) rfl #[.int .i64 a0, .int .i64 0, .int .i64 1000000] rfl ql_ ?_; (with_reducible refine (a0s.calls a0 0 1000000 false _ A6.out).mono ?_); rintro e w' ⟨rfl, ⟨nd, rfl⟩⟩; refine ⟨_, rfl, ?_⟩))
   go_meet
   case rel => exact ⟨_, (true), qs_, H', ⟨qo_⟩, ⟨qk_ BK245⟩, ⟨qb_⟩⟩
 case rest =>
  clear HC4
  try clear c2
  try clear p2
  try clear c5
  try clear c7
  try clear c9
  try clear z'11_0 z'11_1
  try clear y'11_0 y'11_1
  obtain ⟨kq, x20_3, rfl, HA, HJ3, BK245, HB⟩ := hcut
  cases kq with
  | zero => exact absurd HA.out (by simp [a1h.j0])
  | succ kj3 =>
   have H := HA.out
   clear HA
   simp only [a1h.j0] at H
   by_cases c13 : x20_3 = true
   ·subst c13
    have H1 : (some (false, 1)) = some (r1, r2) := by rw [if_pos rfl] at H; exact H
    clear H
    have H := H1
    clear H1
    simp only [Option.some.injEq, Prod.mk.injEq] at H
    obtain ⟨rfl, rfl⟩ := H
    go_wp2
    go_ret2
    exact ⟨qx_, qb_⟩
   ·replace c13 := be_ c13
    subst c13
    have H1 : (some (decide ((wrap64 (a0 * a2_1)) > (wrap64 ((wrap64 (a0 + a1)) * a2_0))), 0)) = some (r1, r2) := by rw [if_neg (show ¬ (false = true) by decide)] at H; exact H
    clear H
    have H := H1
    clear H1
    simp only [Option.some.injEq, Prod.mk.injEq] at H
    obtain ⟨rfl, rfl⟩ := H
    obtain ⟨z'14_0, z'14_1⟩ := qz2_ BK245; obtain ⟨y'14_0, y'14_1⟩ := qf2_ BK245
    go_wp2
    go_ret2
    exact ⟨qx_, qb_⟩
def a0v.l0 : Nat → List Int → List Int → Int → Option (Bool)
 | 0, _, _, _ => none
 | k + 1, x0, x1, x5 => if x5 < (x0.length : Int) then (if 0 ≤ x5 then (if x5 < (x1.length : Int) then (if (rd x0 x5) = (rd x1 x5) then (a0v.l0 k x0 x1 (wrap64 (x5 + 1))) else (some false)) else (none)) else (none)) else (some true)
def a0v.f (k : Nat) (l0 l1 : List Int) : Option (Bool) := if (l0.length : Int) = (l1.length : Int) then (a0v.l0 k l0 l1 0) else (some false)
theorem a0v.a0t : ∀ k, (∀ y0 y1 y2, LeO (a0v.l0 k y0 y1 y2) (a0v.l0 (k + 1) y0 y1 y2))
 | 0 => fun _ _ _ r h => by simp [a0v.l0] at h
 | k + 1 => by
  have ih0 := a0v.a0t k
  ·intro y0 y1 y2
   unfold a0v.l0
   with_reducible (repeat' first | apply ih0 | apply LeO.refl | apply LeO.none | apply LeO.ite | refine LeO.bind ?_ (fun _ => ?_))
theorem a0v.mono : ∀ a0 a1 k, LeO (a0v.f k a0 a1) (a0v.f (k + 1) a0 a1) := by
 intro a0 a1 k
 have ih0 := a0v.a0t k
 unfold a0v.f
 with_reducible (repeat' first | apply ih0 | apply LeO.refl | apply LeO.none | apply LeO.ite | refine LeO.bind ?_ (fun _ => ?_))
set_option maxHeartbeats 8000000 in
set_option maxRecDepth 100000 in
theorem a0v.calls (k : Nat) (A0 : Option Addr) (c0 : Nat) (l0 : List Int) (A1 : Option Addr) (c1 : Nat) (l1 : List Int) (r : Bool) (w : World) (hr0 : Kd.C (Kd.int .i64) w A0 l0.length l0) (hc0 : l0.length ≤ c0) (hr1 : Kd.C (Kd.int .i64) w A1 l1.length l1) (hc1 : l1.length ≤ c1) (h : a0v.f k l0 l1 = some r) :
  Calls Try.prog 17 #[.slice A0 l0.length c0, .slice A1 l1.length c1] w fun e w' => e = .returned (.bool r) ∧ a1j w w' := by
 have HR0 := am_ hr0
 have HC0 := am_ hc0
 clear hr0 hc0
 have HR1 := am_ hr1
 have HC1 := am_ hc1
 clear hr1 hc1
 have H : (if (l0.length : Int) = (l1.length : Int) then (a0v.l0 k l0 l1 0) else (some false)) = some r := h
 clear h
 by_cases c3 : (l0.length : Int) = (l1.length : Int)
 ·rw [if_pos c3] at H
  have c3b0 : ((l0.length : Int) == (l1.length : Int)) = true := beq_iff_eq.mpr c3
  have c3b1 : ((l0.length : Int) != (l1.length : Int)) = false := bne_eq_false_iff_eq.mpr c3
  have c3b2 : (l0.length == l1.length) = true := by first | simpa using c3 | (simp at c3 ⊢; omega)
  clear c3
  have H' := am_ H
  clear H
  go_enter Try.func17, Try.ntmps17
  go_wp2
  repeat (go_quiet (fail); try go_wp2)
  go_loopg [5] k (fun kq v5 w' => ∃ (x5_1 : Int), v5 = .int .i64 x5_1 ∧ Aside0 (a0v.l0 kq l0 l1 x5_1 = some r) ∧ Aside0 (kq ≤ k) ∧ a1j w w')
  case atStart => exact ⟨(0), qs_, H', ⟨Nat.le_refl _⟩, qy_⟩
  case round =>
   clear H'
   try clear c1
   try clear p2
   try clear c3
   try clear c3b0
   try clear c3b1
   try clear c3b2
   obtain ⟨x5_1, rfl, HA, HK1, ⟨m1, rfl⟩⟩ := hrel
   cases gk with
   | zero => exact absurd HA.out (by simp [a0v.l0])
   | succ k1 =>
    have H := HA.out
    clear HA
    simp only [a0v.l0] at H
    by_cases c4 : x5_1 < (l0.length : Int)
    ·rw [if_pos c4] at H
     have c4b0 : decide (x5_1 < (l0.length : Int)) = true := decide_eq_true c4
     clear c4
     by_cases c5 : 0 ≤ x5_1
     ·rw [if_pos c5] at H
      have c5b0 : decide (0 ≤ x5_1) = true := decide_eq_true c5
      clear c5
      by_cases c6 : x5_1 < (l1.length : Int)
      ·rw [if_pos c6] at H
       have c6b0 : decide (x5_1 < (l1.length : Int)) = true := decide_eq_true c6
       clear c6
       by_cases c7 : (rd l0 x5_1) = (rd l1 x5_1)
       ·rw [if_pos c7] at H
        have c7b0 : ((rd l0 x5_1) == (rd l1 x5_1)) = true := beq_iff_eq.mpr c7
        have c7b1 : ((rd l0 x5_1) != (rd l1 x5_1)) = false := bne_eq_false_iff_eq.mpr c7
        clear c7
        have H' := am_ H
        clear H
        have p249 : 0 ≤ (x5_1 : Int) := ot_
        have q249 : x5_1 < (l0.length : Int) := ot_
        obtain ⟨ad249, e249, hx249_0⟩ := Kd.a2o HR0.out x5_1 p249 q249
        cases e249
        replace p249 := eq_true p249
        replace q249 := eq_true q249
        have p250 : 0 ≤ (x5_1 : Int) := ot_
        have q250 : x5_1 < (l1.length : Int) := ot_
        obtain ⟨ad250, e250, hx250_0⟩ := Kd.a2o HR1.out x5_1 p250 q250
        cases e250
        replace p250 := eq_true p250
        replace q250 := eq_true q250
        go_wp2
        repeat (go_quiet (fail); try go_wp2)
        go_roundg k1
        case measure => have := HK1.out; omega
        case rel => exact ⟨(wrap64 (x5_1 + 1)), qs_, H', ⟨by have := HK1.out; omega⟩, qy_⟩
       ·rw [if_neg c7] at H
        have c7b0 : ((rd l0 x5_1) == (rd l1 x5_1)) = false := beq_eq_false_iff_ne.mpr c7
        have c7b1 : ((rd l0 x5_1) != (rd l1 x5_1)) = true := bne_iff_ne.mpr c7
        obtain rfl := si_ H
        have p249 : 0 ≤ (x5_1 : Int) := ot_
        have q249 : x5_1 < (l0.length : Int) := ot_
        obtain ⟨ad249, e249, hx249_0⟩ := Kd.a2o HR0.out x5_1 p249 q249
        cases e249
        replace p249 := eq_true p249
        replace q249 := eq_true q249
        have p250 : 0 ≤ (x5_1 : Int) := ot_
        have q250 : x5_1 < (l1.length : Int) := ot_
        obtain ⟨ad250, e250, hx250_0⟩ := Kd.a2o HR1.out x5_1 p250 q250
        cases e250
        replace p250 := eq_true p250
        replace q250 := eq_true q250
        go_wp2
        repeat (go_quiet (fail); try go_wp2)
        go_ret
        exact ⟨qs_, qy_⟩
      ·rw [if_neg c6] at H
       exact absurd H (by simp)
     ·rw [if_neg c5] at H
      exact absurd H (by simp)
    ·rw [if_neg c4] at H
     have c4b0 : decide (x5_1 < (l0.length : Int)) = false := decide_eq_false c4
     clear c4
     obtain rfl := si_ H
     go_wp2
     repeat (go_quiet (fail); try go_wp2)
     go_ret
     exact ⟨qs_, qy_⟩
 ·rw [if_neg c3] at H
  have c3b0 : ((l0.length : Int) == (l1.length : Int)) = false := beq_eq_false_iff_ne.mpr c3
  have c3b1 : ((l0.length : Int) != (l1.length : Int)) = true := bne_iff_ne.mpr c3
  have c3b2 : (l0.length == l1.length) = false := by first | simpa using c3 | (simp at c3 ⊢; omega)
  obtain rfl := si_ H
  go_enter Try.func17, Try.ntmps17
  go_wp2
  repeat (go_quiet (fail); try go_wp2)
  go_ret
  exact ⟨qs_, qy_⟩
def a4i.f (k : Nat) (a0_0 a0_1 a0_2 : Int) (l0_3 : List ByteArray) (l0_4 : List (S43)) (l0_5 : List Int) : Option (Bool) := (a0l.f k 0 0 0 0 false a0_0 a0_1 a0_2 l0_3 l0_4 l0_5 (⟨#[]⟩ : ByteArray) ([] : List Int)).bind fun t252 => (some t252)
theorem a4i.mono : ∀ a0 a1 a2 a3 a4 a5 k, LeO (a4i.f k a0 a1 a2 a3 a4 a5) (a4i.f (k + 1) a0 a1 a2 a3 a4 a5) := by
 intro a0 a1 a2 a3 a4 a5 k
 unfold a4i.f
 with_reducible (repeat' first | apply a0l.mono | apply LeO.refl | apply LeO.none | apply LeO.ite | refine LeO.bind ?_ (fun _ => ?_))
set_option maxHeartbeats 8000000 in
set_option maxRecDepth 100000 in
theorem a4i.calls (k : Nat) (a0_0 a0_1 a0_2 : Int) (A0_3 : Option Addr) (c0_3 : Nat) (l0_3 : List ByteArray) (A0_4 : Option Addr) (c0_4 : Nat) (l0_4 : List (S43)) (A0_5 : Option Addr) (c0_5 : Nat) (l0_5 : List Int) (r : Bool) (w : World) (hr0_3 : Kd.C Kd.string w A0_3 l0_3.length l0_3) (hc0_3 : l0_3.length ≤ c0_3) (hr0_4 : Kd.C k43 w A0_4 l0_4.length l0_4) (hc0_4 : l0_4.length ≤ c0_4) (hr0_5 : Kd.C (Kd.int .i64) w A0_5 l0_5.length l0_5) (hc0_5 : l0_5.length ≤ c0_5) (h : a4i.f k a0_0 a0_1 a0_2 l0_3 l0_4 l0_5 = some r) :
  Calls Try.prog 15 #[.agg #[.int .i64 a0_0, .int .i64 a0_1, .int .i64 a0_2, .slice A0_3 l0_3.length c0_3, .slice A0_4 l0_4.length c0_4, .slice A0_5 l0_5.length c0_5]] w fun e w' => e = .returned (.bool r) ∧ Below w.heap.size w w' := by
 have hu30 := Try.underlying30
 have hu62 := Try.underlying62
 have HR0_3 := am_ hr0_3
 have HC0_3 := am_ hc0_3
 clear hr0_3 hc0_3
 have HR0_4 := am_ hr0_4
 have HC0_4 := am_ hc0_4
 clear hr0_4 hc0_4
 have HR0_5 := am_ hr0_5
 have HC0_5 := am_ hc0_5
 clear hr0_5 hc0_5
 have HB := am_ (Below.refl w.heap.size w)
 have H : ((a0l.f k 0 0 0 0 false a0_0 a0_1 a0_2 l0_3 l0_4 l0_5 (⟨#[]⟩ : ByteArray) ([] : List Int)).bind fun t252 => (some t252)) = some r := h
 clear h
 replace H := bm_ H
 obtain ⟨t252, A20, H⟩ := H
 replace H : (some t252) = some r := H
 have A2 := am_ A20
 clear A20
 obtain rfl := si_ H
 go_enter Try.func15, Try.ntmps15
 go_wp2_with (first | ((with_reducible refine a0f (N := 1) rfl ?_); refine qev_ 1 #[.int .i64 a0_0, .int .i64 a0_1, .int .i64 a0_2, .slice A0_3 l0_3.length c0_3, .slice A0_4 l0_4.length c0_4, .slice A0_5 l0_5.length c0_5] 30 ?_; intro gb251 hg w3 hbox hb; have BK251 := am_ (hbox); have GW251 := qga_ hg; have GE251 := qga_ hg; replace HB := qbs_ hb; clear hb hbox hg; obtain ⟨z'4_0, z'4_1, z'4_2, z'4_3, z'4_4, z'4_5⟩ := qz6_ BK251; obtain ⟨y'4_0, y'4_1, y'4_2, y'4_3, y'4_4, y'4_5⟩ := qf6_ BK251) | ((with_reducible refine a0e (f := 31) rfl ?_); refine a0w (some 5) rfl rfl Try.func31 (by kernel_rfl) rfl #[.agg #[.int .i64 0, .int .i64 0, .int .i64 0, .int .i64 0, .bool false, .int .i64 a0_0, .int .i64 a0_1, .int .i64 a0_2, .slice A0_3 l0_3.length c0_3, .slice A0_4 l0_4.length c0_4, .slice A0_5 l0_5.length c0_5, .string (⟨#[]⟩ : ByteArray), .slice none 0 0]] rfl ql_ ?_; (refine (a0l.calls k 0 0 0 0 false a0_0 a0_1 a0_2 _ _ l0_3 _ _ l0_4 _ _ l0_5 (⟨#[]⟩ : ByteArray) _ _ ([] : List Int) t252 _ ?s1 ?s2 ?s3 ?s4 ?s5 ?s6 ?s7 ?s8 A2.out).mono ?_); (case s1 => exact qc_ HR0_3); (case s2 => exact HC0_3.out); (case s3 => exact qc_ HR0_4); (case s4 => exact HC0_4.out); (case s5 => exact qc_ HR0_5); (case s6 => exact HC0_5.out); (case s7 => exact Kd.a5s _ _); (case s8 => exact Nat.le_refl _); rintro e w5 ⟨rfl, hb⟩; refine ⟨_, rfl, ?_⟩; replace BK251 := qkb_ BK251 hb; replace HB := qbs_ hb; (try clear hb); (try clear hb2); (try clear hk); (try clear hi)))
 go_ret
 exact ⟨qx_, qb_⟩
end Go.Proofs.Ytemnlgefngjliaa.Px
