/- Contracts of Go functions, printed. Conditions: as each theorem states. -/
import Derived.Test.YtfbgkcadnmcakaaPx0
namespace Go.Proofs.Ytfbgkcadnmcakaa.Px
open Go.Proofs.Ytfbgkcadnmcakaa.Given
open Go.RowKit Go.Proofs.YtfbgkcadnmcakaaW.PrintWords Go.Proofs.YtfbgkcadnmcakaaW.PrintLast Go.Proofs.YtfbgkcadnmcakaaW.PrintMore
attribute [local go_sem] a2w a2u a3d a3c a2q a2r a2x a2y
set_option linter.unusedVariables false
set_option linter.unusedSimpArgs false
def a3r.f  : Option ((List (S30))) := some (([(⟨5, 9, 1, 400, (⟨10, 100⟩ : S28)⟩ : S30), (⟨7, 9, 1, 300, (⟨0, 50⟩ : S28)⟩ : S30)] : List (S30)))
set_option maxHeartbeats 8000000 in
set_option maxRecDepth 100000 in
theorem a3r.calls  (r : List (S30)) (w : World) (h : a3r.f  = some r) :
  Calls Try.prog 21 #[] w fun e w' => ∃ v0_ : Value, e = .returned (v0_) ∧ Kd.R k30 30 w' w.heap.size (fun _ => True) v0_ r ∧ Below w.heap.size w w' := by
 have hu28 := Try.underlying28
 have hu30 := Try.underlying30
 have HB := am_ (Below.refl w.heap.size w)
 have H : (some (([(⟨5, 9, 1, 400, (⟨10, 100⟩ : S28)⟩ : S30), (⟨7, 9, 1, 300, (⟨0, 50⟩ : S28)⟩ : S30)] : List (S30)))) = some r := h
 clear h
 obtain ⟨y101, hy101⟩ : ∃ y_ : List (S30), y_ = (([(⟨5, 9, 1, 400, (⟨10, 100⟩ : S28)⟩ : S30), (⟨7, 9, 1, 300, (⟨0, 50⟩ : S28)⟩ : S30)] : List (S30))) := ⟨_, rfl⟩
 replace H : (some y101) = some r := by first | (rw [hy101]; with_reducible exact H) | (have H2_ := (Option.bind_some _ _).symm.trans H; rw [hy101]; with_reducible exact H2_) | (have H2_ := (Option.bind_some _ _).symm.trans H; with_reducible exact H2_) | with_reducible exact H | (rw [hy101]; exact H) | exact H
 have Ny101 := am_ hy101
 clear hy101
 obtain rfl := si_ H
 go_enter Try.func21, Try.ntmps21
 go_wp2_with (first | ((with_reducible refine a1g (N := 5) rfl ?_); refine Kd.a4m k30 _ 30 ?hg (N := 5) ?hd (xs := ([(⟨5, 9, 1, 400, (⟨10, 100⟩ : S28)⟩ : S30), (⟨7, 9, 1, 300, (⟨0, 50⟩ : S28)⟩ : S30)] : List (S30))) (inner := [.int .i64 5, .int .i64 9, .int .i64 1, .int .i64 400, .int .i64 10, .int .i64 100, .int .i64 7, .int .i64 9, .int .i64 1, .int .i64 300, .int .i64 0, .int .i64 50]) (ok := fun _ => True) (okp := fun _ => True) ?hr ?hp (fun _ hk => hk) trivial (Below.refl _ _) (Nat.le_refl _) (by simp) ?_; (case hd => rfl); (case hg => rfl); (case hr => exact qq_); (case hp => exact (Reps.c6 (show Kd.M k30 _ _ _ (⟨5, 9, 1, 400, (⟨10, 100⟩ : S28)⟩ : S30) [.int .i64 5, .int .i64 9, .int .i64 1, .int .i64 400, .int .i64 10, .int .i64 100] from (a5e _ _ _ (⟨5, 9, 1, 400, (⟨10, 100⟩ : S28)⟩ : S30) )) (Reps.c6 (show Kd.M k30 _ _ _ (⟨7, 9, 1, 300, (⟨0, 50⟩ : S28)⟩ : S30) [.int .i64 7, .int .i64 9, .int .i64 1, .int .i64 300, .int .i64 0, .int .i64 50] from (a5e _ _ _ (⟨7, 9, 1, 300, (⟨0, 50⟩ : S28)⟩ : S30) )) (Reps.none _ _)))); intro v102 w1 ho2 hb hg_ hnew_; clear hg_ hnew_; (first | rw [← Ny101.out] at ho2 | (simp only [Int.reduceToNat] at ho2; rw [← Ny101.out] at ho2)); have HO103 := am_ (Kd.a2k ho2 (a1s qb_)); replace HB := qbs_ hb; clear hb ho2))
 go_ret
 exact ⟨_, qx_, by (with_reducible repeat (first | apply Kd.a0n | apply Kd.a0o | apply Kd.a0m)); exact HO103.out, qb_⟩
def a3s.f (a0 : Int) : Option (Bool) := if a0 < 1 then (some true) else (some (decide (a0 > 1000000)))
set_option maxHeartbeats 8000000 in
set_option maxRecDepth 100000 in
theorem a3s.calls (a0 : Int) (r : Bool) (w : World) (h : a3s.f a0 = some r) :
  Calls Try.prog 46 #[.int .i64 a0] w fun e w' => e = .returned (.bool r) ∧ a3j w w' := by
 have H : (if a0 < 1 then (some true) else (some (decide (a0 > 1000000)))) = some r := h
 clear h
 by_cases c2 : a0 < 1
 ·rw [if_pos c2] at H
  have c2b0 : decide (a0 < 1) = true := decide_eq_true c2
  clear c2
  obtain rfl := si_ H
  go_enter Try.func46, Try.ntmps46
  go_wp2
  go_ret
  exact ⟨qs_, qy_⟩
 ·rw [if_neg c2] at H
  have c2b0 : decide (a0 < 1) = false := decide_eq_false c2
  clear c2
  obtain rfl := si_ H
  go_enter Try.func46, Try.ntmps46
  go_wp2
  go_ret
  exact ⟨qs_, qy_⟩
def a0i.l0 : Nat → List Int → Int → Int → Option (Int)
 | 0, _, _, _ => none
 | k + 1, x0, x7, x8 => if x8 < x7 then (if 0 ≤ x8 then (if x8 < (x0.length : Int) then ((a3s.f (rd x0 x8)).bind fun t105 => (if t105 = true then (some x8) else (a0i.l0 k x0 x7 (wrap64 (x8 + 1))))) else (none)) else (none)) else (some (-1))
def a0i.f (k : Nat) (l0 : List Int)  : Option (Int) := a0i.l0 k l0 (l0.length : Int) 0
theorem a0i.a1k : ∀ k, (∀ y0 y1 y2, LeO (a0i.l0 k y0 y1 y2) (a0i.l0 (k + 1) y0 y1 y2))
 | 0 => fun _ _ _ r h => by simp [a0i.l0] at h
 | k + 1 => by
  have ih0 := a0i.a1k k
  ·intro y0 y1 y2
   unfold a0i.l0
   with_reducible (repeat' first | apply ih0 | apply LeO.refl | apply LeO.none | apply LeO.ite | refine LeO.bind ?_ (fun _ => ?_))
theorem a0i.mono : ∀ a0 k, LeO (a0i.f k a0) (a0i.f (k + 1) a0) := by
 intro a0 k
 have ih0 := a0i.a1k k
 unfold a0i.f
 with_reducible (repeat' first | apply ih0 | apply LeO.refl | apply LeO.none | apply LeO.ite | refine LeO.bind ?_ (fun _ => ?_))
set_option maxHeartbeats 8000000 in
set_option maxRecDepth 100000 in
theorem a0i.calls (k : Nat) (A0 : Option Addr) (c0 : Nat) (l0 : List Int)  (r : Int) (w : World) (hr0 : Kd.C (Kd.int .i64) w A0 l0.length l0) (hc0 : l0.length ≤ c0) (h : a0i.f k l0 = some r) :
  Calls Try.prog 55 #[.slice A0 l0.length c0, .func (.func 46) #[] #[]] w fun e w' => e = .returned (.int .i64 r) ∧ a3j w w' := by
 have HR0 := am_ hr0
 have HC0 := am_ hc0
 clear hr0 hc0
 have H : (a0i.l0 k l0 (l0.length : Int) 0) = some r := h
 clear h
 have H' := am_ H
 clear H
 go_enter Try.func55, Try.ntmps55
 go_wp2
 go_loopg [8] k (fun kq v8 w' => ∃ (x8_1 : Int), v8 = .int .i64 x8_1 ∧ Aside0 (a0i.l0 kq l0 (l0.length : Int) x8_1 = some r) ∧ Aside0 (kq ≤ k) ∧ a3j w w')
 case atStart => exact ⟨(0), qs_, H', ⟨Nat.le_refl _⟩, qy_⟩
 case round =>
  clear H'
  try clear p2
  obtain ⟨x8_1, rfl, HA, HK1, ⟨m1, rfl⟩⟩ := hrel
  cases gk with
  | zero => exact absurd HA.out (by simp [a0i.l0])
  | succ k1 =>
   have H := HA.out
   clear HA
   simp only [a0i.l0] at H
   by_cases c3 : x8_1 < (l0.length : Int)
   ·rw [if_pos c3] at H
    have c3b0 : decide (x8_1 < (l0.length : Int)) = true := decide_eq_true c3
    clear c3
    by_cases c4 : 0 ≤ x8_1
    ·rw [if_pos c4] at H
     have c4b0 : decide (0 ≤ x8_1) = true := decide_eq_true c4
     clear c4
     by_cases c5 : x8_1 < (l0.length : Int)
     ·rw [if_pos c5] at H
      have c5b0 : decide (x8_1 < (l0.length : Int)) = true := decide_eq_true c5
      clear c5
      replace H := bm_ H
      obtain ⟨t105, A60, H⟩ := H
      replace H : (if t105 = true then (some x8_1) else (a0i.l0 k1 l0 (l0.length : Int) (wrap64 (x8_1 + 1)))) = some r := H
      have A6 := am_ A60
      clear A60
      by_cases c7 : t105 = true
      ·subst c7
       have H1 : (some x8_1) = some r := by rw [if_pos rfl] at H; exact H
       clear H
       have H := H1
       clear H1
       obtain rfl := si_ H
       have p104 : 0 ≤ (x8_1 : Int) := ot_
       have q104 : x8_1 < (l0.length : Int) := ot_
       obtain ⟨ad104, e104, hx104_0⟩ := Kd.a4l HR0.out x8_1 p104 q104
       cases e104
       replace p104 := eq_true p104
       replace q104 := eq_true q104
       go_wp2_with (first | (go_at_call 46; (with_reducible refine (a3s.calls (rd l0 x8_1) true _ A6.out).mono ?_); rintro e w' ⟨rfl, ⟨nd, rfl⟩⟩))
       go_ret
       exact ⟨qs_, qy_⟩
      ·replace c7 := be_ c7
       subst c7
       have H1 : (a0i.l0 k1 l0 (l0.length : Int) (wrap64 (x8_1 + 1))) = some r := by rw [if_neg (show ¬ (false = true) by decide)] at H; exact H
       clear H
       have H := H1
       clear H1
       have H' := am_ H
       clear H
       have p104 : 0 ≤ (x8_1 : Int) := ot_
       have q104 : x8_1 < (l0.length : Int) := ot_
       obtain ⟨ad104, e104, hx104_0⟩ := Kd.a4l HR0.out x8_1 p104 q104
       cases e104
       replace p104 := eq_true p104
       replace q104 := eq_true q104
       go_wp2_with (first | (go_at_call 46; (with_reducible refine (a3s.calls (rd l0 x8_1) false _ A6.out).mono ?_); rintro e w' ⟨rfl, ⟨nd, rfl⟩⟩))
       go_roundg k1
       case measure => have := HK1.out; omega
       case rel => exact ⟨(wrap64 (x8_1 + 1)), qs_, H', ⟨by have := HK1.out; omega⟩, qy_⟩
     ·rw [if_neg c5] at H
      exact absurd H (by simp)
    ·rw [if_neg c4] at H
     exact absurd H (by simp)
   ·rw [if_neg c3] at H
    have c3b0 : decide (x8_1 < (l0.length : Int)) = false := decide_eq_false c3
    clear c3
    obtain rfl := si_ H
    go_wp2
    go_ret
    exact ⟨qs_, qy_⟩
def a1i.f (k : Nat) (l0 : List Int)  : Option (Bool) := (a0i.f k l0).bind fun t106 => (some (decide (t106 ≥ 0)))
theorem a1i.mono : ∀ a0 k, LeO (a1i.f k a0) (a1i.f (k + 1) a0) := by
 intro a0 k
 unfold a1i.f
 with_reducible (repeat' first | apply a0i.mono | apply LeO.refl | apply LeO.none | apply LeO.ite | refine LeO.bind ?_ (fun _ => ?_))
set_option maxHeartbeats 8000000 in
set_option maxRecDepth 100000 in
theorem a1i.calls (k : Nat) (A0 : Option Addr) (c0 : Nat) (l0 : List Int)  (r : Bool) (w : World) (hr0 : Kd.C (Kd.int .i64) w A0 l0.length l0) (hc0 : l0.length ≤ c0) (h : a1i.f k l0 = some r) :
  Calls Try.prog 45 #[.slice A0 l0.length c0, .func (.func 46) #[] #[]] w fun e w' => e = .returned (.bool r) ∧ a3j w w' := by
 have HR0 := am_ hr0
 have HC0 := am_ hc0
 clear hr0 hc0
 have H : ((a0i.f k l0).bind fun t106 => (some (decide (t106 ≥ 0)))) = some r := h
 clear h
 replace H := bm_ H
 obtain ⟨t106, A30, H⟩ := H
 replace H : (some (decide (t106 ≥ 0))) = some r := H
 have A3 := am_ A30
 clear A30
 obtain rfl := si_ H
 go_enter Try.func45, Try.ntmps45
 go_wp2_with (first | ((with_reducible refine a1c (f := 55) rfl ?_); refine a1y (some 7) rfl rfl Try.func55 (by kernel_rfl) rfl #[.slice A0 l0.length c0, .func (.func 46) #[] #[]] rfl ql_ ?_; (with_reducible refine (a0i.calls k _ _ l0  t106 _ ?s1 ?s2 A3.out).mono ?_); (case s1 => repeat (first | exact HR0.out | (with_reducible refine Kd.a5b ?_ _) | (with_reducible refine Kd.a5c ?_ _) | (with_reducible refine Kd.a5p ?_))); (case s2 => exact HC0.out); rintro e w' ⟨rfl, ⟨nd, rfl⟩⟩; refine ⟨_, rfl, ?_⟩))
 go_ret
 exact ⟨qs_, qy_⟩
def a1l.f (k : Nat) (l0 : List Int) : Option (Bool) := (a1i.f k l0).bind fun t107 => (some (!t107))
theorem a1l.mono : ∀ a0 k, LeO (a1l.f k a0) (a1l.f (k + 1) a0) := by
 intro a0 k
 unfold a1l.f
 with_reducible (repeat' first | apply a1i.mono | apply LeO.refl | apply LeO.none | apply LeO.ite | refine LeO.bind ?_ (fun _ => ?_))
set_option maxHeartbeats 8000000 in
set_option maxRecDepth 100000 in
theorem a1l.calls (k : Nat) (A0 : Option Addr) (c0 : Nat) (l0 : List Int) (r : Bool) (w : World) (hr0 : Kd.C (Kd.int .i64) w A0 l0.length l0) (hc0 : l0.length ≤ c0) (h : a1l.f k l0 = some r) :
  Calls Try.prog 27 #[.slice A0 l0.length c0] w fun e w' => e = .returned (.bool r) ∧ a3j w w' := by
 have HR0 := am_ hr0
 have HC0 := am_ hc0
 clear hr0 hc0
 have H : ((a1i.f k l0).bind fun t107 => (some (!t107))) = some r := h
 clear h
 replace H := bm_ H
 obtain ⟨t107, A20, H⟩ := H
 replace H : (some (!t107)) = some r := H
 have A2 := am_ A20
 clear A20
 obtain rfl := si_ H
 go_enter Try.func27, Try.ntmps27
 go_wp2_with (first | ((with_reducible refine a1c (f := 45) rfl ?_); refine a1y (some 4) rfl rfl Try.func45 (by kernel_rfl) rfl #[.slice A0 l0.length c0, .func (.func 46) #[] #[]] rfl ql_ ?_; (with_reducible refine (a1i.calls k _ _ l0  t107 _ ?s1 ?s2 A2.out).mono ?_); (case s1 => repeat (first | exact HR0.out | (with_reducible refine Kd.a5b ?_ _) | (with_reducible refine Kd.a5c ?_ _) | (with_reducible refine Kd.a5p ?_))); (case s2 => exact HC0.out); rintro e w' ⟨rfl, ⟨nd, rfl⟩⟩; refine ⟨_, rfl, ?_⟩))
 go_ret
 exact ⟨qs_, qy_⟩
def a4d.f (a0_0 a0_1 : Int) : Option (Bool) := if 0 ≤ a0_0 then (if a0_0 < a0_1 then (some (decide (a0_1 ≤ 36525))) else (some false)) else (some false)
set_option maxHeartbeats 8000000 in
set_option maxRecDepth 100000 in
theorem a4d.calls (a0_0 a0_1 : Int) (r : Bool) (w : World) (h : a4d.f a0_0 a0_1 = some r) :
  Calls Try.prog 53 #[.agg #[.int .i64 a0_0, .int .i64 a0_1]] w fun e w' => e = .returned (.bool r) ∧ Below w.heap.size w w' := by
 have hu28 := Try.underlying28
 have HB := am_ (Below.refl w.heap.size w)
 have H : (if 0 ≤ a0_0 then (if a0_0 < a0_1 then (some (decide (a0_1 ≤ 36525))) else (some false)) else (some false)) = some r := h
 clear h
 by_cases c2 : 0 ≤ a0_0
 ·rw [if_pos c2] at H
  have c2b0 : decide (0 ≤ a0_0) = true := decide_eq_true c2
  clear c2
  by_cases c3 : a0_0 < a0_1
  ·rw [if_pos c3] at H
   have c3b0 : decide (a0_0 < a0_1) = true := decide_eq_true c3
   clear c3
   obtain rfl := si_ H
   go_enter Try.func53, Try.ntmps53
   go_wp2_with (first | ((with_reducible refine a1g (N := 1) rfl ?_); refine qev_ 1 #[.int .i64 a0_0, .int .i64 a0_1] 28 ?_; intro gb108 hg w4 hbox hb; have BK108 := am_ (hbox); have GW108 := qga_ hg; have GE108 := qga_ hg; replace HB := qbs_ hb; clear hb hbox hg; obtain ⟨z'5_0, z'5_1⟩ := qz2_ BK108; obtain ⟨y'5_0, y'5_1⟩ := qf2_ BK108))
   go_ret
   exact ⟨qx_, qb_⟩
  ·rw [if_neg c3] at H
   have c3b0 : decide (a0_0 < a0_1) = false := decide_eq_false c3
   clear c3
   obtain rfl := si_ H
   go_enter Try.func53, Try.ntmps53
   go_wp2_with (first | ((with_reducible refine a1g (N := 1) rfl ?_); refine qev_ 1 #[.int .i64 a0_0, .int .i64 a0_1] 28 ?_; intro gb108 hg w6 hbox hb; have BK108 := am_ (hbox); have GW108 := qga_ hg; have GE108 := qga_ hg; replace HB := qbs_ hb; clear hb hbox hg; obtain ⟨z'7_0, z'7_1⟩ := qz2_ BK108; obtain ⟨y'7_0, y'7_1⟩ := qf2_ BK108))
   go_ret
   exact ⟨qx_, qb_⟩
 ·rw [if_neg c2] at H
  have c2b0 : decide (0 ≤ a0_0) = false := decide_eq_false c2
  clear c2
  obtain rfl := si_ H
  go_enter Try.func53, Try.ntmps53
  go_wp2_with (first | ((with_reducible refine a1g (N := 1) rfl ?_); refine qev_ 1 #[.int .i64 a0_0, .int .i64 a0_1] 28 ?_; intro gb108 hg w8 hbox hb; have BK108 := am_ (hbox); have GW108 := qga_ hg; have GE108 := qga_ hg; replace HB := qbs_ hb; clear hb hbox hg; obtain ⟨z'9_0, z'9_1⟩ := qz2_ BK108; obtain ⟨y'9_0, y'9_1⟩ := qf2_ BK108))
  go_ret
  exact ⟨qx_, qb_⟩
end Go.Proofs.Ytfbgkcadnmcakaa.Px
