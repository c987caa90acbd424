/- Contracts of Go functions, printed. Conditions: as each theorem states. -/
import Derived.Test.YtfbgkcadnmcakaaPx0
import Derived.Test.YtfbgkcadnmcakaaPx11
import Derived.Test.YtfbgkcadnmcakaaPx12
import Derived.Test.YtfbgkcadnmcakaaPx14
import Derived.Test.YtfbgkcadnmcakaaPx15
import Derived.Test.YtfbgkcadnmcakaaPx16
import Derived.Test.YtfbgkcadnmcakaaPx20
import Derived.Test.YtfbgkcadnmcakaaPx21
import Derived.Test.YtfbgkcadnmcakaaPx22
import Derived.Test.YtfbgkcadnmcakaaPx23
namespace Go.Proofs.Ytfbgkcadnmcakaa.Px
open Go.Proofs.Ytfbgkcadnmcakaa.Given
open Go.RowKit Go.Proofs.YtfbgkcadnmcakaaW.PrintWords Go.Proofs.YtfbgkcadnmcakaaW.PrintLast Go.Proofs.YtfbgkcadnmcakaaW.PrintMore
attribute [local go_sem] a2y a2v a3h a3e a2q a2r a2z a3a
set_option linter.unusedVariables false
set_option linter.unusedSimpArgs false
mutual
def a0d.j0 : Nat → List (S30) → List (S26) → Int → List Int → List Int → Int → Int → Bool → Bool → Int → Int → Int → Int → Int → Int → Option (Bool)
 | 0, _, _, _, _, _, _, _, _, _, _, _, _, _, _, _ => none
 | k + 1, x0, x2, x3, x4, x5, x6, x7, x17, x44, u0, u1, u2, u3, u4, u5 => if x44 = true then (some x17) else ((a1h.f k u0 u1 u2 u3 u4 u5 x2 x7).bind fun bt418 => ((a0w.f k u0 u1 u2 u3 u4 u5 x2 x7).bind fun bt420 => (if x17 = true then ((a2b.f k x0).bind fun t422 => ((a0t.f k x0).bind fun t423 => (if (t422 == t423) = true then (if bt418.1 = bt420.1 then (a0d.j1 k x0 x2 x3 x4 x5 x6 x7 (bt418.2 == bt420.2)) else (a0d.j1 k x0 x2 x3 x4 x5 x6 x7 false)) else (a0d.j1 k x0 x2 x3 x4 x5 x6 x7 false)))) else (a0d.j1 k x0 x2 x3 x4 x5 x6 x7 false))))
def a0d.j1 : Nat → List (S30) → List (S26) → Int → List Int → List Int → Int → Int → Bool → Option (Bool)
 | 0, _, _, _, _, _, _, _, _ => none
 | k + 1, x0, x2, x3, x4, x5, x6, x7, x17 => (a0m.f k x0 x2 x3 x4 x7).bind fun bt424 => ((a0h.f k x0 x2 x3 x4 x7).bind fun bt428 => (if x17 = true then ((a0x.f k bt424.1 bt428.1).bind fun t432 => (if t432 = true then (a0d.j2 k x0 x5 x6 (bt424.2 == bt428.2)) else (a0d.j2 k x0 x5 x6 false))) else (a0d.j2 k x0 x5 x6 false)))
def a0d.j2 : Nat → List (S30) → List Int → Int → Bool → Option (Bool)
 | 0, _, _, _, _ => none
 | k + 1, x0, x5, x6, x17 => (a0n.f k x0 x5 x6).bind fun bt433 => ((a0e.f k x0 x5 x6).bind fun bt438 => (if x17 = true then ((a1d.f k bt433.1 bt438.1).bind fun t443 => (if t443 = true then (if bt433.2.1 = bt438.2.1 then (some (bt433.2.2 == bt438.2.2)) else (some false)) else (some false))) else (some false)))
end
def a0d.f (k : Nat) (l0 : List (S30)) (a1_0 a1_1 a1_2 a1_3 a1_4 a1_5 : Int) (l2 : List (S26)) (a3 : Int) (l4 l5 : List Int) (a6 a7 : Int) : Option (Bool) := (a0f.f k).bind fun t417 => (if (l0.length : Int) > 110 then (a0d.j0 k l0 l2 a3 l4 l5 a6 a7 t417 true a1_0 a1_1 a1_2 a1_3 a1_4 a1_5) else (if (l2.length : Int) > 40 then (a0d.j0 k l0 l2 a3 l4 l5 a6 a7 t417 true a1_0 a1_1 a1_2 a1_3 a1_4 a1_5) else (if (l4.length : Int) > 110 then (a0d.j0 k l0 l2 a3 l4 l5 a6 a7 t417 true a1_0 a1_1 a1_2 a1_3 a1_4 a1_5) else (a0d.j0 k l0 l2 a3 l4 l5 a6 a7 t417 (decide ((l5.length : Int) > 110)) a1_0 a1_1 a1_2 a1_3 a1_4 a1_5))))
theorem a0d.a1p : ∀ k, (∀ y0 y1 y2 y3 y4 y5 y6 y7 y8 y9 y10 y11 y12 y13 y14, LeO (a0d.j0 k y0 y1 y2 y3 y4 y5 y6 y7 y8 y9 y10 y11 y12 y13 y14) (a0d.j0 (k + 1) y0 y1 y2 y3 y4 y5 y6 y7 y8 y9 y10 y11 y12 y13 y14)) ∧ (∀ y0 y1 y2 y3 y4 y5 y6 y7, LeO (a0d.j1 k y0 y1 y2 y3 y4 y5 y6 y7) (a0d.j1 (k + 1) y0 y1 y2 y3 y4 y5 y6 y7)) ∧ (∀ y0 y1 y2 y3, LeO (a0d.j2 k y0 y1 y2 y3) (a0d.j2 (k + 1) y0 y1 y2 y3))
 | 0 => ⟨fun _ _ _ _ _ _ _ _ _ _ _ _ _ _ _ r h => by simp [a0d.j0] at h, fun _ _ _ _ _ _ _ _ r h => by simp [a0d.j1] at h, fun _ _ _ _ r h => by simp [a0d.j2] at h⟩
 | k + 1 => by
  obtain ⟨ih0, ih1, ih2⟩ := a0d.a1p k
  refine ⟨?_, ?_, ?_⟩
  ·intro y0 y1 y2 y3 y4 y5 y6 y7 y8 y9 y10 y11 y12 y13 y14
   unfold a0d.j0
   with_reducible (repeat' first | apply ih0 | apply ih1 | apply ih2 | apply a0n.mono | apply a1h.mono | apply a0m.mono | apply a2b.mono | apply a0f.mono | apply a0x.mono | apply a0e.mono | apply a0w.mono | apply a0h.mono | apply a1d.mono | apply a0t.mono | apply LeO.refl | apply LeO.none | apply LeO.ite | refine LeO.bind ?_ (fun _ => ?_))
  ·intro y0 y1 y2 y3 y4 y5 y6 y7
   unfold a0d.j1
   with_reducible (repeat' first | apply ih0 | apply ih1 | apply ih2 | apply a0n.mono | apply a1h.mono | apply a0m.mono | apply a2b.mono | apply a0f.mono | apply a0x.mono | apply a0e.mono | apply a0w.mono | apply a0h.mono | apply a1d.mono | apply a0t.mono | apply LeO.refl | apply LeO.none | apply LeO.ite | refine LeO.bind ?_ (fun _ => ?_))
  ·intro y0 y1 y2 y3
   unfold a0d.j2
   with_reducible (repeat' first | apply ih0 | apply ih1 | apply ih2 | apply a0n.mono | apply a1h.mono | apply a0m.mono | apply a2b.mono | apply a0f.mono | apply a0x.mono | apply a0e.mono | apply a0w.mono | apply a0h.mono | apply a1d.mono | apply a0t.mono | apply LeO.refl | apply LeO.none | apply LeO.ite | refine LeO.bind ?_ (fun _ => ?_))
theorem a0d.mono : ∀ a0 a1 a2 a3 a4 a5 a6 a7 a8 a9 a10 a11 a12 k, LeO (a0d.f k a0 a1 a2 a3 a4 a5 a6 a7 a8 a9 a10 a11 a12) (a0d.f (k + 1) a0 a1 a2 a3 a4 a5 a6 a7 a8 a9 a10 a11 a12) := by
 intro a0 a1 a2 a3 a4 a5 a6 a7 a8 a9 a10 a11 a12 k
 obtain ⟨ih0, ih1, ih2⟩ := a0d.a1p k
 unfold a0d.f
 with_reducible (repeat' first | apply ih0 | apply ih1 | apply ih2 | apply a0n.mono | apply a1h.mono | apply a0m.mono | apply a2b.mono | apply a0f.mono | apply a0x.mono | apply a0e.mono | apply a0w.mono | apply a0h.mono | apply a1d.mono | apply a0t.mono | apply LeO.refl | apply LeO.none | apply LeO.ite | refine LeO.bind ?_ (fun _ => ?_))
set_option maxHeartbeats 8000000 in
set_option maxRecDepth 100000 in
theorem a0d.calls (k : Nat) (A0 : Option Addr) (c0 : Nat) (l0 : List (S30)) (a1_0 a1_1 a1_2 a1_3 a1_4 a1_5 : Int) (A2 : Option Addr) (c2 : Nat) (l2 : List (S26)) (a3 : Int) (A4 : Option Addr) (c4 : Nat) (l4 : List Int) (A5 : Option Addr) (c5 : Nat) (l5 : List Int) (a6 a7 : Int) (r : Bool) (w : World) (hr0 : Kd.C k30 w A0 l0.length l0) (hc0 : l0.length ≤ c0) (hr2 : Kd.C k26 w A2 l2.length l2) (hc2 : l2.length ≤ c2) (hr4 : Kd.C (Kd.int .i64) w A4 l4.length l4) (hc4 : l4.length ≤ c4) (hr5 : Kd.C (Kd.int .i64) w A5 l5.length l5) (hc5 : l5.length ≤ c5) (h : a0d.f k l0 a1_0 a1_1 a1_2 a1_3 a1_4 a1_5 l2 a3 l4 l5 a6 a7 = some r) :
  Calls Try.prog 5 #[.slice A0 l0.length c0, .agg #[.int .i64 a1_0, .int .i64 a1_1, .int .i64 a1_2, .int .i64 a1_3, .int .i64 a1_4, .int .i64 a1_5], .slice A2 l2.length c2, .int .i64 a3, .slice A4 l4.length c4, .slice A5 l5.length c5, .int .i64 a6, .int .i64 a7] w fun e w' => e = .returned (.bool r) ∧ Below w.heap.size w w' := by
 have hu30 := Try.underlying30
 have HR0 := am_ hr0
 have HC0 := am_ hc0
 clear hr0 hc0
 have HR2 := am_ hr2
 have HC2 := am_ hc2
 clear hr2 hc2
 have HR4 := am_ hr4
 have HC4 := am_ hc4
 clear hr4 hc4
 have HR5 := am_ hr5
 have HC5 := am_ hc5
 clear hr5 hc5
 have HB := am_ (Below.refl w.heap.size w)
 have H : ((a0f.f k).bind fun t417 => (if (l0.length : Int) > 110 then (a0d.j0 k l0 l2 a3 l4 l5 a6 a7 t417 true a1_0 a1_1 a1_2 a1_3 a1_4 a1_5) else (if (l2.length : Int) > 40 then (a0d.j0 k l0 l2 a3 l4 l5 a6 a7 t417 true a1_0 a1_1 a1_2 a1_3 a1_4 a1_5) else (if (l4.length : Int) > 110 then (a0d.j0 k l0 l2 a3 l4 l5 a6 a7 t417 true a1_0 a1_1 a1_2 a1_3 a1_4 a1_5) else (a0d.j0 k l0 l2 a3 l4 l5 a6 a7 t417 (decide ((l5.length : Int) > 110)) a1_0 a1_1 a1_2 a1_3 a1_4 a1_5))))) = some r := h
 clear h
 replace H := bm_ H
 obtain ⟨t417, A90, H⟩ := H
 replace H : (if (l0.length : Int) > 110 then (a0d.j0 k l0 l2 a3 l4 l5 a6 a7 t417 true a1_0 a1_1 a1_2 a1_3 a1_4 a1_5) else (if (l2.length : Int) > 40 then (a0d.j0 k l0 l2 a3 l4 l5 a6 a7 t417 true a1_0 a1_1 a1_2 a1_3 a1_4 a1_5) else (if (l4.length : Int) > 110 then (a0d.j0 k l0 l2 a3 l4 l5 a6 a7 t417 true a1_0 a1_1 a1_2 a1_3 a1_4 a1_5) else (a0d.j0 k l0 l2 a3 l4 l5 a6 a7 t417 (decide ((l5.length : Int) > 110)) a1_0 a1_1 a1_2 a1_3 a1_4 a1_5)))) = some r := H
 have A9 := am_ A90
 clear A90
 have HC10 := am_ H
 clear H
 go_enter Try.func5, Try.ntmps5
 go_upto_region 2 with (first | ((with_reducible refine a1m (N := 9) rfl ?_); (try (refine a2i (by rfl) ?_; dsimp only)); refine qev_ 9 #[.int .i64 a1_0, .int .i64 a1_1, .int .i64 a1_2, .int .i64 a1_3, .int .i64 a1_4, .int .i64 a1_5] 30 ?_; intro gb416 hg w11 hbox hb; have BK416 := am_ (hbox); have GW416 := qga_ hg; have GE416 := qga_ hg; replace HB := qbs_ hb; clear hb hbox hg) | ((with_reducible refine a1a (f := 8) rfl ?_); refine a1r (some 26) rfl rfl Try.func8 (by kernel_rfl) rfl #[] rfl ql_ ?_; (with_reducible refine (a0f.calls k  t417 _ A9.out).mono ?_); rintro e w12 ⟨rfl, hb⟩; refine ⟨_, rfl, ?_⟩; replace BK416 := qkb_ BK416 hb; replace HB := qbs_ hb; (try clear hb); (try clear hb2); (try clear hk); (try clear hi)))
 (try simp only [Act.put, List.setIfInBounds_toArray, List.set_cons_zero, List.set_cons_succ])
 go_cut [44] (fun v44 wc => ∃ (kq : Nat) (x44_9 : Bool), v44 = .bool x44_9 ∧ Aside0 (a0d.j0 kq l0 l2 a3 l4 l5 a6 a7 t417 x44_9 a1_0 a1_1 a1_2 a1_3 a1_4 a1_5 = some r) ∧ Aside0 (kq ≤ k) ∧ Aside0 (wc.heap[gb416]? = some (.cells #[.int .i64 a1_0, .int .i64 a1_1, .int .i64 a1_2, .int .i64 a1_3, .int .i64 a1_4, .int .i64 a1_5] 30 (0, 0))) ∧ Aside0 (Below w.heap.size w wc))
 case first =>
  have H := HC10.out
  clear HC10
  by_cases c13 : (l0.length : Int) > 110
  ·rw [if_pos c13] at H
   have c13b0 : decide (110 < (l0.length : Int)) = true := decide_eq_true c13
   have c13b1 : decide (110 < l0.length) = true := decide_eq_true (by omega)
   clear c13
   (first | rw [c13b0] | (simp only [a2x, a3m]; rw [c13b0]) | skip)
   have H' := am_ H
   clear H
   go_wp2
   go_meet
   case rel => exact ⟨_, (true), qs_, H', ⟨qo_⟩, ⟨qk_ BK416⟩, ⟨qb_⟩⟩
  ·rw [if_neg c13] at H
   have c13b0 : decide (110 < (l0.length : Int)) = false := decide_eq_false c13
   have c13b1 : decide (110 < l0.length) = false := decide_eq_false (by omega)
   clear c13
   (first | rw [c13b0] | (simp only [a2x, a3m]; rw [c13b0]) | skip)
   by_cases c14 : (l2.length : Int) > 40
   ·rw [if_pos c14] at H
    have c14b0 : decide (40 < (l2.length : Int)) = true := decide_eq_true c14
    have c14b1 : decide (40 < l2.length) = true := decide_eq_true (by omega)
    clear c14
    have H' := am_ H
    clear H
    go_wp2
    go_meet
    case rel => exact ⟨_, (true), qs_, H', ⟨qo_⟩, ⟨qk_ BK416⟩, ⟨qb_⟩⟩
   ·rw [if_neg c14] at H
    have c14b0 : decide (40 < (l2.length : Int)) = false := decide_eq_false c14
    have c14b1 : decide (40 < l2.length) = false := decide_eq_false (by omega)
    clear c14
    by_cases c15 : (l4.length : Int) > 110
    ·rw [if_pos c15] at H
     have c15b0 : decide (110 < (l4.length : Int)) = true := decide_eq_true c15
     have c15b1 : decide (110 < l4.length) = true := decide_eq_true (by omega)
     clear c15
     have H' := am_ H
     clear H
     go_wp2
     go_meet
     case rel => exact ⟨_, (true), qs_, H', ⟨qo_⟩, ⟨qk_ BK416⟩, ⟨qb_⟩⟩
    ·rw [if_neg c15] at H
     have c15b0 : decide (110 < (l4.length : Int)) = false := decide_eq_false c15
     have c15b1 : decide (110 < l4.length) = false := decide_eq_false (by omega)
     clear c15
     have H' := am_ H
     clear H
     go_wp2
     go_meet
     case rel => exact ⟨_, (decide ((l5.length : Int) > 110)), qs_, H', ⟨qo_⟩, ⟨qk_ BK416⟩, ⟨qb_⟩⟩
 case rest =>
  clear HC10
  try clear c1
  try clear c2
  try clear p2
  try clear c4
  try clear c5
  try clear c8
  try clear c13
  try clear c13b0
  try clear c13b1
  try clear c14
  try clear c14b0
  try clear c14b1
  try clear c15
  try clear c15b0
  try clear c15b1
  obtain ⟨kq, x44_9, rfl, HA, HJ9, BK416, HB⟩ := hcut
  cases kq with
  | zero => exact absurd HA.out (by simp [a0d.j0])
  | succ kj9 =>
   have H := HA.out
   clear HA
   simp only [a0d.j0] at H
   by_cases c16 : x44_9 = true
   ·subst c16
    have H1 : (some t417) = some r := by rw [if_pos rfl] at H; exact H
    clear H
    have H := H1
    clear H1
    obtain rfl := si_ H
    go_wp2
    go_ret
    exact ⟨qx_, qb_⟩
   ·replace c16 := be_ c16
    subst c16
    have H1 : ((a1h.f kj9 a1_0 a1_1 a1_2 a1_3 a1_4 a1_5 l2 a7).bind fun bt418 => ((a0w.f kj9 a1_0 a1_1 a1_2 a1_3 a1_4 a1_5 l2 a7).bind fun bt420 => (if t417 = true then ((a2b.f kj9 l0).bind fun t422 => ((a0t.f kj9 l0).bind fun t423 => (if (t422 == t423) = true then (if bt418.1 = bt420.1 then (a0d.j1 kj9 l0 l2 a3 l4 l5 a6 a7 (bt418.2 == bt420.2)) else (a0d.j1 kj9 l0 l2 a3 l4 l5 a6 a7 false)) else (a0d.j1 kj9 l0 l2 a3 l4 l5 a6 a7 false)))) else (a0d.j1 kj9 l0 l2 a3 l4 l5 a6 a7 false)))) = some r := by rw [if_neg (show ¬ (false = true) by decide)] at H; exact H
    clear H
    have H := H1
    clear H1
    replace H := bm_ H
    obtain ⟨⟨t418, t419⟩, A170, H⟩ := H
    replace H : ((a0w.f kj9 a1_0 a1_1 a1_2 a1_3 a1_4 a1_5 l2 a7).bind fun bt420 => (if t417 = true then ((a2b.f kj9 l0).bind fun t422 => ((a0t.f kj9 l0).bind fun t423 => (if (t422 == t423) = true then (if t418 = bt420.1 then (a0d.j1 kj9 l0 l2 a3 l4 l5 a6 a7 (t419 == bt420.2)) else (a0d.j1 kj9 l0 l2 a3 l4 l5 a6 a7 false)) else (a0d.j1 kj9 l0 l2 a3 l4 l5 a6 a7 false)))) else (a0d.j1 kj9 l0 l2 a3 l4 l5 a6 a7 false))) = some r := H
    have A17 := am_ A170
    clear A170
    replace H := bm_ H
    obtain ⟨⟨t420, t421⟩, A180, H⟩ := H
    replace H : (if t417 = true then ((a2b.f kj9 l0).bind fun t422 => ((a0t.f kj9 l0).bind fun t423 => (if (t422 == t423) = true then (if t418 = t420 then (a0d.j1 kj9 l0 l2 a3 l4 l5 a6 a7 (t419 == t421)) else (a0d.j1 kj9 l0 l2 a3 l4 l5 a6 a7 false)) else (a0d.j1 kj9 l0 l2 a3 l4 l5 a6 a7 false)))) else (a0d.j1 kj9 l0 l2 a3 l4 l5 a6 a7 false)) = some r := H
    have A18 := am_ A180
    clear A180
    have HC19 := am_ H
    clear H
    obtain ⟨z'20_0, z'20_1, z'20_2, z'20_3, z'20_4, z'20_5⟩ := qz6_ BK416; obtain ⟨y'20_0, y'20_1, y'20_2, y'20_3, y'20_4, y'20_5⟩ := qf6_ BK416
    go_upto_region 6 with (first | ((with_reducible refine a1a (f := 9) rfl ?_); refine a1r (some 50) rfl rfl Try.func9 (by kernel_rfl) rfl #[.agg #[.int .i64 a1_0, .int .i64 a1_1, .int .i64 a1_2, .int .i64 a1_3, .int .i64 a1_4, .int .i64 a1_5], .slice A2 l2.length c2, .int .i64 a7] rfl ql_ ?_; (with_reducible refine (a1h.calls kj9 a1_0 a1_1 a1_2 a1_3 a1_4 a1_5 _ _ l2 a7 t418 t419 _ ?s1 ?s2 A17.out).mono ?_); (case s1 => exact qc_ HR2); (case s2 => exact HC2.out); rintro e w21 ⟨rfl, hb⟩; refine ⟨_, rfl, ?_⟩; replace BK416 := qkb_ BK416 hb; replace HB := qbs_ hb; (try clear hb); (try clear hb2); (try clear hk); (try clear hi); obtain ⟨z'22_0, z'22_1, z'22_2, z'22_3, z'22_4, z'22_5⟩ := qz6_ BK416; obtain ⟨y'22_0, y'22_1, y'22_2, y'22_3, y'22_4, y'22_5⟩ := qf6_ BK416) | ((with_reducible refine a1a (f := 15) rfl ?_); refine a1r (some 57) rfl rfl Try.func15 (by kernel_rfl) rfl #[.agg #[.int .i64 a1_0, .int .i64 a1_1, .int .i64 a1_2, .int .i64 a1_3, .int .i64 a1_4, .int .i64 a1_5], .slice A2 l2.length c2, .int .i64 a7] rfl ql_ ?_; (with_reducible refine (a0w.calls kj9 a1_0 a1_1 a1_2 a1_3 a1_4 a1_5 _ _ l2 a7 t420 t421 _ ?s1 ?s2 A18.out).mono ?_); (case s1 => exact qc_ HR2); (case s2 => exact HC2.out); rintro e w23 ⟨rfl, hb⟩; refine ⟨_, rfl, ?_⟩; replace BK416 := qkb_ BK416 hb; replace HB := qbs_ hb; (try clear hb); (try clear hb2); (try clear hk); (try clear hi)))
    (try simp only [Act.put, List.setIfInBounds_toArray, List.set_cons_zero, List.set_cons_succ])
    go_cut [17] (fun v17 wc => ∃ (kq : Nat) (x17_18 : Bool), v17 = .bool x17_18 ∧ Aside0 (a0d.j1 kq l0 l2 a3 l4 l5 a6 a7 x17_18 = some r) ∧ Aside0 (kq ≤ kj9) ∧ Aside0 (wc.heap[gb416]? = some (.cells #[.int .i64 a1_0, .int .i64 a1_1, .int .i64 a1_2, .int .i64 a1_3, .int .i64 a1_4, .int .i64 a1_5] 30 (0, 0))) ∧ Aside0 (Below w.heap.size w wc))
    case first =>
     have H := HC19.out
     clear HC19
     by_cases c24 : t417 = true
     ·subst c24
      have H1 : ((a2b.f kj9 l0).bind fun t422 => ((a0t.f kj9 l0).bind fun t423 => (if (t422 == t423) = true then (if t418 = t420 then (a0d.j1 kj9 l0 l2 a3 l4 l5 a6 a7 (t419 == t421)) else (a0d.j1 kj9 l0 l2 a3 l4 l5 a6 a7 false)) else (a0d.j1 kj9 l0 l2 a3 l4 l5 a6 a7 false)))) = some r := by rw [if_pos rfl] at H; exact H
      clear H
      have H := H1
      clear H1
      replace H := bm_ H
      obtain ⟨t422, A250, H⟩ := H
      replace H : ((a0t.f kj9 l0).bind fun t423 => (if (t422 == t423) = true then (if t418 = t420 then (a0d.j1 kj9 l0 l2 a3 l4 l5 a6 a7 (t419 == t421)) else (a0d.j1 kj9 l0 l2 a3 l4 l5 a6 a7 false)) else (a0d.j1 kj9 l0 l2 a3 l4 l5 a6 a7 false))) = some r := H
      have A25 := am_ A250
      clear A250
      replace H := bm_ H
      obtain ⟨t423, A260, H⟩ := H
      replace H : (if (t422 == t423) = true then (if t418 = t420 then (a0d.j1 kj9 l0 l2 a3 l4 l5 a6 a7 (t419 == t421)) else (a0d.j1 kj9 l0 l2 a3 l4 l5 a6 a7 false)) else (a0d.j1 kj9 l0 l2 a3 l4 l5 a6 a7 false)) = some r := H
      have A26 := am_ A260
      clear A260
      by_cases c27 : (t422 == t423) = true
      ·rw [if_pos c27] at H
       have c27b0 : (t422 == t423) = true := c27
       (try (have c27b1 : decide (t422 = t423) = true := by simpa using c27))
       (try (have c27b2 : (t422 == t423) = true := by simpa using c27))
       clear c27
       (first | rw [c27b0] | (simp only [a2x, a3m]; rw [c27b0]) | skip)
       by_cases c28 : t418 = t420
       ·rw [if_pos c28] at H
        have c28b0 : (t418 == t420) = true := beq_iff_eq.mpr c28
        have c28b1 : (t418 != t420) = false := bne_eq_false_iff_eq.mpr c28
        clear c28
        have H' := am_ H
        clear H
        go_wp2_with (first | (go_at_call 16; (with_reducible refine (a2b.calls kj9 _ _ l0 t422 _ ?s1 ?s2 A25.out).mono ?_); (case s1 => exact qc_ HR0); (case s2 => exact HC0.out); rintro e w29 ⟨rfl, hb⟩; replace BK416 := qkb_ BK416 hb; replace HB := qbs_ hb; (try clear hb); (try clear hb2); (try clear hk); (try clear hi)) | (go_at_call 17; (with_reducible refine (a0t.calls kj9 _ _ l0 t423 _ ?s1 ?s2 A26.out).mono ?_); (case s1 => exact qc_ HR0); (case s2 => exact HC0.out); rintro e w30 ⟨rfl, hb⟩; replace BK416 := qkb_ BK416 hb; replace HB := qbs_ hb; (try clear hb); (try clear hb2); (try clear hk); (try clear hi)))
        go_meet
        case rel => exact ⟨_, ((t419 == t421)), qs_, H', ⟨by have := HJ9.out; first | omega | exact Nat.le_refl _⟩, ⟨qk_ BK416⟩, ⟨qb_⟩⟩
       ·rw [if_neg c28] at H
        have c28b0 : (t418 == t420) = false := beq_eq_false_iff_ne.mpr c28
        have c28b1 : (t418 != t420) = true := bne_iff_ne.mpr c28
        have H' := am_ H
        clear H
        go_wp2_with (first | (go_at_call 16; (with_reducible refine (a2b.calls kj9 _ _ l0 t422 _ ?s1 ?s2 A25.out).mono ?_); (case s1 => exact qc_ HR0); (case s2 => exact HC0.out); rintro e w31 ⟨rfl, hb⟩; replace BK416 := qkb_ BK416 hb; replace HB := qbs_ hb; (try clear hb); (try clear hb2); (try clear hk); (try clear hi)) | (go_at_call 17; (with_reducible refine (a0t.calls kj9 _ _ l0 t423 _ ?s1 ?s2 A26.out).mono ?_); (case s1 => exact qc_ HR0); (case s2 => exact HC0.out); rintro e w32 ⟨rfl, hb⟩; replace BK416 := qkb_ BK416 hb; replace HB := qbs_ hb; (try clear hb); (try clear hb2); (try clear hk); (try clear hi)))
        go_meet
        case rel => exact ⟨_, (false), qs_, H', ⟨by have := HJ9.out; first | omega | exact Nat.le_refl _⟩, ⟨qk_ BK416⟩, ⟨qb_⟩⟩
      ·rw [if_neg c27] at H
       have c27b0 : (t422 == t423) = false := by simpa using c27
       (try (have c27b1 : decide (t422 = t423) = false := by simpa using c27))
       (try (have c27b2 : (t422 == t423) = false := by simpa using c27))
       (try (have c27b3 : ¬ (t422 = t423) := by simpa using c27))
       clear c27
       (first | rw [c27b0] | (simp only [a2x, a3m]; rw [c27b0]) | skip)
       have H' := am_ H
       clear H
       go_wp2_with (first | (go_at_call 16; (with_reducible refine (a2b.calls kj9 _ _ l0 t422 _ ?s1 ?s2 A25.out).mono ?_); (case s1 => exact qc_ HR0); (case s2 => exact HC0.out); rintro e w33 ⟨rfl, hb⟩; replace BK416 := qkb_ BK416 hb; replace HB := qbs_ hb; (try clear hb); (try clear hb2); (try clear hk); (try clear hi)) | (go_at_call 17; (with_reducible refine (a0t.calls kj9 _ _ l0 t423 _ ?s1 ?s2 A26.out).mono ?_); (case s1 => exact qc_ HR0); (case s2 => exact HC0.out); rintro e w34 ⟨rfl, hb⟩; replace BK416 := qkb_ BK416 hb; replace HB := qbs_ hb; (try clear hb); (try clear hb2); (try clear hk); (try clear hi)))
       go_meet
       case rel => exact ⟨_, (false), qs_, H', ⟨by have := HJ9.out; first | omega | exact Nat.le_refl _⟩, ⟨qk_ BK416⟩, ⟨qb_⟩⟩
     ·replace c24 := be_ c24
      subst c24
      have H1 : (a0d.j1 kj9 l0 l2 a3 l4 l5 a6 a7 false) = some r := by rw [if_neg (show ¬ (false = true) by decide)] at H; exact H
      clear H
      have H := H1
      clear H1
      have H' := am_ H
      clear H
      go_wp2
      go_meet
      case rel => exact ⟨_, (false), qs_, H', ⟨by have := HJ9.out; first | omega | exact Nat.le_refl _⟩, ⟨qk_ BK416⟩, ⟨qb_⟩⟩
    case rest =>
     clear HC19
     try clear c1
     try clear c2
     try clear p2
     try clear c4
     try clear c5
     try clear c8
     try clear c9
     try clear c13
     try clear c13b0
     try clear c13b1
     try clear c14
     try clear c14b0
     try clear c14b1
     try clear c15
     try clear c15b0
     try clear c15b1
     try clear c16
     try clear c24
     try clear c27
     try clear c27b0
     try clear c27b1
     try clear c27b2
     try clear c28
     try clear c28b0
     try clear c28b1
     try clear z'20_0 z'20_1 z'20_2 z'20_3 z'20_4 z'20_5
     try clear z'22_0 z'22_1 z'22_2 z'22_3 z'22_4 z'22_5
     try clear y'20_0 y'20_1 y'20_2 y'20_3 y'20_4 y'20_5
     try clear y'22_0 y'22_1 y'22_2 y'22_3 y'22_4 y'22_5
     try clear p2
     obtain ⟨kq, x17_18, rfl, HA, HJ18, BK416, HB⟩ := hcut
     cases kq with
     | zero => exact absurd HA.out (by simp [a0d.j1])
     | succ kj18 =>
      have H := HA.out
      clear HA
      simp only [a0d.j1] at H
      replace H := bm_ H
      obtain ⟨⟨t424, t425⟩, A350, H⟩ := H
      replace H : ((a0h.f kj18 l0 l2 a3 l4 a7).bind fun bt428 => (if x17_18 = true then ((a0x.f kj18 t424 bt428.1).bind fun t432 => (if t432 = true then (a0d.j2 kj18 l0 l5 a6 (t425 == bt428.2)) else (a0d.j2 kj18 l0 l5 a6 false))) else (a0d.j2 kj18 l0 l5 a6 false))) = some r := H
      have A35 := am_ A350
      clear A350
      replace H := bm_ H
      obtain ⟨⟨t428, t429⟩, A360, H⟩ := H
      replace H : (if x17_18 = true then ((a0x.f kj18 t424 t428).bind fun t432 => (if t432 = true then (a0d.j2 kj18 l0 l5 a6 (t425 == t429)) else (a0d.j2 kj18 l0 l5 a6 false))) else (a0d.j2 kj18 l0 l5 a6 false)) = some r := H
      have A36 := am_ A360
      clear A360
      have HC37 := am_ H
      clear H
      go_upto_region 9 with (first | ((with_reducible refine a1a (f := 11) rfl ?_); refine a1r (some 84) rfl rfl Try.func11 (by kernel_rfl) rfl #[.slice A0 l0.length c0, .slice A2 l2.length c2, .int .i64 a3, .slice A4 l4.length c4, .int .i64 a7] rfl ql_ ?_; (with_reducible refine (a0m.calls kj18 _ _ l0 _ _ l2 a3 _ _ l4 a7 t424 t425 _ ?s1 ?s2 ?s3 ?s4 ?s5 ?s6 A35.out).mono ?_); (case s1 => exact qc_ HR0); (case s2 => exact HC0.out); (case s3 => exact qc_ HR2); (case s4 => exact HC2.out); (case s5 => exact qc_ HR4); (case s6 => exact HC4.out); rintro e w38 ⟨v426, rfl, ho0, hb⟩; refine ⟨_, rfl, ?_⟩; have HO427 := am_ (Kd.a2h ho0 (a1o qb_)); replace BK416 := qkb_ BK416 hb; replace HB := qbs_ hb; (try clear hb); (try clear hb2); (try clear hk); (try clear hi); (try clear ho0)) | ((with_reducible refine a1a (f := 18) rfl ?_); refine a1r (some 93) rfl rfl Try.func18 (by kernel_rfl) rfl #[.slice A0 l0.length c0, .slice A2 l2.length c2, .int .i64 a3, .slice A4 l4.length c4, .int .i64 a7] rfl ql_ ?_; (with_reducible refine (a0h.calls kj18 _ _ l0 _ _ l2 a3 _ _ l4 a7 t428 t429 _ ?s1 ?s2 ?s3 ?s4 ?s5 ?s6 A36.out).mono ?_); (case s1 => exact qc_ HR0); (case s2 => exact HC0.out); (case s3 => exact qc_ HR2); (case s4 => exact HC2.out); (case s5 => exact qc_ HR4); (case s6 => exact HC4.out); rintro e w39 ⟨v430, rfl, ho0, hb⟩; refine ⟨_, rfl, ?_⟩; have HO431 := am_ (Kd.a2h (Kd.a3f ho0 (Kd.R_lt (qr_ HO427))) (a1o qb_)); replace HO427 := qel_ HO427 ho0 hb; replace BK416 := qkb_ BK416 hb; replace HB := qbs_ hb; (try clear hb); (try clear hb2); (try clear hk); (try clear hi); (try clear ho0)))
      (try simp only [Act.put, List.setIfInBounds_toArray, List.set_cons_zero, List.set_cons_succ])
      go_cut [17] (fun v17 wc => ∃ (kq : Nat) (x17_36 : Bool), v17 = .bool x17_36 ∧ Aside0 (a0d.j2 kq l0 l5 a6 x17_36 = some r) ∧ Aside0 (kq ≤ kj18) ∧ Aside0 (wc.heap[gb416]? = some (.cells #[.int .i64 a1_0, .int .i64 a1_1, .int .i64 a1_2, .int .i64 a1_3, .int .i64 a1_4, .int .i64 a1_5] 30 (0, 0))) ∧ Aside0 (Below w.heap.size w wc))
      case first =>
       have H := HC37.out
       clear HC37
       by_cases c40 : x17_18 = true
       ·subst c40
        have H1 : ((a0x.f kj18 t424 t428).bind fun t432 => (if t432 = true then (a0d.j2 kj18 l0 l5 a6 (t425 == t429)) else (a0d.j2 kj18 l0 l5 a6 false))) = some r := by rw [if_pos rfl] at H; exact H
        clear H
        have H := H1
        clear H1
        replace H := bm_ H
        obtain ⟨t432, A410, H⟩ := H
        replace H : (if t432 = true then (a0d.j2 kj18 l0 l5 a6 (t425 == t429)) else (a0d.j2 kj18 l0 l5 a6 false)) = some r := H
        have A41 := am_ A410
        clear A410
        by_cases c42 : t432 = true
        ·subst c42
         have H1 : (a0d.j2 kj18 l0 l5 a6 (t425 == t429)) = some r := by rw [if_pos rfl] at H; exact H
         clear H
         have H := H1
         clear H1
         have H' := am_ H
         clear H
         obtain ⟨Ao43, co43, eo43⟩ := Kd.a1w HO427.out
         subst eo43
         obtain ⟨Ao44, co44, eo44⟩ := Kd.a1w HO431.out
         subst eo44
         go_wp2_with (first | (go_at_call 19; (with_reducible refine (a0x.calls kj18 _ _ t424 _ _ t428 true _ ?s1 ?s2 ?s3 ?s4 A41.out).mono ?_); (case s1 => exact qv_ (Kd.a0v HO427.out).2.2); (case s2 => exact (Kd.a0v HO427.out).2.1); (case s3 => exact qv_ (Kd.a0v HO431.out).2.2); (case s4 => exact (Kd.a0v HO431.out).2.1); rintro e w' ⟨rfl, ⟨nd, rfl⟩⟩))
         go_meet
         case rel => exact ⟨_, ((t425 == t429)), qs_, H', ⟨by have := HJ9.out; have := HJ18.out; first | omega | exact Nat.le_refl _⟩, ⟨qk_ BK416⟩, ⟨qb_⟩⟩
        ·replace c42 := be_ c42
         subst c42
         have H1 : (a0d.j2 kj18 l0 l5 a6 false) = some r := by rw [if_neg (show ¬ (false = true) by decide)] at H; exact H
         clear H
         have H := H1
         clear H1
         have H' := am_ H
         clear H
         obtain ⟨Ao45, co45, eo45⟩ := Kd.a1w HO427.out
         subst eo45
         obtain ⟨Ao46, co46, eo46⟩ := Kd.a1w HO431.out
         subst eo46
         go_wp2_with (first | (go_at_call 19; (with_reducible refine (a0x.calls kj18 _ _ t424 _ _ t428 false _ ?s1 ?s2 ?s3 ?s4 A41.out).mono ?_); (case s1 => exact qv_ (Kd.a0v HO427.out).2.2); (case s2 => exact (Kd.a0v HO427.out).2.1); (case s3 => exact qv_ (Kd.a0v HO431.out).2.2); (case s4 => exact (Kd.a0v HO431.out).2.1); rintro e w' ⟨rfl, ⟨nd, rfl⟩⟩))
         go_meet
         case rel => exact ⟨_, (false), qs_, H', ⟨by have := HJ9.out; have := HJ18.out; first | omega | exact Nat.le_refl _⟩, ⟨qk_ BK416⟩, ⟨qb_⟩⟩
       ·replace c40 := be_ c40
        subst c40
        have H1 : (a0d.j2 kj18 l0 l5 a6 false) = some r := by rw [if_neg (show ¬ (false = true) by decide)] at H; exact H
        clear H
        have H := H1
        clear H1
        have H' := am_ H
        clear H
        go_wp2
        go_meet
        case rel => exact ⟨_, (false), qs_, H', ⟨by have := HJ9.out; have := HJ18.out; first | omega | exact Nat.le_refl _⟩, ⟨qk_ BK416⟩, ⟨qb_⟩⟩
      case rest =>
       clear HC37
       try clear c1
       try clear c2
       try clear p2
       try clear c4
       try clear c5
       try clear c8
       try clear c9
       try clear c11
       try clear c13
       try clear c13b0
       try clear c13b1
       try clear c14
       try clear c14b0
       try clear c14b1
       try clear c15
       try clear c15b0
       try clear c15b1
       try clear c16
       try clear c18
       try clear c24
       try clear c27
       try clear c27b0
       try clear c27b1
       try clear c27b2
       try clear c28
       try clear c28b0
       try clear c28b1
       try clear c40
       try clear c42
       try clear z'20_0 z'20_1 z'20_2 z'20_3 z'20_4 z'20_5
       try clear z'22_0 z'22_1 z'22_2 z'22_3 z'22_4 z'22_5
       try clear y'20_0 y'20_1 y'20_2 y'20_3 y'20_4 y'20_5
       try clear y'22_0 y'22_1 y'22_2 y'22_3 y'22_4 y'22_5
       try clear p2
       obtain ⟨kq, x17_36, rfl, HA, HJ36, BK416, HB⟩ := hcut
       cases kq with
       | zero => exact absurd HA.out (by simp [a0d.j2])
       | succ kj36 =>
        have H := HA.out
        clear HA
        simp only [a0d.j2] at H
        replace H := bm_ H
        obtain ⟨⟨t433, t434, t435⟩, A470, H⟩ := H
        replace H : ((a0e.f kj36 l0 l5 a6).bind fun bt438 => (if x17_36 = true then ((a1d.f kj36 t433 bt438.1).bind fun t443 => (if t443 = true then (if t434 = bt438.2.1 then (some (t435 == bt438.2.2)) else (some false)) else (some false))) else (some false))) = some r := H
        have A47 := am_ A470
        clear A470
        replace H := bm_ H
        obtain ⟨⟨t438, t439, t440⟩, A480, H⟩ := H
        replace H : (if x17_36 = true then ((a1d.f kj36 t433 t438).bind fun t443 => (if t443 = true then (if t434 = t439 then (some (t435 == t440)) else (some false)) else (some false))) else (some false)) = some r := H
        have A48 := am_ A480
        clear A480
        by_cases c49 : x17_36 = true
        ·subst c49
         have H1 : ((a1d.f kj36 t433 t438).bind fun t443 => (if t443 = true then (if t434 = t439 then (some (t435 == t440)) else (some false)) else (some false))) = some r := by rw [if_pos rfl] at H; exact H
         clear H
         have H := H1
         clear H1
         replace H := bm_ H
         obtain ⟨t443, A500, H⟩ := H
         replace H : (if t443 = true then (if t434 = t439 then (some (t435 == t440)) else (some false)) else (some false)) = some r := H
         have A50 := am_ A500
         clear A500
         by_cases c51 : t443 = true
         ·subst c51
          have H1 : (if t434 = t439 then (some (t435 == t440)) else (some false)) = some r := by rw [if_pos rfl] at H; exact H
          clear H
          have H := H1
          clear H1
          by_cases c52 : t434 = t439
          ·rw [if_pos c52] at H
           have c52b0 : (t434 == t439) = true := beq_iff_eq.mpr c52
           have c52b1 : (t434 != t439) = false := bne_eq_false_iff_eq.mpr c52
           clear c52
           obtain rfl := si_ H
           go_wp2_with (first | ((with_reducible refine a1a (f := 12) rfl ?_); refine a1r (some 111) rfl rfl Try.func12 (by kernel_rfl) rfl #[.slice A0 l0.length c0, .slice A5 l5.length c5, .int .i64 a6] rfl ql_ ?_; (with_reducible refine (a0n.calls kj36 _ _ l0 _ _ l5 a6 t433 t434 t435 _ ?s1 ?s2 ?s3 ?s4 A47.out).mono ?_); (case s1 => exact qc_ HR0); (case s2 => exact HC0.out); (case s3 => exact qc_ HR5); (case s4 => exact HC5.out); rintro e w53 ⟨v436, rfl, ho0, hb⟩; refine ⟨_, rfl, ?_⟩; have HO437 := am_ (Kd.a2h (Kd.a5x ho0 (g := gb416) (o := .cells #[.int .i64 a1_0, .int .i64 a1_1, .int .i64 a1_2, .int .i64 a1_3, .int .i64 a1_4, .int .i64 a1_5] 30 (0, 0)) (qk_ BK416)) (a1o qb_)); replace BK416 := qkb_ BK416 hb; replace HB := qbs_ hb; (try clear hb); (try clear hb2); (try clear hk); (try clear hi); (try clear ho0)) | ((with_reducible refine a1a (f := 20) rfl ?_); refine a1r (some 119) rfl rfl Try.func20 (by kernel_rfl) rfl #[.slice A0 l0.length c0, .slice A5 l5.length c5, .int .i64 a6] rfl ql_ ?_; (with_reducible refine (a0e.calls kj36 _ _ l0 _ _ l5 a6 t438 t439 t440 _ ?s1 ?s2 ?s3 ?s4 A48.out).mono ?_); (case s1 => exact qc_ HR0); (case s2 => exact HC0.out); (case s3 => exact qc_ HR5); (case s4 => exact HC5.out); rintro e w54 ⟨v441, rfl, ho0, hb⟩; refine ⟨_, rfl, ?_⟩; have HO442 := am_ (Kd.a2h (Kd.a5x (Kd.a3f ho0 (Kd.R_lt (qr_ HO437))) (g := gb416) (o := .cells #[.int .i64 a1_0, .int .i64 a1_1, .int .i64 a1_2, .int .i64 a1_3, .int .i64 a1_4, .int .i64 a1_5] 30 (0, 0)) (qk_ BK416)) (a1o qb_)); replace HO437 := qel_ HO437 ho0 hb; replace BK416 := qkb_ BK416 hb; replace HB := qbs_ hb; (try clear hb); (try clear hb2); (try clear hk); (try clear hi); (try clear ho0); obtain ⟨Ao55, co55, eo55⟩ := Kd.a1w HO437.out; subst eo55; obtain ⟨Ao56, co56, eo56⟩ := Kd.a1w HO442.out; subst eo56) | (go_at_call 13; (with_reducible refine (a1d.calls kj36 _ _ t433 _ _ t438 true _ ?s1 ?s2 ?s3 ?s4 A50.out).mono ?_); (case s1 => exact qv_ (Kd.a0v HO437.out).2.2); (case s2 => exact (Kd.a0v HO437.out).2.1); (case s3 => exact qv_ (Kd.a0v HO442.out).2.2); (case s4 => exact (Kd.a0v HO442.out).2.1); rintro e w' ⟨rfl, ⟨nd, rfl⟩⟩))
           go_ret
           exact ⟨qx_, qb_⟩
          ·rw [if_neg c52] at H
           have c52b0 : (t434 == t439) = false := beq_eq_false_iff_ne.mpr c52
           have c52b1 : (t434 != t439) = true := bne_iff_ne.mpr c52
           obtain rfl := si_ H
           go_wp2_with (first | ((with_reducible refine a1a (f := 12) rfl ?_); refine a1r (some 111) rfl rfl Try.func12 (by kernel_rfl) rfl #[.slice A0 l0.length c0, .slice A5 l5.length c5, .int .i64 a6] rfl ql_ ?_; (with_reducible refine (a0n.calls kj36 _ _ l0 _ _ l5 a6 t433 t434 t435 _ ?s1 ?s2 ?s3 ?s4 A47.out).mono ?_); (case s1 => exact qc_ HR0); (case s2 => exact HC0.out); (case s3 => exact qc_ HR5); (case s4 => exact HC5.out); rintro e w57 ⟨v436, rfl, ho0, hb⟩; refine ⟨_, rfl, ?_⟩; have HO437 := am_ (Kd.a2h (Kd.a5x ho0 (g := gb416) (o := .cells #[.int .i64 a1_0, .int .i64 a1_1, .int .i64 a1_2, .int .i64 a1_3, .int .i64 a1_4, .int .i64 a1_5] 30 (0, 0)) (qk_ BK416)) (a1o qb_)); replace BK416 := qkb_ BK416 hb; replace HB := qbs_ hb; (try clear hb); (try clear hb2); (try clear hk); (try clear hi); (try clear ho0)) | ((with_reducible refine a1a (f := 20) rfl ?_); refine a1r (some 119) rfl rfl Try.func20 (by kernel_rfl) rfl #[.slice A0 l0.length c0, .slice A5 l5.length c5, .int .i64 a6] rfl ql_ ?_; (with_reducible refine (a0e.calls kj36 _ _ l0 _ _ l5 a6 t438 t439 t440 _ ?s1 ?s2 ?s3 ?s4 A48.out).mono ?_); (case s1 => exact qc_ HR0); (case s2 => exact HC0.out); (case s3 => exact qc_ HR5); (case s4 => exact HC5.out); rintro e w58 ⟨v441, rfl, ho0, hb⟩; refine ⟨_, rfl, ?_⟩; have HO442 := am_ (Kd.a2h (Kd.a5x (Kd.a3f ho0 (Kd.R_lt (qr_ HO437))) (g := gb416) (o := .cells #[.int .i64 a1_0, .int .i64 a1_1, .int .i64 a1_2, .int .i64 a1_3, .int .i64 a1_4, .int .i64 a1_5] 30 (0, 0)) (qk_ BK416)) (a1o qb_)); replace HO437 := qel_ HO437 ho0 hb; replace BK416 := qkb_ BK416 hb; replace HB := qbs_ hb; (try clear hb); (try clear hb2); (try clear hk); (try clear hi); (try clear ho0); obtain ⟨Ao59, co59, eo59⟩ := Kd.a1w HO437.out; subst eo59; obtain ⟨Ao60, co60, eo60⟩ := Kd.a1w HO442.out; subst eo60) | (go_at_call 13; (with_reducible refine (a1d.calls kj36 _ _ t433 _ _ t438 true _ ?s1 ?s2 ?s3 ?s4 A50.out).mono ?_); (case s1 => exact qv_ (Kd.a0v HO437.out).2.2); (case s2 => exact (Kd.a0v HO437.out).2.1); (case s3 => exact qv_ (Kd.a0v HO442.out).2.2); (case s4 => exact (Kd.a0v HO442.out).2.1); rintro e w' ⟨rfl, ⟨nd, rfl⟩⟩))
           go_ret
           exact ⟨qx_, qb_⟩
         ·replace c51 := be_ c51
          subst c51
          have H1 : (some false) = some r := by rw [if_neg (show ¬ (false = true) by decide)] at H; exact H
          clear H
          have H := H1
          clear H1
          obtain rfl := si_ H
          go_wp2_with (first | ((with_reducible refine a1a (f := 12) rfl ?_); refine a1r (some 111) rfl rfl Try.func12 (by kernel_rfl) rfl #[.slice A0 l0.length c0, .slice A5 l5.length c5, .int .i64 a6] rfl ql_ ?_; (with_reducible refine (a0n.calls kj36 _ _ l0 _ _ l5 a6 t433 t434 t435 _ ?s1 ?s2 ?s3 ?s4 A47.out).mono ?_); (case s1 => exact qc_ HR0); (case s2 => exact HC0.out); (case s3 => exact qc_ HR5); (case s4 => exact HC5.out); rintro e w61 ⟨v436, rfl, ho0, hb⟩; refine ⟨_, rfl, ?_⟩; have HO437 := am_ (Kd.a2h (Kd.a5x ho0 (g := gb416) (o := .cells #[.int .i64 a1_0, .int .i64 a1_1, .int .i64 a1_2, .int .i64 a1_3, .int .i64 a1_4, .int .i64 a1_5] 30 (0, 0)) (qk_ BK416)) (a1o qb_)); replace BK416 := qkb_ BK416 hb; replace HB := qbs_ hb; (try clear hb); (try clear hb2); (try clear hk); (try clear hi); (try clear ho0)) | ((with_reducible refine a1a (f := 20) rfl ?_); refine a1r (some 119) rfl rfl Try.func20 (by kernel_rfl) rfl #[.slice A0 l0.length c0, .slice A5 l5.length c5, .int .i64 a6] rfl ql_ ?_; (with_reducible refine (a0e.calls kj36 _ _ l0 _ _ l5 a6 t438 t439 t440 _ ?s1 ?s2 ?s3 ?s4 A48.out).mono ?_); (case s1 => exact qc_ HR0); (case s2 => exact HC0.out); (case s3 => exact qc_ HR5); (case s4 => exact HC5.out); rintro e w62 ⟨v441, rfl, ho0, hb⟩; refine ⟨_, rfl, ?_⟩; have HO442 := am_ (Kd.a2h (Kd.a5x (Kd.a3f ho0 (Kd.R_lt (qr_ HO437))) (g := gb416) (o := .cells #[.int .i64 a1_0, .int .i64 a1_1, .int .i64 a1_2, .int .i64 a1_3, .int .i64 a1_4, .int .i64 a1_5] 30 (0, 0)) (qk_ BK416)) (a1o qb_)); replace HO437 := qel_ HO437 ho0 hb; replace BK416 := qkb_ BK416 hb; replace HB := qbs_ hb; (try clear hb); (try clear hb2); (try clear hk); (try clear hi); (try clear ho0); obtain ⟨Ao63, co63, eo63⟩ := Kd.a1w HO437.out; subst eo63; obtain ⟨Ao64, co64, eo64⟩ := Kd.a1w HO442.out; subst eo64) | (go_at_call 13; (with_reducible refine (a1d.calls kj36 _ _ t433 _ _ t438 false _ ?s1 ?s2 ?s3 ?s4 A50.out).mono ?_); (case s1 => exact qv_ (Kd.a0v HO437.out).2.2); (case s2 => exact (Kd.a0v HO437.out).2.1); (case s3 => exact qv_ (Kd.a0v HO442.out).2.2); (case s4 => exact (Kd.a0v HO442.out).2.1); rintro e w' ⟨rfl, ⟨nd, rfl⟩⟩))
          go_ret
          exact ⟨qx_, qb_⟩
        ·replace c49 := be_ c49
         subst c49
         have H1 : (some false) = some r := by rw [if_neg (show ¬ (false = true) by decide)] at H; exact H
         clear H
         have H := H1
         clear H1
         obtain rfl := si_ H
         go_wp2_with (first | ((with_reducible refine a1a (f := 12) rfl ?_); refine a1r (some 111) rfl rfl Try.func12 (by kernel_rfl) rfl #[.slice A0 l0.length c0, .slice A5 l5.length c5, .int .i64 a6] rfl ql_ ?_; (with_reducible refine (a0n.calls kj36 _ _ l0 _ _ l5 a6 t433 t434 t435 _ ?s1 ?s2 ?s3 ?s4 A47.out).mono ?_); (case s1 => exact qc_ HR0); (case s2 => exact HC0.out); (case s3 => exact qc_ HR5); (case s4 => exact HC5.out); rintro e w65 ⟨v436, rfl, ho0, hb⟩; refine ⟨_, rfl, ?_⟩; have HO437 := am_ (Kd.a2h (Kd.a5x ho0 (g := gb416) (o := .cells #[.int .i64 a1_0, .int .i64 a1_1, .int .i64 a1_2, .int .i64 a1_3, .int .i64 a1_4, .int .i64 a1_5] 30 (0, 0)) (qk_ BK416)) (a1o qb_)); replace BK416 := qkb_ BK416 hb; replace HB := qbs_ hb; (try clear hb); (try clear hb2); (try clear hk); (try clear hi); (try clear ho0)) | ((with_reducible refine a1a (f := 20) rfl ?_); refine a1r (some 119) rfl rfl Try.func20 (by kernel_rfl) rfl #[.slice A0 l0.length c0, .slice A5 l5.length c5, .int .i64 a6] rfl ql_ ?_; (with_reducible refine (a0e.calls kj36 _ _ l0 _ _ l5 a6 t438 t439 t440 _ ?s1 ?s2 ?s3 ?s4 A48.out).mono ?_); (case s1 => exact qc_ HR0); (case s2 => exact HC0.out); (case s3 => exact qc_ HR5); (case s4 => exact HC5.out); rintro e w66 ⟨v441, rfl, ho0, hb⟩; refine ⟨_, rfl, ?_⟩; have HO442 := am_ (Kd.a2h (Kd.a5x (Kd.a3f ho0 (Kd.R_lt (qr_ HO437))) (g := gb416) (o := .cells #[.int .i64 a1_0, .int .i64 a1_1, .int .i64 a1_2, .int .i64 a1_3, .int .i64 a1_4, .int .i64 a1_5] 30 (0, 0)) (qk_ BK416)) (a1o qb_)); replace HO437 := qel_ HO437 ho0 hb; replace BK416 := qkb_ BK416 hb; replace HB := qbs_ hb; (try clear hb); (try clear hb2); (try clear hk); (try clear hi); (try clear ho0)))
         go_ret
         exact ⟨qx_, qb_⟩
end Go.Proofs.Ytfbgkcadnmcakaa.Px
