/- Contracts of Go functions, printed. Conditions: as each theorem states. -/
import Derived.Test.YtfbgkcadnmcakaaPx0
import Derived.Test.YtfbgkcadnmcakaaPx18
import Derived.Test.YtfbgkcadnmcakaaPx20
namespace Go.Proofs.Ytfbgkcadnmcakaa.Px
open Go.Proofs.Ytfbgkcadnmcakaa.Given
open Go.RowKit Go.Proofs.YtfbgkcadnmcakaaW.PrintWords Go.Proofs.YtfbgkcadnmcakaaW.PrintLast Go.Proofs.YtfbgkcadnmcakaaW.PrintMore
attribute [local go_sem] a2y a2v a3h a3e a2q a2r a2z a3a
set_option linter.unusedVariables false
set_option linter.unusedSimpArgs false
def a0t.l0 : Nat → List (S30) → Int → Option (Bool)
 | 0, _, _ => none
 | k + 1, x0, x3 => if x3 < (x0.length : Int) then (if 0 ≤ x3 then ((a0o.f k ((a0a x0 x3).f0) ((a0a x0 x3).f1) ((a0a x0 x3).f2) ((a0a x0 x3).f3) ((a0a x0 x3).f4.f0) ((a0a x0 x3).f4.f1)).bind fun t361 => (if t361 = true then (if x3 ≤ (x0.length : Int) then ((a1e.f k (x0.take (x3 : Int).toNat) ((a0a x0 x3).f0)).bind fun t367 => (if t367 ≥ 0 then (some false) else (a0t.l0 k x0 (wrap64 (x3 + 1))))) else (none)) else (some false))) else (none)) else (some true)
def a0t.f (k : Nat) (l0 : List (S30)) : Option (Bool) := if (l0.length : Int) > 100 then (some false) else (a0t.l0 k l0 0)
theorem a0t.a1p : ∀ k, (∀ y0 y1, LeO (a0t.l0 k y0 y1) (a0t.l0 (k + 1) y0 y1))
 | 0 => fun _ _ r h => by simp [a0t.l0] at h
 | k + 1 => by
  have ih0 := a0t.a1p k
  ·intro y0 y1
   unfold a0t.l0
   with_reducible (repeat' first | apply ih0 | apply a0o.mono | apply a1e.mono | apply LeO.refl | apply LeO.none | apply LeO.ite | refine LeO.bind ?_ (fun _ => ?_))
theorem a0t.mono : ∀ a0 k, LeO (a0t.f k a0) (a0t.f (k + 1) a0) := by
 intro a0 k
 have ih0 := a0t.a1p k
 unfold a0t.f
 with_reducible (repeat' first | apply ih0 | apply a0o.mono | apply a1e.mono | apply LeO.refl | apply LeO.none | apply LeO.ite | refine LeO.bind ?_ (fun _ => ?_))
set_option maxHeartbeats 8000000 in
set_option maxRecDepth 100000 in
theorem a0t.calls (k : Nat) (A0 : Option Addr) (c0 : Nat) (l0 : List (S30)) (r : Bool) (w : World) (hr0 : Kd.C k30 w A0 l0.length l0) (hc0 : l0.length ≤ c0) (h : a0t.f k l0 = some r) :
  Calls Try.prog 17 #[.slice A0 l0.length c0] w fun e w' => e = .returned (.bool r) ∧ Below w.heap.size w w' := by
 have hu30 := Try.underlying30
 have HR0 := am_ hr0
 have HC0 := am_ hc0
 clear hr0 hc0
 have HB := am_ (Below.refl w.heap.size w)
 have H : (if (l0.length : Int) > 100 then (some false) else (a0t.l0 k l0 0)) = some r := h
 clear h
 by_cases c2 : (l0.length : Int) > 100
 ·rw [if_pos c2] at H
  have c2b0 : decide (100 < (l0.length : Int)) = true := decide_eq_true c2
  have c2b1 : decide (100 < l0.length) = true := decide_eq_true (by omega)
  clear c2
  obtain rfl := si_ H
  go_enter Try.func17, Try.ntmps17
  go_wp2
  repeat (go_quiet (fail); try go_wp2)
  go_ret
  exact ⟨qx_, qb_⟩
 ·rw [if_neg c2] at H
  have c2b0 : decide (100 < (l0.length : Int)) = false := decide_eq_false c2
  have c2b1 : decide (100 < l0.length) = false := decide_eq_false (by omega)
  clear c2
  have H' := am_ H
  clear H
  go_enter Try.func17, Try.ntmps17
  go_wp2
  repeat (go_quiet (fail); try go_wp2)
  go_loopg [3] k (fun kq v3 w' => ∃ (x3_1 : Int), v3 = .int .i64 x3_1 ∧ Aside0 (a0t.l0 kq l0 x3_1 = some r) ∧ Aside0 (kq ≤ k) ∧ Aside0 (Below w.heap.size w w'))
  case atStart => exact ⟨(0), qs_, H', ⟨Nat.le_refl _⟩, ⟨qb_⟩⟩
  case round =>
   clear H'
   try clear c1
   try clear c2
   try clear c2b0
   try clear c2b1
   try clear p2
   obtain ⟨x3_1, rfl, HA, HK1, HB⟩ := hrel
   cases gk with
   | zero => exact absurd HA.out (by simp [a0t.l0])
   | succ k1 =>
    have H := HA.out
    clear HA
    simp only [a0t.l0] at H
    by_cases c3 : x3_1 < (l0.length : Int)
    ·rw [if_pos c3] at H
     have c3b0 : decide (x3_1 < (l0.length : Int)) = true := decide_eq_true c3
     clear c3
     by_cases c4 : 0 ≤ x3_1
     ·rw [if_pos c4] at H
      have c4b0 : decide (0 ≤ x3_1) = true := decide_eq_true c4
      clear c4
      replace H := bm_ H
      obtain ⟨t361, A50, H⟩ := H
      replace H : (if t361 = true then (if x3_1 ≤ (l0.length : Int) then ((a1e.f k1 (l0.take (x3_1 : Int).toNat) ((a0a l0 x3_1).f0)).bind fun t367 => (if t367 ≥ 0 then (some false) else (a0t.l0 k1 l0 (wrap64 (x3_1 + 1))))) else (none)) else (some false)) = some r := H
      have A5 := am_ A50
      clear A50
      by_cases c6 : t361 = true
      ·subst c6
       have H1 : (if x3_1 ≤ (l0.length : Int) then ((a1e.f k1 (l0.take (x3_1 : Int).toNat) ((a0a l0 x3_1).f0)).bind fun t367 => (if t367 ≥ 0 then (some false) else (a0t.l0 k1 l0 (wrap64 (x3_1 + 1))))) else (none)) = some r := by rw [if_pos rfl] at H; exact H
       clear H
       have H := H1
       clear H1
       have c7b0 := eq_true (ot_ : 0 ≤ x3_1)
       by_cases c8 : x3_1 ≤ (l0.length : Int)
       ·rw [if_pos c8] at H
        have c8b0 := eq_true c8
        have c8b1 : decide (x3_1 ≤ (l0.length : Int)) = true := decide_eq_true c8
        clear c8
        obtain ⟨y362, hy362⟩ : ∃ y_ : List (S30), y_ = (l0.take (x3_1 : Int).toNat) := ⟨_, rfl⟩
        replace H : ((a1e.f k1 y362 ((a0a l0 x3_1).f0)).bind fun t367 => (if t367 ≥ 0 then (some false) else (a0t.l0 k1 l0 (wrap64 (x3_1 + 1))))) = some r := by first | (rw [hy362]; with_reducible exact H) | (have H2_ := (Option.bind_some _ _).symm.trans H; rw [hy362]; with_reducible exact H2_) | (have H2_ := (Option.bind_some _ _).symm.trans H; with_reducible exact H2_) | with_reducible exact H | (rw [hy362]; exact H) | exact H
        have Ny362 := am_ hy362
        clear hy362
        replace H := bm_ H
        obtain ⟨t367, A90, H⟩ := H
        replace H : (if t367 ≥ 0 then (some false) else (a0t.l0 k1 l0 (wrap64 (x3_1 + 1)))) = some r := H
        have A9 := am_ A90
        clear A90
        by_cases c10 : t367 ≥ 0
        ·rw [if_pos c10] at H
         have c10b0 : decide (0 ≤ t367) = true := decide_eq_true c10
         clear c10
         obtain rfl := si_ H
         have p360 : 0 ≤ (x3_1 : Int) := ot_
         have q360 : x3_1 < (l0.length : Int) := ot_
         obtain ⟨ad360, e360, hx360_0, hx360_1, hx360_2, hx360_3, hx360_4, hx360_5⟩ := a3c HR0.out x3_1 p360 q360
         cases e360
         replace hx360_0 := qh_ HB hx360_0
         replace hx360_1 := qh_ HB hx360_1
         replace hx360_2 := qh_ HB hx360_2
         replace hx360_3 := qh_ HB hx360_3
         replace hx360_4 := qh_ HB hx360_4
         replace hx360_5 := qh_ HB hx360_5
         replace p360 := eq_true p360
         replace q360 := eq_true q360
         go_wp2_with (first | (go_at_call 33; (with_reducible refine (a0o.calls k1 ((a0a l0 x3_1).f0) ((a0a l0 x3_1).f1) ((a0a l0 x3_1).f2) ((a0a l0 x3_1).f3) ((a0a l0 x3_1).f4.f0) ((a0a l0 x3_1).f4.f1) true _ A5.out).mono ?_); rintro e w11 ⟨rfl, hb⟩; replace HB := qbs_ hb; (try clear hb); (try clear hb2); (try clear hk); (try clear hi); have q12 : (x3_1 : Int) ≤ ((l0.length : Int) : Int) := ot_; obtain ⟨i012, hi012, _, hsz12, _⟩ := info_parts a4w; have hroom12 : l0.length ≤ c0 := HC0.out; have hC12 : Kd.C k30 _ (some ad360) l0.length l0 := HR0.out; have hcut12 := a6s (P := Try.prog) 22 30 .i64 Try.underlying22 hi012 (some ad360) l0.length c0 x3_1 (ot_) q12 hroom12; have hr12 := Kd.a5w (m := (x3_1 : Int).toNat) hC12 (by omega); have hy12 : y362.length = (x3_1 : Int).toNat := (by rw [Ny362.out, List.length_take]; omega); rw [← Ny362.out] at hr12; rw [← hy12] at hcut12; have HR365 := am_ hr12; have HC365 := am_ (show y362.length ≤ c0 from by omega); clear hr12 hC12 hroom12 hi012 hsz12; have KY12 := am_ hy12; clear hy12; replace q12 := eq_true q12; have p366 : 0 ≤ (x3_1 : Int) := ot_; have q366 : x3_1 < (l0.length : Int) := ot_; obtain ⟨ad366, e366, hx366_0, hx366_1, hx366_2, hx366_3, hx366_4, hx366_5⟩ := a3c HR0.out x3_1 p366 q366; obtain rfl : ad360 = ad366 := (by injection e366); replace hx366_0 := qh_ HB hx366_0; replace hx366_1 := qh_ HB hx366_1; replace hx366_2 := qh_ HB hx366_2; replace hx366_3 := qh_ HB hx366_3; replace hx366_4 := qh_ HB hx366_4; replace hx366_5 := qh_ HB hx366_5; replace p366 := eq_true p366; replace q366 := eq_true q366) | (go_at_call 37; (with_reducible refine (a1e.calls k1 _ _ y362 ((a0a l0 x3_1).f0) t367 _ ?s1 ?s2 A9.out).mono ?_); (case s1 => exact qc_ HR365); (case s2 => exact HC365.out); rintro e w' ⟨rfl, ⟨nd, rfl⟩⟩; (try exact qw_)))
         repeat (go_quiet (first | (go_at_call 33; (with_reducible refine (a0o.calls k1 ((a0a l0 x3_1).f0) ((a0a l0 x3_1).f1) ((a0a l0 x3_1).f2) ((a0a l0 x3_1).f3) ((a0a l0 x3_1).f4.f0) ((a0a l0 x3_1).f4.f1) true _ A5.out).mono ?_); rintro e w11 ⟨rfl, hb⟩; replace HB := qbs_ hb; (try clear hb); (try clear hb2); (try clear hk); (try clear hi); have q12 : (x3_1 : Int) ≤ ((l0.length : Int) : Int) := ot_; obtain ⟨i012, hi012, _, hsz12, _⟩ := info_parts a4w; have hroom12 : l0.length ≤ c0 := HC0.out; have hC12 : Kd.C k30 _ (some ad360) l0.length l0 := HR0.out; have hcut12 := a6s (P := Try.prog) 22 30 .i64 Try.underlying22 hi012 (some ad360) l0.length c0 x3_1 (ot_) q12 hroom12; have hr12 := Kd.a5w (m := (x3_1 : Int).toNat) hC12 (by omega); have hy12 : y362.length = (x3_1 : Int).toNat := (by rw [Ny362.out, List.length_take]; omega); rw [← Ny362.out] at hr12; rw [← hy12] at hcut12; have HR365 := am_ hr12; have HC365 := am_ (show y362.length ≤ c0 from by omega); clear hr12 hC12 hroom12 hi012 hsz12; have KY12 := am_ hy12; clear hy12; replace q12 := eq_true q12; have p366 : 0 ≤ (x3_1 : Int) := ot_; have q366 : x3_1 < (l0.length : Int) := ot_; obtain ⟨ad366, e366, hx366_0, hx366_1, hx366_2, hx366_3, hx366_4, hx366_5⟩ := a3c HR0.out x3_1 p366 q366; obtain rfl : ad360 = ad366 := (by injection e366); replace hx366_0 := qh_ HB hx366_0; replace hx366_1 := qh_ HB hx366_1; replace hx366_2 := qh_ HB hx366_2; replace hx366_3 := qh_ HB hx366_3; replace hx366_4 := qh_ HB hx366_4; replace hx366_5 := qh_ HB hx366_5; replace p366 := eq_true p366; replace q366 := eq_true q366) | (go_at_call 37; (with_reducible refine (a1e.calls k1 _ _ y362 ((a0a l0 x3_1).f0) t367 _ ?s1 ?s2 A9.out).mono ?_); (case s1 => exact qc_ HR365); (case s2 => exact HC365.out); rintro e w' ⟨rfl, ⟨nd, rfl⟩⟩; (try exact qw_))); try go_wp2_with (first | (go_at_call 33; (with_reducible refine (a0o.calls k1 ((a0a l0 x3_1).f0) ((a0a l0 x3_1).f1) ((a0a l0 x3_1).f2) ((a0a l0 x3_1).f3) ((a0a l0 x3_1).f4.f0) ((a0a l0 x3_1).f4.f1) true _ A5.out).mono ?_); rintro e w11 ⟨rfl, hb⟩; replace HB := qbs_ hb; (try clear hb); (try clear hb2); (try clear hk); (try clear hi); have q12 : (x3_1 : Int) ≤ ((l0.length : Int) : Int) := ot_; obtain ⟨i012, hi012, _, hsz12, _⟩ := info_parts a4w; have hroom12 : l0.length ≤ c0 := HC0.out; have hC12 : Kd.C k30 _ (some ad360) l0.length l0 := HR0.out; have hcut12 := a6s (P := Try.prog) 22 30 .i64 Try.underlying22 hi012 (some ad360) l0.length c0 x3_1 (ot_) q12 hroom12; have hr12 := Kd.a5w (m := (x3_1 : Int).toNat) hC12 (by omega); have hy12 : y362.length = (x3_1 : Int).toNat := (by rw [Ny362.out, List.length_take]; omega); rw [← Ny362.out] at hr12; rw [← hy12] at hcut12; have HR365 := am_ hr12; have HC365 := am_ (show y362.length ≤ c0 from by omega); clear hr12 hC12 hroom12 hi012 hsz12; have KY12 := am_ hy12; clear hy12; replace q12 := eq_true q12; have p366 : 0 ≤ (x3_1 : Int) := ot_; have q366 : x3_1 < (l0.length : Int) := ot_; obtain ⟨ad366, e366, hx366_0, hx366_1, hx366_2, hx366_3, hx366_4, hx366_5⟩ := a3c HR0.out x3_1 p366 q366; obtain rfl : ad360 = ad366 := (by injection e366); replace hx366_0 := qh_ HB hx366_0; replace hx366_1 := qh_ HB hx366_1; replace hx366_2 := qh_ HB hx366_2; replace hx366_3 := qh_ HB hx366_3; replace hx366_4 := qh_ HB hx366_4; replace hx366_5 := qh_ HB hx366_5; replace p366 := eq_true p366; replace q366 := eq_true q366) | (go_at_call 37; (with_reducible refine (a1e.calls k1 _ _ y362 ((a0a l0 x3_1).f0) t367 _ ?s1 ?s2 A9.out).mono ?_); (case s1 => exact qc_ HR365); (case s2 => exact HC365.out); rintro e w' ⟨rfl, ⟨nd, rfl⟩⟩; (try exact qw_))))
         go_ret
         exact ⟨qx_, qb_⟩
        ·rw [if_neg c10] at H
         have c10b0 : decide (0 ≤ t367) = false := decide_eq_false c10
         clear c10
         have H' := am_ H
         clear H
         have p360 : 0 ≤ (x3_1 : Int) := ot_
         have q360 : x3_1 < (l0.length : Int) := ot_
         obtain ⟨ad360, e360, hx360_0, hx360_1, hx360_2, hx360_3, hx360_4, hx360_5⟩ := a3c HR0.out x3_1 p360 q360
         cases e360
         replace hx360_0 := qh_ HB hx360_0
         replace hx360_1 := qh_ HB hx360_1
         replace hx360_2 := qh_ HB hx360_2
         replace hx360_3 := qh_ HB hx360_3
         replace hx360_4 := qh_ HB hx360_4
         replace hx360_5 := qh_ HB hx360_5
         replace p360 := eq_true p360
         replace q360 := eq_true q360
         go_wp2_with (first | (go_at_call 33; (with_reducible refine (a0o.calls k1 ((a0a l0 x3_1).f0) ((a0a l0 x3_1).f1) ((a0a l0 x3_1).f2) ((a0a l0 x3_1).f3) ((a0a l0 x3_1).f4.f0) ((a0a l0 x3_1).f4.f1) true _ A5.out).mono ?_); rintro e w13 ⟨rfl, hb⟩; replace HB := qbs_ hb; (try clear hb); (try clear hb2); (try clear hk); (try clear hi); have q14 : (x3_1 : Int) ≤ ((l0.length : Int) : Int) := ot_; obtain ⟨i014, hi014, _, hsz14, _⟩ := info_parts a4w; have hroom14 : l0.length ≤ c0 := HC0.out; have hC14 : Kd.C k30 _ (some ad360) l0.length l0 := HR0.out; have hcut14 := a6s (P := Try.prog) 22 30 .i64 Try.underlying22 hi014 (some ad360) l0.length c0 x3_1 (ot_) q14 hroom14; have hr14 := Kd.a5w (m := (x3_1 : Int).toNat) hC14 (by omega); have hy14 : y362.length = (x3_1 : Int).toNat := (by rw [Ny362.out, List.length_take]; omega); rw [← Ny362.out] at hr14; rw [← hy14] at hcut14; have HR365 := am_ hr14; have HC365 := am_ (show y362.length ≤ c0 from by omega); clear hr14 hC14 hroom14 hi014 hsz14; have KY14 := am_ hy14; clear hy14; replace q14 := eq_true q14; have p366 : 0 ≤ (x3_1 : Int) := ot_; have q366 : x3_1 < (l0.length : Int) := ot_; obtain ⟨ad366, e366, hx366_0, hx366_1, hx366_2, hx366_3, hx366_4, hx366_5⟩ := a3c HR0.out x3_1 p366 q366; obtain rfl : ad360 = ad366 := (by injection e366); replace hx366_0 := qh_ HB hx366_0; replace hx366_1 := qh_ HB hx366_1; replace hx366_2 := qh_ HB hx366_2; replace hx366_3 := qh_ HB hx366_3; replace hx366_4 := qh_ HB hx366_4; replace hx366_5 := qh_ HB hx366_5; replace p366 := eq_true p366; replace q366 := eq_true q366) | (go_at_call 37; (with_reducible refine (a1e.calls k1 _ _ y362 ((a0a l0 x3_1).f0) t367 _ ?s1 ?s2 A9.out).mono ?_); (case s1 => exact qc_ HR365); (case s2 => exact HC365.out); rintro e w' ⟨rfl, ⟨nd, rfl⟩⟩; (try exact qw_)))
         repeat (go_quiet (first | (go_at_call 33; (with_reducible refine (a0o.calls k1 ((a0a l0 x3_1).f0) ((a0a l0 x3_1).f1) ((a0a l0 x3_1).f2) ((a0a l0 x3_1).f3) ((a0a l0 x3_1).f4.f0) ((a0a l0 x3_1).f4.f1) true _ A5.out).mono ?_); rintro e w13 ⟨rfl, hb⟩; replace HB := qbs_ hb; (try clear hb); (try clear hb2); (try clear hk); (try clear hi); have q14 : (x3_1 : Int) ≤ ((l0.length : Int) : Int) := ot_; obtain ⟨i014, hi014, _, hsz14, _⟩ := info_parts a4w; have hroom14 : l0.length ≤ c0 := HC0.out; have hC14 : Kd.C k30 _ (some ad360) l0.length l0 := HR0.out; have hcut14 := a6s (P := Try.prog) 22 30 .i64 Try.underlying22 hi014 (some ad360) l0.length c0 x3_1 (ot_) q14 hroom14; have hr14 := Kd.a5w (m := (x3_1 : Int).toNat) hC14 (by omega); have hy14 : y362.length = (x3_1 : Int).toNat := (by rw [Ny362.out, List.length_take]; omega); rw [← Ny362.out] at hr14; rw [← hy14] at hcut14; have HR365 := am_ hr14; have HC365 := am_ (show y362.length ≤ c0 from by omega); clear hr14 hC14 hroom14 hi014 hsz14; have KY14 := am_ hy14; clear hy14; replace q14 := eq_true q14; have p366 : 0 ≤ (x3_1 : Int) := ot_; have q366 : x3_1 < (l0.length : Int) := ot_; obtain ⟨ad366, e366, hx366_0, hx366_1, hx366_2, hx366_3, hx366_4, hx366_5⟩ := a3c HR0.out x3_1 p366 q366; obtain rfl : ad360 = ad366 := (by injection e366); replace hx366_0 := qh_ HB hx366_0; replace hx366_1 := qh_ HB hx366_1; replace hx366_2 := qh_ HB hx366_2; replace hx366_3 := qh_ HB hx366_3; replace hx366_4 := qh_ HB hx366_4; replace hx366_5 := qh_ HB hx366_5; replace p366 := eq_true p366; replace q366 := eq_true q366) | (go_at_call 37; (with_reducible refine (a1e.calls k1 _ _ y362 ((a0a l0 x3_1).f0) t367 _ ?s1 ?s2 A9.out).mono ?_); (case s1 => exact qc_ HR365); (case s2 => exact HC365.out); rintro e w' ⟨rfl, ⟨nd, rfl⟩⟩; (try exact qw_))); try go_wp2_with (first | (go_at_call 33; (with_reducible refine (a0o.calls k1 ((a0a l0 x3_1).f0) ((a0a l0 x3_1).f1) ((a0a l0 x3_1).f2) ((a0a l0 x3_1).f3) ((a0a l0 x3_1).f4.f0) ((a0a l0 x3_1).f4.f1) true _ A5.out).mono ?_); rintro e w13 ⟨rfl, hb⟩; replace HB := qbs_ hb; (try clear hb); (try clear hb2); (try clear hk); (try clear hi); have q14 : (x3_1 : Int) ≤ ((l0.length : Int) : Int) := ot_; obtain ⟨i014, hi014, _, hsz14, _⟩ := info_parts a4w; have hroom14 : l0.length ≤ c0 := HC0.out; have hC14 : Kd.C k30 _ (some ad360) l0.length l0 := HR0.out; have hcut14 := a6s (P := Try.prog) 22 30 .i64 Try.underlying22 hi014 (some ad360) l0.length c0 x3_1 (ot_) q14 hroom14; have hr14 := Kd.a5w (m := (x3_1 : Int).toNat) hC14 (by omega); have hy14 : y362.length = (x3_1 : Int).toNat := (by rw [Ny362.out, List.length_take]; omega); rw [← Ny362.out] at hr14; rw [← hy14] at hcut14; have HR365 := am_ hr14; have HC365 := am_ (show y362.length ≤ c0 from by omega); clear hr14 hC14 hroom14 hi014 hsz14; have KY14 := am_ hy14; clear hy14; replace q14 := eq_true q14; have p366 : 0 ≤ (x3_1 : Int) := ot_; have q366 : x3_1 < (l0.length : Int) := ot_; obtain ⟨ad366, e366, hx366_0, hx366_1, hx366_2, hx366_3, hx366_4, hx366_5⟩ := a3c HR0.out x3_1 p366 q366; obtain rfl : ad360 = ad366 := (by injection e366); replace hx366_0 := qh_ HB hx366_0; replace hx366_1 := qh_ HB hx366_1; replace hx366_2 := qh_ HB hx366_2; replace hx366_3 := qh_ HB hx366_3; replace hx366_4 := qh_ HB hx366_4; replace hx366_5 := qh_ HB hx366_5; replace p366 := eq_true p366; replace q366 := eq_true q366) | (go_at_call 37; (with_reducible refine (a1e.calls k1 _ _ y362 ((a0a l0 x3_1).f0) t367 _ ?s1 ?s2 A9.out).mono ?_); (case s1 => exact qc_ HR365); (case s2 => exact HC365.out); rintro e w' ⟨rfl, ⟨nd, rfl⟩⟩; (try exact qw_))))
         go_roundg k1
         case measure => have := HK1.out; omega
         case rel => exact ⟨(wrap64 (x3_1 + 1)), qs_, H', ⟨by have := HK1.out; omega⟩, ⟨qb_⟩⟩
       ·rw [if_neg c8] at H
        exact absurd H (by simp)
      ·replace c6 := be_ c6
       subst c6
       have H1 : (some false) = some r := by rw [if_neg (show ¬ (false = true) by decide)] at H; exact H
       clear H
       have H := H1
       clear H1
       obtain rfl := si_ H
       have p360 : 0 ≤ (x3_1 : Int) := ot_
       have q360 : x3_1 < (l0.length : Int) := ot_
       obtain ⟨ad360, e360, hx360_0, hx360_1, hx360_2, hx360_3, hx360_4, hx360_5⟩ := a3c HR0.out x3_1 p360 q360
       cases e360
       replace hx360_0 := qh_ HB hx360_0
       replace hx360_1 := qh_ HB hx360_1
       replace hx360_2 := qh_ HB hx360_2
       replace hx360_3 := qh_ HB hx360_3
       replace hx360_4 := qh_ HB hx360_4
       replace hx360_5 := qh_ HB hx360_5
       replace p360 := eq_true p360
       replace q360 := eq_true q360
       go_wp2_with (first | (go_at_call 33; (with_reducible refine (a0o.calls k1 ((a0a l0 x3_1).f0) ((a0a l0 x3_1).f1) ((a0a l0 x3_1).f2) ((a0a l0 x3_1).f3) ((a0a l0 x3_1).f4.f0) ((a0a l0 x3_1).f4.f1) false _ A5.out).mono ?_); rintro e w15 ⟨rfl, hb⟩; replace HB := qbs_ hb; (try clear hb); (try clear hb2); (try clear hk); (try clear hi)))
       repeat (go_quiet (first | (go_at_call 33; (with_reducible refine (a0o.calls k1 ((a0a l0 x3_1).f0) ((a0a l0 x3_1).f1) ((a0a l0 x3_1).f2) ((a0a l0 x3_1).f3) ((a0a l0 x3_1).f4.f0) ((a0a l0 x3_1).f4.f1) false _ A5.out).mono ?_); rintro e w15 ⟨rfl, hb⟩; replace HB := qbs_ hb; (try clear hb); (try clear hb2); (try clear hk); (try clear hi))); try go_wp2_with (first | (go_at_call 33; (with_reducible refine (a0o.calls k1 ((a0a l0 x3_1).f0) ((a0a l0 x3_1).f1) ((a0a l0 x3_1).f2) ((a0a l0 x3_1).f3) ((a0a l0 x3_1).f4.f0) ((a0a l0 x3_1).f4.f1) false _ A5.out).mono ?_); rintro e w15 ⟨rfl, hb⟩; replace HB := qbs_ hb; (try clear hb); (try clear hb2); (try clear hk); (try clear hi))))
       go_ret
       exact ⟨qx_, qb_⟩
     ·rw [if_neg c4] at H
      exact absurd H (by simp)
    ·rw [if_neg c3] at H
     have c3b0 : decide (x3_1 < (l0.length : Int)) = false := decide_eq_false c3
     clear c3
     obtain rfl := si_ H
     go_wp2
     repeat (go_quiet (fail); try go_wp2)
     go_ret
     exact ⟨qx_, qb_⟩
def a1g.l0 : Nat → List Int → Int → Int → Option (Bool)
 | 0, _, _, _ => none
 | k + 1, x0, x1, x5 => if x5 < (x0.length : Int) then (if 0 ≤ x5 then (if (rd x0 x5) = x1 then (some true) else (a1g.l0 k x0 x1 (wrap64 (x5 + 1)))) else (none)) else (some false)
def a1g.f (k : Nat) (l0 : List Int) (a1 : Int) : Option (Bool) := a1g.l0 k l0 a1 0
theorem a1g.a1p : ∀ k, (∀ y0 y1 y2, LeO (a1g.l0 k y0 y1 y2) (a1g.l0 (k + 1) y0 y1 y2))
 | 0 => fun _ _ _ r h => by simp [a1g.l0] at h
 | k + 1 => by
  have ih0 := a1g.a1p k
  ·intro y0 y1 y2
   unfold a1g.l0
   with_reducible (repeat' first | apply ih0 | apply LeO.refl | apply LeO.none | apply LeO.ite | refine LeO.bind ?_ (fun _ => ?_))
theorem a1g.mono : ∀ a0 a1 k, LeO (a1g.f k a0 a1) (a1g.f (k + 1) a0 a1) := by
 intro a0 a1 k
 have ih0 := a1g.a1p k
 unfold a1g.f
 with_reducible (repeat' first | apply ih0 | apply LeO.refl | apply LeO.none | apply LeO.ite | refine LeO.bind ?_ (fun _ => ?_))
set_option maxHeartbeats 8000000 in
set_option maxRecDepth 100000 in
theorem a1g.calls (k : Nat) (A0 : Option Addr) (c0 : Nat) (l0 : List Int) (a1 : Int) (r : Bool) (w : World) (hr0 : Kd.C (Kd.int .i64) w A0 l0.length l0) (hc0 : l0.length ≤ c0) (h : a1g.f k l0 a1 = some r) :
  Calls Try.prog 38 #[.slice A0 l0.length c0, .int .i64 a1] w fun e w' => e = .returned (.bool r) ∧ a2w w w' := by
 have HR0 := am_ hr0
 have HC0 := am_ hc0
 clear hr0 hc0
 have H : (a1g.l0 k l0 a1 0) = some r := h
 clear h
 have H' := am_ H
 clear H
 go_enter Try.func38, Try.ntmps38
 go_wp2
 go_loopg [5] k (fun kq v5 w' => ∃ (x5_1 : Int), v5 = .int .i64 x5_1 ∧ Aside0 (a1g.l0 kq l0 a1 x5_1 = some r) ∧ Aside0 (kq ≤ k) ∧ a2w w w')
 case atStart => exact ⟨(0), qs_, H', ⟨Nat.le_refl _⟩, qy_⟩
 case round =>
  clear H'
  try clear p2
  obtain ⟨x5_1, rfl, HA, HK1, ⟨m1, rfl⟩⟩ := hrel
  cases gk with
  | zero => exact absurd HA.out (by simp [a1g.l0])
  | succ k1 =>
   have H := HA.out
   clear HA
   simp only [a1g.l0] at H
   by_cases c3 : x5_1 < (l0.length : Int)
   ·rw [if_pos c3] at H
    have c3b0 : decide (x5_1 < (l0.length : Int)) = true := decide_eq_true c3
    clear c3
    by_cases c4 : 0 ≤ x5_1
    ·rw [if_pos c4] at H
     have c4b0 : decide (0 ≤ x5_1) = true := decide_eq_true c4
     clear c4
     by_cases c5 : (rd l0 x5_1) = a1
     ·rw [if_pos c5] at H
      have c5b0 : ((rd l0 x5_1) == a1) = true := beq_iff_eq.mpr c5
      have c5b1 : ((rd l0 x5_1) != a1) = false := bne_eq_false_iff_eq.mpr c5
      clear c5
      obtain rfl := si_ H
      have p368 : 0 ≤ (x5_1 : Int) := ot_
      have q368 : x5_1 < (l0.length : Int) := ot_
      obtain ⟨ad368, e368, hx368_0⟩ := Kd.a3y HR0.out x5_1 p368 q368
      cases e368
      replace p368 := eq_true p368
      replace q368 := eq_true q368
      go_wp2
      go_ret
      exact ⟨qs_, qy_⟩
     ·rw [if_neg c5] at H
      have c5b0 : ((rd l0 x5_1) == a1) = false := beq_eq_false_iff_ne.mpr c5
      have c5b1 : ((rd l0 x5_1) != a1) = true := bne_iff_ne.mpr c5
      have H' := am_ H
      clear H
      have p368 : 0 ≤ (x5_1 : Int) := ot_
      have q368 : x5_1 < (l0.length : Int) := ot_
      obtain ⟨ad368, e368, hx368_0⟩ := Kd.a3y HR0.out x5_1 p368 q368
      cases e368
      replace p368 := eq_true p368
      replace q368 := eq_true q368
      go_wp2
      go_roundg k1
      case measure => have := HK1.out; omega
      case rel => exact ⟨(wrap64 (x5_1 + 1)), qs_, H', ⟨by have := HK1.out; omega⟩, qy_⟩
    ·rw [if_neg c4] at H
     exact absurd H (by simp)
   ·rw [if_neg c3] at H
    have c3b0 : decide (x5_1 < (l0.length : Int)) = false := decide_eq_false c3
    clear c3
    obtain rfl := si_ H
    go_wp2
    go_ret
    exact ⟨qs_, qy_⟩
end Go.Proofs.Ytfbgkcadnmcakaa.Px
