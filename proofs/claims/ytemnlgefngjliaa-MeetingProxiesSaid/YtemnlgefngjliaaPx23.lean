/- Contracts of Go functions, printed. Conditions: as each theorem states. -/
import Derived.Test.YtemnlgefngjliaaPx0
import Derived.Test.YtemnlgefngjliaaPx17
import Derived.Test.YtemnlgefngjliaaPx19
import Derived.Test.YtemnlgefngjliaaPx21
import Derived.Test.YtemnlgefngjliaaPx22
namespace Go.Proofs.Ytemnlgefngjliaa.Px
open Go.Proofs.Ytemnlgefngjliaa.Given
open Go.RowKit Go.Proofs.YtemnlgefngjliaaW.PrintWords Go.Proofs.YtemnlgefngjliaaW.PrintLast Go.Proofs.YtemnlgefngjliaaW.PrintMore
attribute [local go_sem] a2h a2i a2t a2u a1x a1y a2j a2k
set_option linter.unusedVariables false
set_option linter.unusedSimpArgs false
mutual
def a0z.j0 : Nat → Bool → Int → Int → Int → Int → Bool → Int → Int → Int → List ByteArray → List (S43) → List Int → Option (List Int × Int)
 | 0, _, _, _, _, _, _, _, _, _, _, _, _ => none
 | k + 1, x16, u0, u1, u2, u3, u4, u5, u6, u7, u8, u9, u10 => if x16 = true then (some (([] : List Int), 1)) else (if 0 ≤ (u9.length : Int) then (if ((u9.length : Int) : Int).toNat ≤ 35184372088832 then (a0z.l0 k (List.replicate ((u9.length : Int) : Int).toNat 0) 0 u0 u1 u2 u3 u4 u5 u6 u7 u8 u9 u10) else (none)) else (none))
def a0z.l0 : Nat → List Int → Int → Int → Int → Int → Int → Bool → Int → Int → Int → List ByteArray → List (S43) → List Int → Option (List Int × Int)
 | 0, _, _, _, _, _, _, _, _, _, _, _, _, _ => none
 | k + 1, x6, x7, u0, u1, u2, u3, u4, u5, u6, u7, u8, u9, u10 => if x7 < (u9.length : Int) then (if 0 ≤ x7 then ((a3t.f k u5 u6 u7 u8 u9 u10 ((a0a u9 x7).f0) ((a0a u9 x7).f1) ((a0a u9 x7).f2)).bind fun t406 => ((a1o.f k u9 t406).bind fun t407 => (if t407 ≥ 0 then (if 0 ≤ t407 then (if t407 < (x6.length : Int) then ((a8p.f u0 u1 u2 u3 u4 ((a0a u9 x7).f0) ((a0a u9 x7).f1) ((a0a u9 x7).f2)).bind fun t410 => (a0z.l0 k (x6.set (t407 : Int).toNat (wrap64 ((rd x6 t407) + t410))) (wrap64 (x7 + 1)) u0 u1 u2 u3 u4 u5 u6 u7 u8 u9 u10)) else (none)) else (none)) else (a0z.l0 k x6 (wrap64 (x7 + 1)) u0 u1 u2 u3 u4 u5 u6 u7 u8 u9 u10)))) else (none)) else (some (x6, 0))
end
def a0z.f (k : Nat) (a0_0 a0_1 a0_2 a0_3 : Int) (a0_4 : Bool) (a1_0 a1_1 a1_2 : Int) (l1_3 : List ByteArray) (l1_4 : List (S43)) (l1_5 : List Int) : Option (List Int × Int) := (a2q.f k a0_0 a0_1 a0_2 a0_3 a0_4).bind fun t400 => (if t400 = true then ((a0f.f k a1_0 a1_1 a1_2 l1_3 l1_4 l1_5).bind fun t401 => (a0z.j0 k (!t401) a0_0 a0_1 a0_2 a0_3 a0_4 a1_0 a1_1 a1_2 l1_3 l1_4 l1_5)) else (a0z.j0 k true a0_0 a0_1 a0_2 a0_3 a0_4 a1_0 a1_1 a1_2 l1_3 l1_4 l1_5))
theorem a0z.a0v : ∀ k, (∀ y0 y1 y2 y3 y4 y5 y6 y7 y8 y9 y10 y11, LeO (a0z.j0 k y0 y1 y2 y3 y4 y5 y6 y7 y8 y9 y10 y11) (a0z.j0 (k + 1) y0 y1 y2 y3 y4 y5 y6 y7 y8 y9 y10 y11)) ∧ (∀ y0 y1 y2 y3 y4 y5 y6 y7 y8 y9 y10 y11 y12, LeO (a0z.l0 k y0 y1 y2 y3 y4 y5 y6 y7 y8 y9 y10 y11 y12) (a0z.l0 (k + 1) y0 y1 y2 y3 y4 y5 y6 y7 y8 y9 y10 y11 y12))
 | 0 => ⟨fun _ _ _ _ _ _ _ _ _ _ _ _ r h => by simp [a0z.j0] at h, fun _ _ _ _ _ _ _ _ _ _ _ _ _ r h => by simp [a0z.l0] at h⟩
 | k + 1 => by
  obtain ⟨ih0, ih1⟩ := a0z.a0v k
  refine ⟨?_, ?_⟩
  ·intro y0 y1 y2 y3 y4 y5 y6 y7 y8 y9 y10 y11
   unfold a0z.j0
   with_reducible (repeat' first | apply ih0 | apply ih1 | apply a2q.mono | apply a0f.mono | apply a3t.mono | apply a1o.mono | apply LeO.refl | apply LeO.none | apply LeO.ite | refine LeO.bind ?_ (fun _ => ?_))
  ·intro y0 y1 y2 y3 y4 y5 y6 y7 y8 y9 y10 y11 y12
   unfold a0z.l0
   with_reducible (repeat' first | apply ih0 | apply ih1 | apply a2q.mono | apply a0f.mono | apply a3t.mono | apply a1o.mono | apply LeO.refl | apply LeO.none | apply LeO.ite | refine LeO.bind ?_ (fun _ => ?_))
theorem a0z.mono : ∀ a0 a1 a2 a3 a4 a5 a6 a7 a8 a9 a10 k, LeO (a0z.f k a0 a1 a2 a3 a4 a5 a6 a7 a8 a9 a10) (a0z.f (k + 1) a0 a1 a2 a3 a4 a5 a6 a7 a8 a9 a10) := by
 intro a0 a1 a2 a3 a4 a5 a6 a7 a8 a9 a10 k
 obtain ⟨ih0, ih1⟩ := a0z.a0v k
 unfold a0z.f
 with_reducible (repeat' first | apply ih0 | apply ih1 | apply a2q.mono | apply a0f.mono | apply a3t.mono | apply a1o.mono | apply LeO.refl | apply LeO.none | apply LeO.ite | refine LeO.bind ?_ (fun _ => ?_))
def a0z.T7 : Bool × List (List Nat × List Nat) := (true, [([], []), ([0], [0]), ([], []), ([], []), ([3], [3]), ([], []), ([4, 5], [4, 5]), ([6], [6]), ([2, 7], [2, 7]), ([1, 8, 8], [1, 8]), ([9, 9, 0, 1, 2, 3, 4, 5, 6, 7, 8, 9], [9])])
def a0z.B7 : List Nat := [0, 1, 0, 0, 8, 0, 56, 120, 252, 511, 1023]
theorem a0z.tab7 : rtab .any (opsOf Try.f14 7) = a0z.T7 := by kernel_rfl
theorem a0z.a6i : a4j a0z.T7.2 a0z.B7 = true := by kernel_rfl
def a0z.T9 : Bool × List (List Nat × List Nat) := (true, [([], []), ([], []), ([], []), ([], []), ([2, 3], [2, 3]), ([4], [4]), ([], []), ([], []), ([7], [7]), ([], []), ([8, 9], [8, 9]), ([10], [10]), ([6, 11], [6, 11]), ([5, 12], [5, 12]), ([0, 1, 0, 1, 2, 3, 4, 5, 6, 7, 8, 9, 10, 11, 12, 13], [0, 1]), ([14, 13, 12, 0, 1, 2, 3, 4, 5, 6, 7, 8, 9, 10, 11, 12, 13], [13, 14])])
def a0z.B9 : List Nat := [0, 0, 0, 0, 12, 28, 0, 0, 128, 0, 896, 1920, 4032, 8188, 16383, 32767]
theorem a0z.tab9 : rtab .any (opsOf Try.f14 9) = a0z.T9 := by kernel_rfl
theorem a0z.b8n : a4j a0z.T9.2 a0z.B9 = true := by kernel_rfl
set_option maxHeartbeats 8000000 in
set_option maxRecDepth 100000 in
theorem a0z.calls (k : Nat) (a0_0 a0_1 a0_2 a0_3 : Int) (a0_4 : Bool) (a1_0 a1_1 a1_2 : Int) (A1_3 : Option Addr) (c1_3 : Nat) (l1_3 : List ByteArray) (A1_4 : Option Addr) (c1_4 : Nat) (l1_4 : List (S43)) (A1_5 : Option Addr) (c1_5 : Nat) (l1_5 r1 : List Int) (r2 : Int) (w : World) (hr1_3 : Kd.C Kd.string w A1_3 l1_3.length l1_3) (hc1_3 : l1_3.length ≤ c1_3) (hr1_4 : Kd.C k43 w A1_4 l1_4.length l1_4) (hc1_4 : l1_4.length ≤ c1_4) (hr1_5 : Kd.C (Kd.int .i64) w A1_5 l1_5.length l1_5) (hc1_5 : l1_5.length ≤ c1_5) (h : a0z.f k a0_0 a0_1 a0_2 a0_3 a0_4 a1_0 a1_1 a1_2 l1_3 l1_4 l1_5 = some (r1, r2)) :
  Calls Try.prog 14 #[.agg #[.int .i64 a0_0, .int .i64 a0_1, .int .i64 a0_2, .int .i64 a0_3, .bool a0_4], .agg #[.int .i64 a1_0, .int .i64 a1_1, .int .i64 a1_2, .slice A1_3 l1_3.length c1_3, .slice A1_4 l1_4.length c1_4, .slice A1_5 l1_5.length c1_5]] w fun e w' => ∃ v0_ : Value, e = .returned (.tuple #[v0_, .int .i64 r2]) ∧ Kd.R (Kd.int .i64) 3 w' w.heap.size (fun _ => True) v0_ r1 ∧ Below w.heap.size w w' := by
 have hu25 := Try.underlying25
 have hu30 := Try.underlying30
 have hu43 := Try.underlying43
 have HR1_3 := am_ hr1_3
 have HC1_3 := am_ hc1_3
 clear hr1_3 hc1_3
 have HR1_4 := am_ hr1_4
 have HC1_4 := am_ hc1_4
 clear hr1_4 hc1_4
 have HR1_5 := am_ hr1_5
 have HC1_5 := am_ hc1_5
 clear hr1_5 hc1_5
 have HB := am_ (Below.refl w.heap.size w)
 have H : ((a2q.f k a0_0 a0_1 a0_2 a0_3 a0_4).bind fun t400 => (if t400 = true then ((a0f.f k a1_0 a1_1 a1_2 l1_3 l1_4 l1_5).bind fun t401 => (a0z.j0 k (!t401) a0_0 a0_1 a0_2 a0_3 a0_4 a1_0 a1_1 a1_2 l1_3 l1_4 l1_5)) else (a0z.j0 k true a0_0 a0_1 a0_2 a0_3 a0_4 a1_0 a1_1 a1_2 l1_3 l1_4 l1_5))) = some (r1, r2) := h
 clear h
 have HC3 := am_ H
 clear H
 go_enter Try.func14, Try.ntmps14
 go_upto_region 1 with (first | ((with_reducible refine a0d (N := 2) rfl ?_); refine qev_ 2 #[.int .i64 a0_0, .int .i64 a0_1, .int .i64 a0_2, .int .i64 a0_3, .bool a0_4] 25 ?_; intro gb398 hg w4 hbox hb; have BK398 := am_ (hbox); have GW398 := qga_ hg; have GE398 := qga_ hg; replace HB := qbs_ hb; clear hb hbox hg) | ((with_reducible refine a0d (N := 3) rfl ?_); refine qev_ 3 #[.int .i64 a1_0, .int .i64 a1_1, .int .i64 a1_2, .slice A1_3 l1_3.length c1_3, .slice A1_4 l1_4.length c1_4, .slice A1_5 l1_5.length c1_5] 30 ?_; intro gb399 hg w5 hbox hb; have BK399 := am_ (hbox); have GW399 := qga_ hg; have GE399 := qga_ hg; replace HB := qbs_ hb; have NB398_399 := am_ ((by rw [hg]; exact Nat.ne_of_lt (a0y (qk_ BK398)) : gb398 ≠ gb399)); have NB399_398 := am_ ((by rw [hg]; exact Nat.ne_of_gt (a0y (qk_ BK398)) : gb399 ≠ gb398)); replace BK398 := qkb_ BK398 hb; clear hb hbox hg))
 (try simp only [Act.put, List.setIfInBounds_toArray, List.set_cons_zero, List.set_cons_succ])
 go_cut [16] (fun v16 wc => ∃ (kq : Nat) (x16_2 : Bool), v16 = .bool x16_2 ∧ Aside0 (a0z.j0 kq x16_2 a0_0 a0_1 a0_2 a0_3 a0_4 a1_0 a1_1 a1_2 l1_3 l1_4 l1_5 = some (r1, r2)) ∧ Aside0 (kq ≤ k) ∧ Aside0 (wc.heap[gb398]? = some (.cells #[.int .i64 a0_0, .int .i64 a0_1, .int .i64 a0_2, .int .i64 a0_3, .bool a0_4] 25 (0, 0))) ∧ Aside0 (wc.heap[gb399]? = some (.cells #[.int .i64 a1_0, .int .i64 a1_1, .int .i64 a1_2, (.slice A1_3 l1_3.length c1_3), (.slice A1_4 l1_4.length c1_4), (.slice A1_5 l1_5.length c1_5)] 30 (0, 0))) ∧ Aside0 (Below w.heap.size w wc))
 case first =>
  have H := HC3.out
  clear HC3
  replace H := bm_ H
  obtain ⟨t400, A60, H⟩ := H
  replace H : (if t400 = true then ((a0f.f k a1_0 a1_1 a1_2 l1_3 l1_4 l1_5).bind fun t401 => (a0z.j0 k (!t401) a0_0 a0_1 a0_2 a0_3 a0_4 a1_0 a1_1 a1_2 l1_3 l1_4 l1_5)) else (a0z.j0 k true a0_0 a0_1 a0_2 a0_3 a0_4 a1_0 a1_1 a1_2 l1_3 l1_4 l1_5)) = some (r1, r2) := H
  have A6 := am_ A60
  clear A60
  by_cases c7 : t400 = true
  ·subst c7
   have H1 : ((a0f.f k a1_0 a1_1 a1_2 l1_3 l1_4 l1_5).bind fun t401 => (a0z.j0 k (!t401) a0_0 a0_1 a0_2 a0_3 a0_4 a1_0 a1_1 a1_2 l1_3 l1_4 l1_5)) = some (r1, r2) := by rw [if_pos rfl] at H; exact H
   clear H
   have H := H1
   clear H1
   replace H := bm_ H
   obtain ⟨t401, A80, H⟩ := H
   replace H : (a0z.j0 k (!t401) a0_0 a0_1 a0_2 a0_3 a0_4 a1_0 a1_1 a1_2 l1_3 l1_4 l1_5) = some (r1, r2) := H
   have A8 := am_ A80
   clear A80
   have H' := am_ H
   clear H
   have hnb9 := NB398_399.out
   have hnc9 := NB399_398.out
   obtain ⟨z'10_0, z'10_1, z'10_2, z'10_3, z'10_4⟩ := qz5_ BK398; obtain ⟨y'10_0, y'10_1, y'10_2, y'10_3, y'10_4⟩ := qf5_ BK398
   go_wp2_with (first | ((with_reducible refine a0b (f := 35) rfl ?_); refine a0p (some 10) rfl rfl Try.func35 (by kernel_rfl) rfl #[.agg #[.int .i64 a0_0, .int .i64 a0_1, .int .i64 a0_2, .int .i64 a0_3, .bool a0_4]] rfl ql_ ?_; (with_reducible refine (a2q.calls k a0_0 a0_1 a0_2 a0_3 a0_4 true _ A6.out).mono ?_); rintro e w11 ⟨rfl, hb⟩; refine ⟨_, rfl, ?_⟩; replace BK398 := qkb_ BK398 hb; replace BK399 := qkb_ BK399 hb; replace HB := qbs_ hb; (try clear hb); (try clear hb2); (try clear hk); (try clear hi); obtain ⟨z'12_0, z'12_1, z'12_2, z'12_3, z'12_4, z'12_5⟩ := qz6_ BK399; obtain ⟨y'12_0, y'12_1, y'12_2, y'12_3, y'12_4, y'12_5⟩ := qf6_ BK399) | (go_at_call 16; (with_reducible refine (a0f.calls k a1_0 a1_1 a1_2 _ _ l1_3 _ _ l1_4 _ _ l1_5 t401 _ ?s1 ?s2 ?s3 ?s4 ?s5 ?s6 A8.out).mono ?_); (case s1 => exact qc_ HR1_3); (case s2 => exact HC1_3.out); (case s3 => exact qc_ HR1_4); (case s4 => exact HC1_4.out); (case s5 => exact qc_ HR1_5); (case s6 => exact HC1_5.out); rintro e w13 ⟨rfl, hb⟩; replace BK398 := qkb_ BK398 hb; replace BK399 := qkb_ BK399 hb; replace HB := qbs_ hb; (try clear hb); (try clear hb2); (try clear hk); (try clear hi)))
   go_meet
   case rel => exact ⟨_, (!t401), qs_, H', ⟨qo_⟩, ⟨qk_ BK398⟩, ⟨qk_ BK399⟩, ⟨qb_⟩⟩
  ·replace c7 := be_ c7
   subst c7
   have H1 : (a0z.j0 k true a0_0 a0_1 a0_2 a0_3 a0_4 a1_0 a1_1 a1_2 l1_3 l1_4 l1_5) = some (r1, r2) := by rw [if_neg (show ¬ (false = true) by decide)] at H; exact H
   clear H
   have H := H1
   clear H1
   have H' := am_ H
   clear H
   have hnb14 := NB398_399.out
   have hnc14 := NB399_398.out
   obtain ⟨z'15_0, z'15_1, z'15_2, z'15_3, z'15_4⟩ := qz5_ BK398; obtain ⟨y'15_0, y'15_1, y'15_2, y'15_3, y'15_4⟩ := qf5_ BK398
   go_wp2_with (first | ((with_reducible refine a0b (f := 35) rfl ?_); refine a0p (some 10) rfl rfl Try.func35 (by kernel_rfl) rfl #[.agg #[.int .i64 a0_0, .int .i64 a0_1, .int .i64 a0_2, .int .i64 a0_3, .bool a0_4]] rfl ql_ ?_; (with_reducible refine (a2q.calls k a0_0 a0_1 a0_2 a0_3 a0_4 false _ A6.out).mono ?_); rintro e w16 ⟨rfl, hb⟩; refine ⟨_, rfl, ?_⟩; replace BK398 := qkb_ BK398 hb; replace BK399 := qkb_ BK399 hb; replace HB := qbs_ hb; (try clear hb); (try clear hb2); (try clear hk); (try clear hi)))
   go_meet
   case rel => exact ⟨_, (true), qs_, H', ⟨qo_⟩, ⟨qk_ BK398⟩, ⟨qk_ BK399⟩, ⟨qb_⟩⟩
 case rest =>
  clear HC3
  try clear c1
  try clear p2
  try clear c3
  try clear c7
  try clear c9
  try clear c14
  try clear z'10_0 z'10_1 z'10_2 z'10_3 z'10_4
  try clear z'12_0 z'12_1 z'12_2 z'12_3 z'12_4 z'12_5
  try clear z'15_0 z'15_1 z'15_2 z'15_3 z'15_4
  try clear y'10_0 y'10_1 y'10_2 y'10_3 y'10_4
  try clear y'12_0 y'12_1 y'12_2 y'12_3 y'12_4 y'12_5
  try clear y'15_0 y'15_1 y'15_2 y'15_3 y'15_4
  obtain ⟨kq, x16_2, rfl, HA, HJ2, BK398, BK399, HB⟩ := hcut
  cases kq with
  | zero => exact absurd HA.out (by simp [a0z.j0])
  | succ kj2 =>
   have H := HA.out
   clear HA
   simp only [a0z.j0] at H
   by_cases c17 : x16_2 = true
   ·subst c17
    have H1 : (some (([] : List Int), 1)) = some (r1, r2) := by rw [if_pos rfl] at H; exact H
    clear H
    have H := H1
    clear H1
    simp only [Option.some.injEq, Prod.mk.injEq] at H
    obtain ⟨rfl, rfl⟩ := H
    go_wp2
    go_ret2
    exact ⟨_, qx_, by first | exact Kd.a5y _ _ _ _ _ | exact Kd.b0w _ _ _ _ _ | exact Kd.b0x _ _ _ _ _ | exact Kd.b0u _ _ _ _ _ | exact Kd.b0v _ _ _ _ _, qb_⟩
   ·replace c17 := be_ c17
    subst c17
    have H1 : (if 0 ≤ (l1_4.length : Int) then (if ((l1_4.length : Int) : Int).toNat ≤ 35184372088832 then (a0z.l0 kj2 (List.replicate ((l1_4.length : Int) : Int).toNat 0) 0 a0_0 a0_1 a0_2 a0_3 a0_4 a1_0 a1_1 a1_2 l1_3 l1_4 l1_5) else (none)) else (none)) = some (r1, r2) := by rw [if_neg (show ¬ (false = true) by decide)] at H; exact H
    clear H
    have H := H1
    clear H1
    by_cases c18 : 0 ≤ (l1_4.length : Int)
    ·rw [if_pos c18] at H
     have c18b0 := eq_true c18
     have c18b1 : decide (0 ≤ (l1_4.length : Int)) = true := decide_eq_true c18
     clear c18
     by_cases c19 : ((l1_4.length : Int) : Int).toNat ≤ 35184372088832
     ·rw [if_pos c19] at H
      have c19b0 := eq_true c19
      have c19b1 : decide (((l1_4.length : Int) : Int).toNat ≤ 35184372088832) = true := decide_eq_true c19
      clear c19
      obtain ⟨y402, hy402⟩ : ∃ y_ : List Int, y_ = (List.replicate ((l1_4.length : Int) : Int).toNat 0) := ⟨_, rfl⟩
      replace H : (a0z.l0 kj2 y402 0 a0_0 a0_1 a0_2 a0_3 a0_4 a1_0 a1_1 a1_2 l1_3 l1_4 l1_5) = some (r1, r2) := by first | (rw [hy402]; with_reducible exact H) | (have H2_ := (Option.bind_some _ _).symm.trans H; rw [hy402]; with_reducible exact H2_) | (have H2_ := (Option.bind_some _ _).symm.trans H; with_reducible exact H2_) | with_reducible exact H | (rw [hy402]; exact H) | exact H
      have Ny402 := am_ hy402
      clear hy402
      have H' := am_ H
      clear H
      have hnb20 := NB399_398.out
      have hnc20 := NB398_399.out
      obtain ⟨z'21_0, z'21_1, z'21_2, z'21_3, z'21_4, z'21_5⟩ := qz6_ BK399; obtain ⟨y'21_0, y'21_1, y'21_2, y'21_3, y'21_4, y'21_5⟩ := qf6_ BK399
      go_wp2_with (first | ((with_reducible refine a0d (N := 20) rfl ?_); refine Kd.b1f (Kd.int .i64) _ 3 rfl (N := 20) rfl 28 _ _ rfl (l1_4.length : Int) rfl rfl Try.underlying28 (.int .i64 0) 8 info3 rfl (by decide) (by omega) 0 (ok := fun _ => True) (okp := fun _ => True) rfl (fun _ hk => hk) trivial (ot_) (Nat.le_trans (Nat.mul_le_mul_right _ (ot_ : (l1_4.length : Int).toNat ≤ 35184372088832)) (by omega)) (Below.refl _ _) (Nat.le_refl _) ?_; intro v403 w22 ho23 hb hg_ hnew_; clear hg_ hnew_; (first | rw [← Ny402.out] at ho23 | (simp only [Int.reduceToNat] at ho23; rw [← Ny402.out] at ho23)); have HO404 := am_ (Kd.a2a ho23 (a1d qb_)); replace BK398 := qkb_ BK398 hb; replace BK399 := qkb_ BK399 hb; replace HB := qbs_ hb; clear hb ho23))
      go_loopg [7] kj2 (fun kq v7 w' => ∃ (x6_2 : List Int) (x7_2 : Int), v7 = .int .i64 x7_2 ∧ Aside0 (a0z.l0 kq x6_2 x7_2 a0_0 a0_1 a0_2 a0_3 a0_4 a1_0 a1_1 a1_2 l1_3 l1_4 l1_5 = some (r1, r2)) ∧ Aside0 (kq ≤ kj2) ∧ Aside0 (Kd.R (Kd.int .i64) 3 w' w.heap.size (fun _ => True) v403 x6_2) ∧ Aside0 (w'.heap[gb398]? = some (.cells #[.int .i64 a0_0, .int .i64 a0_1, .int .i64 a0_2, .int .i64 a0_3, .bool a0_4] 25 (0, 0))) ∧ Aside0 (w'.heap[gb399]? = some (.cells #[.int .i64 a1_0, .int .i64 a1_1, .int .i64 a1_2, (.slice A1_3 l1_3.length c1_3), (.slice A1_4 l1_4.length c1_4), (.slice A1_5 l1_5.length c1_5)] 30 (0, 0))) ∧ Aside0 (Below w.heap.size w w'))
      case atStart => exact ⟨(y402), (0), qs_, H', ⟨Nat.le_refl _⟩, ⟨by (with_reducible repeat (first | apply Kd.a1h | apply Kd.a1i | apply Kd.a0x)); exact HO404.out⟩, ⟨qk_ BK398⟩, ⟨qk_ BK399⟩, ⟨qb_⟩⟩
      case round =>
       clear H'
       try clear c1
       try clear c2
       try clear p2
       try clear c3
       try clear c7
       try clear c9
       try clear c14
       try clear c17
       try clear c18
       try clear c18b0
       try clear c18b1
       try clear c19
       try clear c19b0
       try clear c19b1
       try clear c20
       try clear z'10_0 z'10_1 z'10_2 z'10_3 z'10_4
       try clear z'12_0 z'12_1 z'12_2 z'12_3 z'12_4 z'12_5
       try clear z'15_0 z'15_1 z'15_2 z'15_3 z'15_4
       try clear z'21_0 z'21_1 z'21_2 z'21_3 z'21_4 z'21_5
       try clear y'10_0 y'10_1 y'10_2 y'10_3 y'10_4
       try clear y'12_0 y'12_1 y'12_2 y'12_3 y'12_4 y'12_5
       try clear y'15_0 y'15_1 y'15_2 y'15_3 y'15_4
       try clear y'21_0 y'21_1 y'21_2 y'21_3 y'21_4 y'21_5
       try clear p2
       obtain ⟨x6_2, x7_2, rfl, HA, HK2, HO_6, BK398, BK399, HB⟩ := hrel
       cases gk with
       | zero => exact absurd HA.out (by simp [a0z.l0])
       | succ k2 =>
        have H := HA.out
        clear HA
        simp only [a0z.l0] at H
        by_cases c24 : x7_2 < (l1_4.length : Int)
        ·rw [if_pos c24] at H
         have c24b0 : decide (x7_2 < (l1_4.length : Int)) = true := decide_eq_true c24
         clear c24
         by_cases c25 : 0 ≤ x7_2
         ·rw [if_pos c25] at H
          have c25b0 : decide (0 ≤ x7_2) = true := decide_eq_true c25
          clear c25
          replace H := bm_ H
          obtain ⟨t406, A260, H⟩ := H
          replace H : ((a1o.f k2 l1_4 t406).bind fun t407 => (if t407 ≥ 0 then (if 0 ≤ t407 then (if t407 < (x6_2.length : Int) then ((a8p.f a0_0 a0_1 a0_2 a0_3 a0_4 ((a0a l1_4 x7_2).f0) ((a0a l1_4 x7_2).f1) ((a0a l1_4 x7_2).f2)).bind fun t410 => (a0z.l0 k2 (x6_2.set (t407 : Int).toNat (wrap64 ((rd x6_2 t407) + t410))) (wrap64 (x7_2 + 1)) a0_0 a0_1 a0_2 a0_3 a0_4 a1_0 a1_1 a1_2 l1_3 l1_4 l1_5)) else (none)) else (none)) else (a0z.l0 k2 x6_2 (wrap64 (x7_2 + 1)) a0_0 a0_1 a0_2 a0_3 a0_4 a1_0 a1_1 a1_2 l1_3 l1_4 l1_5))) = some (r1, r2) := H
          have A26 := am_ A260
          clear A260
          replace H := bm_ H
          obtain ⟨t407, A270, H⟩ := H
          replace H : (if t407 ≥ 0 then (if 0 ≤ t407 then (if t407 < (x6_2.length : Int) then ((a8p.f a0_0 a0_1 a0_2 a0_3 a0_4 ((a0a l1_4 x7_2).f0) ((a0a l1_4 x7_2).f1) ((a0a l1_4 x7_2).f2)).bind fun t410 => (a0z.l0 k2 (x6_2.set (t407 : Int).toNat (wrap64 ((rd x6_2 t407) + t410))) (wrap64 (x7_2 + 1)) a0_0 a0_1 a0_2 a0_3 a0_4 a1_0 a1_1 a1_2 l1_3 l1_4 l1_5)) else (none)) else (none)) else (a0z.l0 k2 x6_2 (wrap64 (x7_2 + 1)) a0_0 a0_1 a0_2 a0_3 a0_4 a1_0 a1_1 a1_2 l1_3 l1_4 l1_5)) = some (r1, r2) := H
          have A27 := am_ A270
          clear A270
          by_cases c28 : t407 ≥ 0
          ·rw [if_pos c28] at H
           have c28b0 : decide (0 ≤ t407) = true := decide_eq_true c28
           clear c28
           by_cases c29 : 0 ≤ t407
           ·rw [if_pos c29] at H
            have c29b0 : decide (0 ≤ t407) = true := decide_eq_true c29
            clear c29
            by_cases c30 : t407 < (x6_2.length : Int)
            ·rw [if_pos c30] at H
             have c30b0 : decide (t407 < (x6_2.length : Int)) = true := decide_eq_true c30
             clear c30
             replace H := bm_ H
             obtain ⟨t410, A310, H⟩ := H
             replace H : (a0z.l0 k2 (x6_2.set (t407 : Int).toNat (wrap64 ((rd x6_2 t407) + t410))) (wrap64 (x7_2 + 1)) a0_0 a0_1 a0_2 a0_3 a0_4 a1_0 a1_1 a1_2 l1_3 l1_4 l1_5) = some (r1, r2) := H
             have A31 := am_ A310
             clear A310
             obtain ⟨y411, hy411⟩ : ∃ y_ : List Int, y_ = (x6_2.set (t407 : Int).toNat (wrap64 ((rd x6_2 t407) + t410))) := ⟨_, rfl⟩
             replace H : (a0z.l0 k2 y411 (wrap64 (x7_2 + 1)) a0_0 a0_1 a0_2 a0_3 a0_4 a1_0 a1_1 a1_2 l1_3 l1_4 l1_5) = some (r1, r2) := by first | (rw [hy411]; with_reducible exact H) | (have H2_ := (Option.bind_some _ _).symm.trans H; rw [hy411]; with_reducible exact H2_) | (have H2_ := (Option.bind_some _ _).symm.trans H; with_reducible exact H2_) | with_reducible exact H | (rw [hy411]; exact H) | exact H
             have Ny411 := am_ hy411
             clear hy411
             have H' := am_ H
             clear H
             have hnb33 := NB399_398.out
             have hnc33 := NB398_399.out
             obtain ⟨z'34_0, z'34_1, z'34_2, z'34_3, z'34_4, z'34_5⟩ := qz6_ BK399; obtain ⟨y'34_0, y'34_1, y'34_2, y'34_3, y'34_4, y'34_5⟩ := qf6_ BK399
             try go_wp2
             replace HO_6 := am_ (Kd.a0x HO_6.out)
             replace BK398 := am_ (bd_ BK398.out)
             replace BK399 := am_ (bd_ BK399.out)
             replace HB := am_ (ld_ HB.out)
             have p405 : 0 ≤ (x7_2 : Int) := ot_
             have q405 : x7_2 < (l1_4.length : Int) := ot_
             obtain ⟨ad405, e405, hx405_0, hx405_1, hx405_2⟩ := a2d HR1_4.out x7_2 p405 q405
             have hw405_2 := hx405_2
             have hw405_1 := hx405_1
             have hw405_0 := hx405_0
             cases e405
             replace hx405_0 := qh_ HB hx405_0
             replace hx405_1 := qh_ HB hx405_1
             replace hx405_2 := qh_ HB hx405_2
             replace p405 := eq_true p405
             replace q405 := eq_true q405
             refine a4p (n := 11) (S := fun w' => w'.cell? ⟨gb399, 0, none⟩ = some (.int .i64 a1_0) ∧ w'.cell? ⟨gb399, 1, none⟩ = some (.int .i64 a1_1) ∧ w'.cell? ⟨gb399, 2, none⟩ = some (.int .i64 a1_2) ∧ w'.cell? ⟨gb399, 3, none⟩ = some (.slice A1_3 l1_3.length c1_3) ∧ w'.cell? ⟨gb399, 4, none⟩ = some (.slice (some ad405) l1_4.length c1_4) ∧ w'.cell? ⟨gb399, 5, none⟩ = some (.slice A1_5 l1_5.length c1_5) ∧ w'.cell? (ad405.add ((x7_2).toNat * 3)) = some (.int .i64 ((a0a l1_4 x7_2).f0)) ∧ w'.cell? ⟨(ad405.add ((x7_2).toNat * 3)).block, (ad405.add ((x7_2).toNat * 3)).off + 1, none⟩ = some (.int .i64 ((a0a l1_4 x7_2).f1)) ∧ w'.cell? ⟨(ad405.add ((x7_2).toNat * 3)).block, (ad405.add ((x7_2).toNat * 3)).off + 2, none⟩ = some (.int .i64 ((a0a l1_4 x7_2).f2))) (ds := []) #[i_,i_,i_,i_,i_,i_,i_,i_,i_,i_,i_] (by kernel_rfl) rfl rfl ⟨(bc_ BK399.out 0).trans rfl, (bc_ BK399.out 1).trans rfl, (bc_ BK399.out 2).trans rfl, (bc_ BK399.out 3).trans rfl, (bc_ BK399.out 4).trans rfl, (bc_ BK399.out 5).trans rfl, ((HB.out.cell (World.block_lt_of_cell? w _ hw405_0)).trans hw405_0), ((HB.out.cell (World.block_lt_of_cell? w _ hw405_1)).trans hw405_1), ((HB.out.cell (World.block_lt_of_cell? w _ hw405_2)).trans hw405_2)⟩ (fun hHeld => ?_); refine a3l a0z.tab7 a0z.a6i (fun HT_ HW_ => ?_)
             generalize wr.drew = w35 at HO_6 BK398 BK399 HB hx405_0 hx405_1 hx405_2 hHeld ⊢
             refine qpu_ 0 (some 28) #[o_,i_,i_,i_,i_,i_,i_,i_,i_,i_,i_] ?_
             refine qpu_ 3 (some 31) #[o_,i_,i_,o_,i_,i_,i_,i_,i_,i_,i_] ?_
             refine qpu_ 5 (some 33) #[o_,i_,i_,o_,i_,o_,i_,i_,i_,i_,i_] ?_
             refine a2m (i := 1) (N := some 29) (v := ?_) (a' := ?_) #[o_,o_,i_,o_,i_,o_,i_,i_,i_,i_,i_] rfl rfl (a1m HT_.out HW_.out (by kernel_rfl)) (fun _ _ _ h => h) (Or.inl ⟨by rfl, ?_⟩) hHeld ?_ ?_
             rotate_left
             ·rintro w' ⟨s0, s1, s2, s3, s4, s5, s6, s7, s8⟩
              go_simp
              with_reducible rfl
             rotate_left
             ·exact qp_
             refine a2m (i := 2) (N := some 30) (v := ?_) (a' := ?_) #[o_,o_,o_,o_,i_,o_,i_,i_,i_,i_,i_] rfl rfl (a1m HT_.out HW_.out (by kernel_rfl)) (fun _ _ _ h => h) (Or.inl ⟨by rfl, ?_⟩) hHeld ?_ ?_
             rotate_left
             ·rintro w' ⟨s0, s1, s2, s3, s4, s5, s6, s7, s8⟩
              go_simp
              with_reducible rfl
             rotate_left
             ·exact qp_
             refine a2m (i := 4) (N := some 32) (v := ?_) (a' := ?_) #[o_,o_,o_,o_,o_,o_,i_,i_,i_,i_,i_] rfl rfl (a1m HT_.out HW_.out (by kernel_rfl)) (fun _ _ _ h => h) (Or.inl ⟨by rfl, ?_⟩) hHeld ?_ ?_
             rotate_left
             ·rintro w' ⟨s0, s1, s2, s3, s4, s5, s6, s7, s8⟩
              go_simp
              with_reducible rfl
             rotate_left
             ·exact qp_
             refine qpu_ 6 (some 34) #[o_,o_,o_,o_,o_,o_,o_,i_,i_,i_,i_] ?_
             refine a2m (i := 7) (N := some 35) (v := ?_) (a' := ?_) #[o_,o_,o_,o_,o_,o_,o_,o_,i_,i_,i_] rfl rfl (a1m HT_.out HW_.out (by kernel_rfl)) (fun _ _ _ h => h) (Or.inl ⟨by rfl, ?_⟩) hHeld ?_ ?_
             rotate_left
             ·rintro w' ⟨s0, s1, s2, s3, s4, s5, s6, s7, s8⟩
              go_simp
              with_reducible rfl
             rotate_left
             ·exact qp_
             refine one_ (i := 8) (N := some 36) #[o_,o_,o_,o_,o_,o_,o_,o_,o_,i_,i_] rfl rfl (a3j HT_.out (by kernel_rfl)) (by decide) (fun K hK => ?_)
             refine a4h Try.func37 (by kernel_rfl) rfl #[.agg #[.int .i64 a1_0, .int .i64 a1_1, .int .i64 a1_2, .slice A1_3 l1_3.length c1_3, .slice (some ad405) l1_4.length c1_4, .slice A1_5 l1_5.length c1_5], .agg #[.int .i64 ((a0a l1_4 x7_2).f0), .int .i64 ((a0a l1_4 x7_2).f1), .int .i64 ((a0a l1_4 x7_2).f2)]] (by rfl) rfl rfl ql_ ?_
             with_reducible refine (a3t.calls k2 a1_0 a1_1 a1_2 _ _ l1_3 _ _ l1_4 _ _ l1_5 ((a0a l1_4 x7_2).f0) ((a0a l1_4 x7_2).f1) ((a0a l1_4 x7_2).f2) t406 _ ?s1 ?s2 ?s3 ?s4 ?s5 ?s6 A26.out).mono ?_
             (case s1 => exact qc_ HR1_3)
             (case s2 => exact HC1_3.out)
             (case s3 => exact qc_ HR1_4)
             (case s4 => exact HC1_4.out)
             (case s5 => exact qc_ HR1_5)
             (case s6 => exact HC1_5.out)
             rintro e w36 ⟨rfl, hb⟩
             refine ⟨_, rfl, ?_⟩
             replace HO_6 := qrb_ HO_6 hb
             replace BK398 := qkb_ BK398 hb
             replace BK399 := qkb_ BK399 hb
             replace HB := qbs_ hb
             (try clear hb)
             (try clear hb2)
             (try clear hk)
             (try clear hi)
             refine hK.out _ _ ⟨(bc_ BK399.out 0).trans rfl, (bc_ BK399.out 1).trans rfl, (bc_ BK399.out 2).trans rfl, (bc_ BK399.out 3).trans rfl, (bc_ BK399.out 4).trans rfl, (bc_ BK399.out 5).trans rfl, ((HB.out.cell (World.block_lt_of_cell? w _ hw405_0)).trans hw405_0), ((HB.out.cell (World.block_lt_of_cell? w _ hw405_1)).trans hw405_1), ((HB.out.cell (World.block_lt_of_cell? w _ hw405_2)).trans hw405_2)⟩ (fun hHeld => ?_)
             clear hK K
             refine a4b (a' := ?_) ?_ ?_
             rotate_left
             ·show Act.put _ (some 36) _ = _
              exact qp_
             refine one_ (i := 9) (N := some 37) #[o_,o_,o_,o_,o_,o_,o_,o_,o_,o_,i_] rfl rfl (a3j HT_.out (by kernel_rfl)) (by decide) (fun K hK => ?_)
             refine a4h Try.func36 (by kernel_rfl) rfl #[.slice (some ad405) l1_4.length c1_4, .int .i64 t406] (by rfl) rfl rfl ql_ ?_
             with_reducible refine (a1o.calls k2 _ _ l1_4 t406 t407 _ ?s1 ?s2 A27.out).mono ?_
             (case s1 => exact qc_ HR1_4)
             (case s2 => exact HC1_4.out)
             rintro e w' ⟨rfl, ⟨nd, rfl⟩⟩
             refine ⟨_, rfl, ?_⟩
             refine hK.out _ _ ⟨(bc_ BK399.out 0).trans rfl, (bc_ BK399.out 1).trans rfl, (bc_ BK399.out 2).trans rfl, (bc_ BK399.out 3).trans rfl, (bc_ BK399.out 4).trans rfl, (bc_ BK399.out 5).trans rfl, ((HB.out.cell (World.block_lt_of_cell? w _ hw405_0)).trans hw405_0), ((HB.out.cell (World.block_lt_of_cell? w _ hw405_1)).trans hw405_1), ((HB.out.cell (World.block_lt_of_cell? w _ hw405_2)).trans hw405_2)⟩ (fun hHeld => ?_)
             clear hK K
             refine a4b (a' := ?_) ?_ ?_
             rotate_left
             ·show Act.put _ (some 37) _ = _
              exact qp_
             refine qpu_ 10 (some 8) #[o_,o_,o_,o_,o_,o_,o_,o_,o_,o_,o_] ?_
             refine a4y (a4c HT_.out (by kernel_rfl)) ?_
             try go_wp2
             (try (rw [b3c w36]; generalize hq_ : World.drewN w36 _ = w36; replace HO_6 : Aside0 (Kd.R (Kd.int .i64) 3 w36 w.heap.size (fun _ => True) v403 x6_2) := ⟨by rw [← hq_]; exact (qr_ HO_6)⟩; replace BK398 : Aside0 (w36.heap[gb398]? = some (.cells #[.int .i64 a0_0, .int .i64 a0_1, .int .i64 a0_2, .int .i64 a0_3, .bool a0_4] 25 (0, 0))) := ⟨by rw [← hq_]; exact (qk_ BK398)⟩; replace BK399 : Aside0 (w36.heap[gb399]? = some (.cells #[.int .i64 a1_0, .int .i64 a1_1, .int .i64 a1_2, .slice A1_3 l1_3.length c1_3, .slice (some ad405) l1_4.length c1_4, .slice A1_5 l1_5.length c1_5] 30 (0, 0))) := ⟨by rw [← hq_]; exact (qk_ BK399)⟩; replace HB : Aside0 (Below w.heap.size w w36) := ⟨by rw [← hq_]; exact qb_⟩; clear hq_))
             replace HO_6 := am_ (Kd.a0x HO_6.out)
             replace BK398 := am_ (bd_ BK398.out)
             replace BK399 := am_ (bd_ BK399.out)
             replace HB := am_ (ld_ HB.out)
             obtain ⟨Ao38, co38, eo38⟩ := Kd.a1u HO_6.out
             (first | subst eo38 | (injection eo38 with f1_ f2_ f3_; have f4_ := f1_.symm; have f5_ := f3_.symm; clear f1_ f2_ f3_; subst f4_; subst f5_))
             have p408 : 0 ≤ (t407 : Int) := ot_
             have q408 : t407 < (x6_2.length : Int) := ot_
             obtain ⟨ad408, e408, hx408_0⟩ := Kd.a1w (Kd.a0r HO_6.out).2.2 t407 p408 q408
             cases e408
             replace p408 := eq_true p408
             replace q408 := eq_true q408
             have p409 : 0 ≤ (x7_2 : Int) := ot_
             have q409 : x7_2 < (l1_4.length : Int) := ot_
             obtain ⟨ad409, e409, hx409_0, hx409_1, hx409_2⟩ := a2d HR1_4.out x7_2 p409 q409
             have hw409_2 := hx409_2
             have hw409_1 := hx409_1
             have hw409_0 := hx409_0
             obtain rfl : ad405 = ad409 := (by injection e409)
             replace hx409_0 := qh_ HB hx409_0
             replace hx409_1 := qh_ HB hx409_1
             replace hx409_2 := qh_ HB hx409_2
             replace p409 := eq_true p409
             replace q409 := eq_true q409
             refine a4p (n := 16) (S := fun w' => w'.cell? ⟨gb398, 0, none⟩ = some (.int .i64 a0_0) ∧ w'.cell? ⟨gb398, 1, none⟩ = some (.int .i64 a0_1) ∧ w'.cell? ⟨gb398, 2, none⟩ = some (.int .i64 a0_2) ∧ w'.cell? ⟨gb398, 3, none⟩ = some (.int .i64 a0_3) ∧ w'.cell? ⟨gb398, 4, none⟩ = some (.bool a0_4) ∧ w'.cell? ⟨gb399, 0, none⟩ = some (.int .i64 a1_0) ∧ w'.cell? ⟨gb399, 1, none⟩ = some (.int .i64 a1_1) ∧ w'.cell? ⟨gb399, 2, none⟩ = some (.int .i64 a1_2) ∧ w'.cell? ⟨gb399, 3, none⟩ = some (.slice A1_3 l1_3.length c1_3) ∧ w'.cell? ⟨gb399, 4, none⟩ = some (.slice (some ad405) l1_4.length c1_4) ∧ w'.cell? ⟨gb399, 5, none⟩ = some (.slice A1_5 l1_5.length c1_5) ∧ w'.cell? (ad408.add (t407).toNat) = some (.int .i64 (rd x6_2 t407)) ∧ w'.cell? (ad405.add ((x7_2).toNat * 3)) = some (.int .i64 ((a0a l1_4 x7_2).f0)) ∧ w'.cell? ⟨(ad405.add ((x7_2).toNat * 3)).block, (ad405.add ((x7_2).toNat * 3)).off + 1, none⟩ = some (.int .i64 ((a0a l1_4 x7_2).f1)) ∧ w'.cell? ⟨(ad405.add ((x7_2).toNat * 3)).block, (ad405.add ((x7_2).toNat * 3)).off + 2, none⟩ = some (.int .i64 ((a0a l1_4 x7_2).f2))) (ds := [15]) #[i_,i_,i_,i_,i_,i_,i_,i_,i_,i_,i_,i_,i_,i_,i_,i_] (by kernel_rfl) rfl rfl ⟨(bc_ BK398.out 0).trans rfl, (bc_ BK398.out 1).trans rfl, (bc_ BK398.out 2).trans rfl, (bc_ BK398.out 3).trans rfl, (bc_ BK398.out 4).trans rfl, (bc_ BK399.out 0).trans rfl, (bc_ BK399.out 1).trans rfl, (bc_ BK399.out 2).trans rfl, (bc_ BK399.out 3).trans rfl, (bc_ BK399.out 4).trans rfl, (bc_ BK399.out 5).trans rfl, hx408_0, ((HB.out.cell (World.block_lt_of_cell? w _ hw409_0)).trans hw409_0), ((HB.out.cell (World.block_lt_of_cell? w _ hw409_1)).trans hw409_1), ((HB.out.cell (World.block_lt_of_cell? w _ hw409_2)).trans hw409_2)⟩ (fun hHeld => ?_); refine a3l a0z.tab9 a0z.b8n (fun HT_ HW_ => ?_)
             generalize w36.drew = w37 at HO_6 BK398 BK399 HB hx408_0 hx409_0 hx409_1 hx409_2 hHeld ⊢
             refine qpu_ 0 (some 40) #[o_,i_,i_,i_,i_,i_,i_,i_,i_,i_,i_,i_,i_,i_,i_,i_] ?_
             refine qpu_ 1 (some 41) #[o_,o_,i_,i_,i_,i_,i_,i_,i_,i_,i_,i_,i_,i_,i_,i_] ?_
             refine qpu_ 2 (some 42) #[o_,o_,o_,i_,i_,i_,i_,i_,i_,i_,i_,i_,i_,i_,i_,i_] ?_
             refine qpu_ 3 (some 43) #[o_,o_,o_,o_,i_,i_,i_,i_,i_,i_,i_,i_,i_,i_,i_,i_] ?_
             refine qpu_ 4 (some 44) #[o_,o_,o_,o_,o_,i_,i_,i_,i_,i_,i_,i_,i_,i_,i_,i_] ?_
             refine qpu_ 7 (some 47) #[o_,o_,o_,o_,o_,i_,i_,o_,i_,i_,i_,i_,i_,i_,i_,i_] ?_
             refine qpu_ 9 (some 49) #[o_,o_,o_,o_,o_,i_,i_,o_,i_,o_,i_,i_,i_,i_,i_,i_] ?_
             refine a2m (i := 5) (N := some 45) (v := ?_) (a' := ?_) #[o_,o_,o_,o_,o_,o_,i_,o_,i_,o_,i_,i_,i_,i_,i_,i_] rfl rfl (a1m HT_.out HW_.out (by kernel_rfl)) (fun _ _ _ h => h) (Or.inl ⟨by rfl, ?_⟩) hHeld ?_ ?_
             rotate_left
             ·rintro w' ⟨s0, s1, s2, s3, s4, s5, s6, s7, s8, s9, s10, s11, s12, s13, s14⟩
              go_simp
              with_reducible rfl
             rotate_left
             ·exact qp_
             refine a2m (i := 6) (N := some 46) (v := ?_) (a' := ?_) #[o_,o_,o_,o_,o_,o_,o_,o_,i_,o_,i_,i_,i_,i_,i_,i_] rfl rfl (a1m HT_.out HW_.out (by kernel_rfl)) (fun _ _ _ h => h) (Or.inl ⟨by rfl, ?_⟩) hHeld ?_ ?_
             rotate_left
             ·rintro w' ⟨s0, s1, s2, s3, s4, s5, s6, s7, s8, s9, s10, s11, s12, s13, s14⟩
              go_simp
              with_reducible rfl
             rotate_left
             ·exact qp_
             refine a2m (i := 8) (N := some 48) (v := ?_) (a' := ?_) #[o_,o_,o_,o_,o_,o_,o_,o_,o_,o_,i_,i_,i_,i_,i_,i_] rfl rfl (a1m HT_.out HW_.out (by kernel_rfl)) (fun _ _ _ h => h) (Or.inl ⟨by rfl, ?_⟩) hHeld ?_ ?_
             rotate_left
             ·rintro w' ⟨s0, s1, s2, s3, s4, s5, s6, s7, s8, s9, s10, s11, s12, s13, s14⟩
              go_simp
              with_reducible rfl
             rotate_left
             ·exact qp_
             refine qpu_ 10 (some 50) #[o_,o_,o_,o_,o_,o_,o_,o_,o_,o_,o_,i_,i_,i_,i_,i_] ?_
             refine a2m (i := 11) (N := some 51) (v := ?_) (a' := ?_) #[o_,o_,o_,o_,o_,o_,o_,o_,o_,o_,o_,o_,i_,i_,i_,i_] rfl rfl (a1m HT_.out HW_.out (by kernel_rfl)) (fun _ _ _ h => h) (Or.inl ⟨by rfl, ?_⟩) hHeld ?_ ?_
             rotate_left
             ·rintro w' ⟨s0, s1, s2, s3, s4, s5, s6, s7, s8, s9, s10, s11, s12, s13, s14⟩
              go_simp
              with_reducible rfl
             rotate_left
             ·exact qp_
             refine one_ (i := 12) (N := some 52) #[o_,o_,o_,o_,o_,o_,o_,o_,o_,o_,o_,o_,o_,i_,i_,i_] rfl rfl (a3j HT_.out (by kernel_rfl)) (by decide) (fun K hK => ?_)
             refine a4h Try.func38 (by kernel_rfl) rfl #[.agg #[.int .i64 a0_0, .int .i64 a0_1, .int .i64 a0_2, .int .i64 a0_3, .bool a0_4], .agg #[.int .i64 ((a0a l1_4 x7_2).f0), .int .i64 ((a0a l1_4 x7_2).f1), .int .i64 ((a0a l1_4 x7_2).f2)]] (by rfl) rfl rfl ql_ ?_
             with_reducible refine (a8p.calls a0_0 a0_1 a0_2 a0_3 a0_4 ((a0a l1_4 x7_2).f0) ((a0a l1_4 x7_2).f1) ((a0a l1_4 x7_2).f2) t410 _ A31.out).mono ?_
             rintro e w39 ⟨rfl, hb⟩
             have HS11_ := (hb.cell (World.block_lt_of_cell? _ _ (hHeld.2.2.2.2.2.2.2.2.2.2.2.1))).trans (hHeld.2.2.2.2.2.2.2.2.2.2.2.1)
             refine ⟨_, rfl, ?_⟩
             replace HO_6 := qrb_ HO_6 hb
             replace BK398 := qkb_ BK398 hb
             replace BK399 := qkb_ BK399 hb
             replace HB := qbs_ hb
             (try clear hb)
             (try clear hb2)
             (try clear hk)
             (try clear hi)
             have p32 : 0 ≤ (t407 : Int) := ot_
             have q32 : (t407 : Int) < ((x6_2.length : Int) : Int) := ot_
             obtain ⟨go32, co32, eo32, gb32, gl32, cl32, HG32⟩ := Kd.b1e HO_6.out (by omega)
             (first | cases eo32 | (injection eo32 with ea_ en_ ec_; (first | subst ea_ | (injection ea_ with ea_; subst ea_)); subst ec_; clear en_))
             have GB32 := am_ gb32
             have GG32 := am_ HG32
             clear gb32 gl32 HG32
             (first | simp only [add_plain] at hx408_0 | skip)
             obtain ⟨hx32_0, hf32_0⟩ := Kd.a9u 0 HO_6.out (t407 : Int) p32 q32
             replace p32 := eq_true p32
             replace q32 := eq_true q32
             have HP40 := Kd.b1g HO_6.out (t407 : Int) (wrap64 ((rd x6_2 t407) + t410))
             rw [← Ny411.out] at HP40
             have HQ40 := am_ HP40
             clear HP40
             refine hK.out _ _ ⟨(bc_ BK398.out 0).trans rfl, (bc_ BK398.out 1).trans rfl, (bc_ BK398.out 2).trans rfl, (bc_ BK398.out 3).trans rfl, (bc_ BK398.out 4).trans rfl, (bc_ BK399.out 0).trans rfl, (bc_ BK399.out 1).trans rfl, (bc_ BK399.out 2).trans rfl, (bc_ BK399.out 3).trans rfl, (bc_ BK399.out 4).trans rfl, (bc_ BK399.out 5).trans rfl, HS11_, ((HB.out.cell (World.block_lt_of_cell? w _ hw409_0)).trans hw409_0), ((HB.out.cell (World.block_lt_of_cell? w _ hw409_1)).trans hw409_1), ((HB.out.cell (World.block_lt_of_cell? w _ hw409_2)).trans hw409_2)⟩ (fun hHeld => ?_)
             clear hK K
             refine a4b (a' := ?_) ?_ ?_
             rotate_left
             ·show Act.put _ (some 52) _ = _
              exact qp_
             refine qpu_ 13 (some 53) #[o_,o_,o_,o_,o_,o_,o_,o_,o_,o_,o_,o_,o_,o_,i_,i_] ?_
             refine qpu_ 14 (some 54) #[o_,o_,o_,o_,o_,o_,o_,o_,o_,o_,o_,o_,o_,o_,o_,i_] ?_
             refine b2y (i := 15) (N := none) #[o_,o_,o_,o_,o_,o_,o_,o_,o_,o_,o_,o_,o_,o_,o_,o_] rfl rfl (a3j HT_.out (by kernel_rfl)) (by decide) (fun K hK => ?_)
             refine b2z (w1 := ?_) (by rfl) rfl ?_ ?_
             rotate_left
             ·go_simp
              rfl
             refine hK.out _ _ ?_
             clear hK K
             refine a4y (a4c HT_.out (by kernel_rfl)) ?_
             try go_wp2
             go_roundg k2
             case measure => have := HJ2.out; have := HK2.out; omega
             case rel => exact ⟨(y411), (wrap64 (x7_2 + 1)), qs_, H', ⟨by have := HJ2.out; have := HK2.out; omega⟩, ⟨by (with_reducible repeat (first | apply Kd.a1h | apply Kd.a1i | apply Kd.a0x)); exact HQ40.out⟩, ⟨by refine qd_ ?_; refine a0i ?_ (by have h_ := Kd.R_ne HO_6.out BK398.out (by decide); intro e_; exact h_ (by rw [e_]; rfl)) _; refine qd_ ?_; exact BK398.out⟩, ⟨by refine qd_ ?_; refine a0i ?_ (by have h_ := Kd.R_ne HO_6.out BK399.out (by decide); intro e_; exact h_ (by rw [e_]; rfl)) _; refine qd_ ?_; exact BK399.out⟩, ⟨by repeat (first | (with_reducible first | exact HB.out | apply la_ | apply ln_ | apply ld_ | refine ls_ ?_ GB32.out | refine ls_ ?_ GE398.out | refine ls_ ?_ GE399.out) | exact HB.out)⟩⟩
            ·rw [if_neg c30] at H
             exact absurd H (by simp)
           ·rw [if_neg c29] at H
            exact absurd H (by simp)
          ·rw [if_neg c28] at H
           have c28b0 : decide (0 ≤ t407) = false := decide_eq_false c28
           clear c28
           have H' := am_ H
           clear H
           have hnb41 := NB399_398.out
           have hnc41 := NB398_399.out
           obtain ⟨z'42_0, z'42_1, z'42_2, z'42_3, z'42_4, z'42_5⟩ := qz6_ BK399; obtain ⟨y'42_0, y'42_1, y'42_2, y'42_3, y'42_4, y'42_5⟩ := qf6_ BK399
           try go_wp2
           replace HO_6 := am_ (Kd.a0x HO_6.out)
           replace BK398 := am_ (bd_ BK398.out)
           replace BK399 := am_ (bd_ BK399.out)
           replace HB := am_ (ld_ HB.out)
           have p405 : 0 ≤ (x7_2 : Int) := ot_
           have q405 : x7_2 < (l1_4.length : Int) := ot_
           obtain ⟨ad405, e405, hx405_0, hx405_1, hx405_2⟩ := a2d HR1_4.out x7_2 p405 q405
           have hw405_2 := hx405_2
           have hw405_1 := hx405_1
           have hw405_0 := hx405_0
           cases e405
           replace hx405_0 := qh_ HB hx405_0
           replace hx405_1 := qh_ HB hx405_1
           replace hx405_2 := qh_ HB hx405_2
           replace p405 := eq_true p405
           replace q405 := eq_true q405
           refine a4p (n := 11) (S := fun w' => w'.cell? ⟨gb399, 0, none⟩ = some (.int .i64 a1_0) ∧ w'.cell? ⟨gb399, 1, none⟩ = some (.int .i64 a1_1) ∧ w'.cell? ⟨gb399, 2, none⟩ = some (.int .i64 a1_2) ∧ w'.cell? ⟨gb399, 3, none⟩ = some (.slice A1_3 l1_3.length c1_3) ∧ w'.cell? ⟨gb399, 4, none⟩ = some (.slice (some ad405) l1_4.length c1_4) ∧ w'.cell? ⟨gb399, 5, none⟩ = some (.slice A1_5 l1_5.length c1_5) ∧ w'.cell? (ad405.add ((x7_2).toNat * 3)) = some (.int .i64 ((a0a l1_4 x7_2).f0)) ∧ w'.cell? ⟨(ad405.add ((x7_2).toNat * 3)).block, (ad405.add ((x7_2).toNat * 3)).off + 1, none⟩ = some (.int .i64 ((a0a l1_4 x7_2).f1)) ∧ w'.cell? ⟨(ad405.add ((x7_2).toNat * 3)).block, (ad405.add ((x7_2).toNat * 3)).off + 2, none⟩ = some (.int .i64 ((a0a l1_4 x7_2).f2))) (ds := []) #[i_,i_,i_,i_,i_,i_,i_,i_,i_,i_,i_] (by kernel_rfl) rfl rfl ⟨(bc_ BK399.out 0).trans rfl, (bc_ BK399.out 1).trans rfl, (bc_ BK399.out 2).trans rfl, (bc_ BK399.out 3).trans rfl, (bc_ BK399.out 4).trans rfl, (bc_ BK399.out 5).trans rfl, ((HB.out.cell (World.block_lt_of_cell? w _ hw405_0)).trans hw405_0), ((HB.out.cell (World.block_lt_of_cell? w _ hw405_1)).trans hw405_1), ((HB.out.cell (World.block_lt_of_cell? w _ hw405_2)).trans hw405_2)⟩ (fun hHeld => ?_); refine a3l a0z.tab7 a0z.a6i (fun HT_ HW_ => ?_)
           generalize wr.drew = w43 at HO_6 BK398 BK399 HB hx405_0 hx405_1 hx405_2 hHeld ⊢
           refine qpu_ 0 (some 28) #[o_,i_,i_,i_,i_,i_,i_,i_,i_,i_,i_] ?_
           refine qpu_ 3 (some 31) #[o_,i_,i_,o_,i_,i_,i_,i_,i_,i_,i_] ?_
           refine qpu_ 5 (some 33) #[o_,i_,i_,o_,i_,o_,i_,i_,i_,i_,i_] ?_
           refine a2m (i := 1) (N := some 29) (v := ?_) (a' := ?_) #[o_,o_,i_,o_,i_,o_,i_,i_,i_,i_,i_] rfl rfl (a1m HT_.out HW_.out (by kernel_rfl)) (fun _ _ _ h => h) (Or.inl ⟨by rfl, ?_⟩) hHeld ?_ ?_
           rotate_left
           ·rintro w' ⟨s0, s1, s2, s3, s4, s5, s6, s7, s8⟩
            go_simp
            with_reducible rfl
           rotate_left
           ·exact qp_
           refine a2m (i := 2) (N := some 30) (v := ?_) (a' := ?_) #[o_,o_,o_,o_,i_,o_,i_,i_,i_,i_,i_] rfl rfl (a1m HT_.out HW_.out (by kernel_rfl)) (fun _ _ _ h => h) (Or.inl ⟨by rfl, ?_⟩) hHeld ?_ ?_
           rotate_left
           ·rintro w' ⟨s0, s1, s2, s3, s4, s5, s6, s7, s8⟩
            go_simp
            with_reducible rfl
           rotate_left
           ·exact qp_
           refine a2m (i := 4) (N := some 32) (v := ?_) (a' := ?_) #[o_,o_,o_,o_,o_,o_,i_,i_,i_,i_,i_] rfl rfl (a1m HT_.out HW_.out (by kernel_rfl)) (fun _ _ _ h => h) (Or.inl ⟨by rfl, ?_⟩) hHeld ?_ ?_
           rotate_left
           ·rintro w' ⟨s0, s1, s2, s3, s4, s5, s6, s7, s8⟩
            go_simp
            with_reducible rfl
           rotate_left
           ·exact qp_
           refine qpu_ 6 (some 34) #[o_,o_,o_,o_,o_,o_,o_,i_,i_,i_,i_] ?_
           refine a2m (i := 7) (N := some 35) (v := ?_) (a' := ?_) #[o_,o_,o_,o_,o_,o_,o_,o_,i_,i_,i_] rfl rfl (a1m HT_.out HW_.out (by kernel_rfl)) (fun _ _ _ h => h) (Or.inl ⟨by rfl, ?_⟩) hHeld ?_ ?_
           rotate_left
           ·rintro w' ⟨s0, s1, s2, s3, s4, s5, s6, s7, s8⟩
            go_simp
            with_reducible rfl
           rotate_left
           ·exact qp_
           refine one_ (i := 8) (N := some 36) #[o_,o_,o_,o_,o_,o_,o_,o_,o_,i_,i_] rfl rfl (a3j HT_.out (by kernel_rfl)) (by decide) (fun K hK => ?_)
           refine a4h Try.func37 (by kernel_rfl) rfl #[.agg #[.int .i64 a1_0, .int .i64 a1_1, .int .i64 a1_2, .slice A1_3 l1_3.length c1_3, .slice (some ad405) l1_4.length c1_4, .slice A1_5 l1_5.length c1_5], .agg #[.int .i64 ((a0a l1_4 x7_2).f0), .int .i64 ((a0a l1_4 x7_2).f1), .int .i64 ((a0a l1_4 x7_2).f2)]] (by rfl) rfl rfl ql_ ?_
           with_reducible refine (a3t.calls k2 a1_0 a1_1 a1_2 _ _ l1_3 _ _ l1_4 _ _ l1_5 ((a0a l1_4 x7_2).f0) ((a0a l1_4 x7_2).f1) ((a0a l1_4 x7_2).f2) t406 _ ?s1 ?s2 ?s3 ?s4 ?s5 ?s6 A26.out).mono ?_
           (case s1 => exact qc_ HR1_3)
           (case s2 => exact HC1_3.out)
           (case s3 => exact qc_ HR1_4)
           (case s4 => exact HC1_4.out)
           (case s5 => exact qc_ HR1_5)
           (case s6 => exact HC1_5.out)
           rintro e w44 ⟨rfl, hb⟩
           refine ⟨_, rfl, ?_⟩
           replace HO_6 := qrb_ HO_6 hb
           replace BK398 := qkb_ BK398 hb
           replace BK399 := qkb_ BK399 hb
           replace HB := qbs_ hb
           (try clear hb)
           (try clear hb2)
           (try clear hk)
           (try clear hi)
           refine hK.out _ _ ⟨(bc_ BK399.out 0).trans rfl, (bc_ BK399.out 1).trans rfl, (bc_ BK399.out 2).trans rfl, (bc_ BK399.out 3).trans rfl, (bc_ BK399.out 4).trans rfl, (bc_ BK399.out 5).trans rfl, ((HB.out.cell (World.block_lt_of_cell? w _ hw405_0)).trans hw405_0), ((HB.out.cell (World.block_lt_of_cell? w _ hw405_1)).trans hw405_1), ((HB.out.cell (World.block_lt_of_cell? w _ hw405_2)).trans hw405_2)⟩ (fun hHeld => ?_)
           clear hK K
           refine a4b (a' := ?_) ?_ ?_
           rotate_left
           ·show Act.put _ (some 36) _ = _
            exact qp_
           refine one_ (i := 9) (N := some 37) #[o_,o_,o_,o_,o_,o_,o_,o_,o_,o_,i_] rfl rfl (a3j HT_.out (by kernel_rfl)) (by decide) (fun K hK => ?_)
           refine a4h Try.func36 (by kernel_rfl) rfl #[.slice (some ad405) l1_4.length c1_4, .int .i64 t406] (by rfl) rfl rfl ql_ ?_
           with_reducible refine (a1o.calls k2 _ _ l1_4 t406 t407 _ ?s1 ?s2 A27.out).mono ?_
           (case s1 => exact qc_ HR1_4)
           (case s2 => exact HC1_4.out)
           rintro e w' ⟨rfl, ⟨nd, rfl⟩⟩
           refine ⟨_, rfl, ?_⟩
           refine hK.out _ _ ⟨(bc_ BK399.out 0).trans rfl, (bc_ BK399.out 1).trans rfl, (bc_ BK399.out 2).trans rfl, (bc_ BK399.out 3).trans rfl, (bc_ BK399.out 4).trans rfl, (bc_ BK399.out 5).trans rfl, ((HB.out.cell (World.block_lt_of_cell? w _ hw405_0)).trans hw405_0), ((HB.out.cell (World.block_lt_of_cell? w _ hw405_1)).trans hw405_1), ((HB.out.cell (World.block_lt_of_cell? w _ hw405_2)).trans hw405_2)⟩ (fun hHeld => ?_)
           clear hK K
           refine a4b (a' := ?_) ?_ ?_
           rotate_left
           ·show Act.put _ (some 37) _ = _
            exact qp_
           refine qpu_ 10 (some 8) #[o_,o_,o_,o_,o_,o_,o_,o_,o_,o_,o_] ?_
           refine a4y (a4c HT_.out (by kernel_rfl)) ?_
           try go_wp2
           go_roundg k2
           case measure => have := HJ2.out; have := HK2.out; omega
           case rel => exact ⟨(x6_2), (wrap64 (x7_2 + 1)), qs_, H', ⟨by have := HJ2.out; have := HK2.out; omega⟩, ⟨by (with_reducible repeat (first | apply Kd.a1h | apply Kd.a1i | apply Kd.a0x)); exact HO_6.out⟩, ⟨qk_ BK398⟩, ⟨qk_ BK399⟩, ⟨qb_⟩⟩
         ·rw [if_neg c25] at H
          exact absurd H (by simp)
        ·rw [if_neg c24] at H
         have c24b0 : decide (x7_2 < (l1_4.length : Int)) = false := decide_eq_false c24
         clear c24
         simp only [Option.some.injEq, Prod.mk.injEq] at H
         obtain ⟨rfl, rfl⟩ := H
         have hnb45 := NB399_398.out
         have hnc45 := NB398_399.out
         obtain ⟨z'46_0, z'46_1, z'46_2, z'46_3, z'46_4, z'46_5⟩ := qz6_ BK399; obtain ⟨y'46_0, y'46_1, y'46_2, y'46_3, y'46_4, y'46_5⟩ := qf6_ BK399
         go_wp2
         go_ret2
         exact ⟨_, qx_, by (with_reducible repeat (first | apply Kd.a1h | apply Kd.a1i | apply Kd.a0x)); exact HO_6.out, qb_⟩
     ·rw [if_neg c19] at H
      exact absurd H (by simp)
    ·rw [if_neg c18] at H
     exact absurd H (by simp)
end Go.Proofs.Ytemnlgefngjliaa.Px
