/- Contracts of Go functions, printed. Conditions: as each theorem states. -/
import Derived.Test.YtemnlgefngjliaaPx0
import Derived.Test.YtemnlgefngjliaaPx5
import Derived.Test.YtemnlgefngjliaaPx6
namespace Go.Proofs.Ytemnlgefngjliaa.Px
open Go.Proofs.Ytemnlgefngjliaa.Given
open Go.RowKit Go.Proofs.YtemnlgefngjliaaW.PrintWords Go.Proofs.YtemnlgefngjliaaW.PrintLast Go.Proofs.YtemnlgefngjliaaW.PrintMore
attribute [local go_sem] a2f a2g a2r a2s a1x a1y a2h a2i
set_option linter.unusedVariables false
set_option linter.unusedSimpArgs false
def a1b.l0 : Nat → List Int → List (S43) → Int → Int → Int → Int → Int → Int → Bool → Int → Int → Int → List ByteArray → List (S43) → List Int → ByteArray → List Int → Option (List Int)
 | 0, _, _, _, _, _, _, _, _, _, _, _, _, _, _, _, _, _ => none
 | k + 1, x5, x17, x18, x19, u0, u1, u2, u3, u4, u5, u6, u7, u8, u9, u10, u11, u12 => if x19 < x18 then (if 0 ≤ x19 then (if x19 < (x17.length : Int) then ((Mhby.f k u0 u1 u2 u3 u4 u5 u6 u7 u8 u9 u10 u11 u12 x19).bind fun bt180 => (if bt180.2 = true then (if 0 ≤ bt180.1 then (if bt180.1 < (x5.length : Int) then ((a7w.f ((a0a x17 x19).f0) ((a0a x17 x19).f1) ((a0a x17 x19).f2)).bind fun t183 => (a1b.l0 k (x5.set (bt180.1 : Int).toNat (wrap64 ((rd x5 bt180.1) + t183))) x17 x18 (wrap64 (x19 + 1)) u0 u1 u2 u3 u4 u5 u6 u7 u8 u9 u10 u11 u12)) else (none)) else (none)) else (a1b.l0 k x5 x17 x18 (wrap64 (x19 + 1)) u0 u1 u2 u3 u4 u5 u6 u7 u8 u9 u10 u11 u12))) else (none)) else (none)) else (some x5)
def a1b.f (k : Nat) (a0_0 a0_1 a0_2 a0_3 : Int) (a0_4 : Bool) (a0_5 a0_6 a0_7 : Int) (l0_8 : List ByteArray) (l0_9 : List (S43)) (l0_10 : List Int) (a0_11 : ByteArray) (l0_12 : List Int)  : Option (List Int) := if 0 ≤ (l0_9.length : Int) then (if ((l0_9.length : Int) : Int).toNat ≤ 35184372088832 then (a1b.l0 k (List.replicate ((l0_9.length : Int) : Int).toNat 0) l0_9 (l0_9.length : Int) 0 a0_0 a0_1 a0_2 a0_3 a0_4 a0_5 a0_6 a0_7 l0_8 l0_9 l0_10 a0_11 l0_12) else (none)) else (none)
theorem a1b.a0t : ∀ k, (∀ y0 y1 y2 y3 y4 y5 y6 y7 y8 y9 y10 y11 y12 y13 y14 y15 y16, LeO (a1b.l0 k y0 y1 y2 y3 y4 y5 y6 y7 y8 y9 y10 y11 y12 y13 y14 y15 y16) (a1b.l0 (k + 1) y0 y1 y2 y3 y4 y5 y6 y7 y8 y9 y10 y11 y12 y13 y14 y15 y16))
 | 0 => fun _ _ _ _ _ _ _ _ _ _ _ _ _ _ _ _ _ r h => by simp [a1b.l0] at h
 | k + 1 => by
  have ih0 := a1b.a0t k
  ·intro y0 y1 y2 y3 y4 y5 y6 y7 y8 y9 y10 y11 y12 y13 y14 y15 y16
   unfold a1b.l0
   with_reducible (repeat' first | apply ih0 | apply Mhby.mono | apply LeO.refl | apply LeO.none | apply LeO.ite | refine LeO.bind ?_ (fun _ => ?_))
theorem a1b.mono : ∀ a0 a1 a2 a3 a4 a5 a6 a7 a8 a9 a10 a11 a12 k, LeO (a1b.f k a0 a1 a2 a3 a4 a5 a6 a7 a8 a9 a10 a11 a12) (a1b.f (k + 1) a0 a1 a2 a3 a4 a5 a6 a7 a8 a9 a10 a11 a12) := by
 intro a0 a1 a2 a3 a4 a5 a6 a7 a8 a9 a10 a11 a12 k
 have ih0 := a1b.a0t k
 unfold a1b.f
 with_reducible (repeat' first | apply ih0 | apply Mhby.mono | apply LeO.refl | apply LeO.none | apply LeO.ite | refine LeO.bind ?_ (fun _ => ?_))
def a1b.T7 : Bool × List (List Nat × List Nat) := (true, [([], []), ([], []), ([0, 1], [0, 1]), ([2], [2]), ([], []), ([], []), ([4, 5], [4, 5]), ([3, 6], [3, 6]), ([0, 1, 0, 1, 2, 3, 4, 5, 6, 7], [0, 1]), ([8, 7, 6, 0, 1, 2, 3, 4, 5, 6, 7], [7, 8])])
def a1b.B7 : List Nat := [0, 0, 3, 7, 0, 0, 48, 127, 255, 511]
theorem a1b.tab7 : rtab .any (opsOf Try.f32 7) = a1b.T7 := by kernel_rfl
theorem a1b.a9m : a4z a1b.T7.2 a1b.B7 = true := by kernel_rfl
set_option maxHeartbeats 8000000 in
set_option maxRecDepth 100000 in
theorem a1b.calls (k : Nat) (a0_0 a0_1 a0_2 a0_3 : Int) (a0_4 : Bool) (a0_5 a0_6 a0_7 : Int) (A0_8 : Option Addr) (c0_8 : Nat) (l0_8 : List ByteArray) (A0_9 : Option Addr) (c0_9 : Nat) (l0_9 : List (S43)) (A0_10 : Option Addr) (c0_10 : Nat) (l0_10 : List Int) (a0_11 : ByteArray) (A0_12 : Option Addr) (c0_12 : Nat) (l0_12 : List Int)  (r : List Int) (w : World) (hr0_8 : Kd.C Kd.string w A0_8 l0_8.length l0_8) (hc0_8 : l0_8.length ≤ c0_8) (hr0_9 : Kd.C k43 w A0_9 l0_9.length l0_9) (hc0_9 : l0_9.length ≤ c0_9) (hr0_10 : Kd.C (Kd.int .i64) w A0_10 l0_10.length l0_10) (hc0_10 : l0_10.length ≤ c0_10) (hr0_12 : Kd.C (Kd.int .i64) w A0_12 l0_12.length l0_12) (hc0_12 : l0_12.length ≤ c0_12) (h : a1b.f k a0_0 a0_1 a0_2 a0_3 a0_4 a0_5 a0_6 a0_7 l0_8 l0_9 l0_10 a0_11 l0_12 = some r) :
  Calls Try.prog 32 #[.agg #[.int .i64 a0_0, .int .i64 a0_1, .int .i64 a0_2, .int .i64 a0_3, .bool a0_4, .int .i64 a0_5, .int .i64 a0_6, .int .i64 a0_7, .slice A0_8 l0_8.length c0_8, .slice A0_9 l0_9.length c0_9, .slice A0_10 l0_10.length c0_10, .string a0_11, .slice A0_12 l0_12.length c0_12], .func (.func 33) #[] #[]] w fun e w' => ∃ v0_ : Value, e = .returned (v0_) ∧ Kd.R (Kd.int .i64) 3 w' w.heap.size (fun _ => True) v0_ r ∧ Below w.heap.size w w' := by
 have hu62 := Try.underlying62
 have hu43 := Try.underlying43
 have HR0_8 := am_ hr0_8
 have HC0_8 := am_ hc0_8
 clear hr0_8 hc0_8
 have HR0_9 := am_ hr0_9
 have HC0_9 := am_ hc0_9
 clear hr0_9 hc0_9
 have HR0_10 := am_ hr0_10
 have HC0_10 := am_ hc0_10
 clear hr0_10 hc0_10
 have HR0_12 := am_ hr0_12
 have HC0_12 := am_ hc0_12
 clear hr0_12 hc0_12
 have HB := am_ (Below.refl w.heap.size w)
 have H : (if 0 ≤ (l0_9.length : Int) then (if ((l0_9.length : Int) : Int).toNat ≤ 35184372088832 then (a1b.l0 k (List.replicate ((l0_9.length : Int) : Int).toNat 0) l0_9 (l0_9.length : Int) 0 a0_0 a0_1 a0_2 a0_3 a0_4 a0_5 a0_6 a0_7 l0_8 l0_9 l0_10 a0_11 l0_12) else (none)) else (none)) = some r := h
 clear h
 by_cases c3 : 0 ≤ (l0_9.length : Int)
 ·rw [if_pos c3] at H
  have c3b0 := eq_true c3
  have c3b1 : decide (0 ≤ (l0_9.length : Int)) = true := decide_eq_true c3
  clear c3
  by_cases c4 : ((l0_9.length : Int) : Int).toNat ≤ 35184372088832
  ·rw [if_pos c4] at H
   have c4b0 := eq_true c4
   have c4b1 : decide (((l0_9.length : Int) : Int).toNat ≤ 35184372088832) = true := decide_eq_true c4
   clear c4
   obtain ⟨y175, hy175⟩ : ∃ y_ : List Int, y_ = (List.replicate ((l0_9.length : Int) : Int).toNat 0) := ⟨_, rfl⟩
   replace H : (a1b.l0 k y175 l0_9 (l0_9.length : Int) 0 a0_0 a0_1 a0_2 a0_3 a0_4 a0_5 a0_6 a0_7 l0_8 l0_9 l0_10 a0_11 l0_12) = some r := by first | (rw [hy175]; with_reducible exact H) | (have H2_ := (Option.bind_some _ _).symm.trans H; rw [hy175]; with_reducible exact H2_) | (have H2_ := (Option.bind_some _ _).symm.trans H; with_reducible exact H2_) | with_reducible exact H | (rw [hy175]; exact H) | exact H
   have Ny175 := am_ hy175
   clear hy175
   have H' := am_ H
   clear H
   go_enter Try.func32, Try.ntmps32
   go_wp2_with (first | ((with_reducible refine a0f (N := 2) rfl ?_); refine qev_ 2 #[.int .i64 a0_0, .int .i64 a0_1, .int .i64 a0_2, .int .i64 a0_3, .bool a0_4, .int .i64 a0_5, .int .i64 a0_6, .int .i64 a0_7, .slice A0_8 l0_8.length c0_8, .slice A0_9 l0_9.length c0_9, .slice A0_10 l0_10.length c0_10, .string a0_11, .slice A0_12 l0_12.length c0_12] 62 ?_; intro gb174 hg w5 hbox hb; have BK174 := am_ (hbox); have GW174 := qga_ hg; have GE174 := qga_ hg; replace HB := qbs_ hb; clear hb hbox hg; obtain ⟨z'6_0, z'6_1, z'6_2, z'6_3, z'6_4, z'6_5, z'6_6, z'6_7, z'6_8, z'6_9, z'6_10, z'6_11, z'6_12⟩ := a1u BK174; obtain ⟨y'6_0, y'6_1, y'6_2, y'6_3, y'6_4, y'6_5, y'6_6, y'6_7, y'6_8, y'6_9, y'6_10, y'6_11, y'6_12⟩ := a1v BK174) | ((with_reducible refine a0f (N := 14) rfl ?_); refine Kd.b3v (Kd.int .i64) _ 3 rfl (N := 14) rfl 28 _ _ rfl (l0_9.length : Int) rfl rfl Try.underlying28 (.int .i64 0) 8 info3 rfl (by decide) (by omega) 0 (ok := fun _ => True) (okp := fun _ => True) rfl (fun _ hk => hk) trivial (ot_) (Nat.le_trans (Nat.mul_le_mul_right _ (ot_ : (l0_9.length : Int).toNat ≤ 35184372088832)) (by omega)) (Below.refl _ _) (Nat.le_refl _) ?_; intro v176 w7 ho8 hb hg_ hnew_; clear hg_ hnew_; (first | rw [← Ny175.out] at ho8 | (simp only [Int.reduceToNat] at ho8; rw [← Ny175.out] at ho8)); have HO177 := am_ (Kd.a2d ho8 (a0x qb_)); replace BK174 := qkb_ BK174 hb; replace HB := qbs_ hb; clear hb ho8; obtain ⟨z'9_0, z'9_1, z'9_2, z'9_3, z'9_4, z'9_5, z'9_6, z'9_7, z'9_8, z'9_9, z'9_10, z'9_11, z'9_12⟩ := a1u BK174; obtain ⟨y'9_0, y'9_1, y'9_2, y'9_3, y'9_4, y'9_5, y'9_6, y'9_7, y'9_8, y'9_9, y'9_10, y'9_11, y'9_12⟩ := a1v BK174))
   go_loopg [19] k (fun kq v19 w' => ∃ (x5_1 : List Int) (x19_1 : Int), v19 = .int .i64 x19_1 ∧ Aside0 (a1b.l0 kq x5_1 l0_9 (l0_9.length : Int) x19_1 a0_0 a0_1 a0_2 a0_3 a0_4 a0_5 a0_6 a0_7 l0_8 l0_9 l0_10 a0_11 l0_12 = some r) ∧ Aside0 (kq ≤ k) ∧ Aside0 (Kd.R (Kd.int .i64) 3 w' w.heap.size (fun _ => True) v176 x5_1) ∧ Aside0 (w'.heap[gb174]? = some (.cells #[.int .i64 a0_0, .int .i64 a0_1, .int .i64 a0_2, .int .i64 a0_3, .bool a0_4, .int .i64 a0_5, .int .i64 a0_6, .int .i64 a0_7, (.slice A0_8 l0_8.length c0_8), (.slice A0_9 l0_9.length c0_9), (.slice A0_10 l0_10.length c0_10), .string a0_11, (.slice A0_12 l0_12.length c0_12)] 62 (0, 0))) ∧ Aside0 (Below w.heap.size w w'))
   case atStart => exact ⟨(y175), (0), qs_, H', ⟨Nat.le_refl _⟩, ⟨by (with_reducible repeat (first | apply Kd.a1e | apply Kd.a1f | apply Kd.a0y)); exact HO177.out⟩, ⟨qk_ BK174⟩, ⟨qb_⟩⟩
   case round =>
    clear H'
    try clear p2
    try clear c3
    try clear c3b0
    try clear c3b1
    try clear c4
    try clear c4b0
    try clear c4b1
    try clear c9
    try clear z'6_0 z'6_1 z'6_10 z'6_11 z'6_12 z'6_2 z'6_3 z'6_4 z'6_5 z'6_6 z'6_7 z'6_8 z'6_9
    try clear z'9_0 z'9_1 z'9_10 z'9_11 z'9_12 z'9_2 z'9_3 z'9_4 z'9_5 z'9_6 z'9_7 z'9_8 z'9_9
    try clear y'6_0 y'6_1 y'6_10 y'6_11 y'6_12 y'6_2 y'6_3 y'6_4 y'6_5 y'6_6 y'6_7 y'6_8 y'6_9
    try clear y'9_0 y'9_1 y'9_10 y'9_11 y'9_12 y'9_2 y'9_3 y'9_4 y'9_5 y'9_6 y'9_7 y'9_8 y'9_9
    obtain ⟨x5_1, x19_1, rfl, HA, HK1, HO_5, BK174, HB⟩ := hrel
    cases gk with
    | zero => exact absurd HA.out (by simp [a1b.l0])
    | succ k1 =>
     have H := HA.out
     clear HA
     simp only [a1b.l0] at H
     by_cases c10 : x19_1 < (l0_9.length : Int)
     ·rw [if_pos c10] at H
      have c10b0 : decide (x19_1 < (l0_9.length : Int)) = true := decide_eq_true c10
      clear c10
      by_cases c11 : 0 ≤ x19_1
      ·rw [if_pos c11] at H
       have c11b0 : decide (0 ≤ x19_1) = true := decide_eq_true c11
       clear c11
       by_cases c12 : x19_1 < (l0_9.length : Int)
       ·rw [if_pos c12] at H
        have c12b0 : decide (x19_1 < (l0_9.length : Int)) = true := decide_eq_true c12
        clear c12
        replace H := bm_ H
        obtain ⟨⟨t180, t181⟩, A130, H⟩ := H
        replace H : (if t181 = true then (if 0 ≤ t180 then (if t180 < (x5_1.length : Int) then ((a7w.f ((a0a l0_9 x19_1).f0) ((a0a l0_9 x19_1).f1) ((a0a l0_9 x19_1).f2)).bind fun t183 => (a1b.l0 k1 (x5_1.set (t180 : Int).toNat (wrap64 ((rd x5_1 t180) + t183))) l0_9 (l0_9.length : Int) (wrap64 (x19_1 + 1)) a0_0 a0_1 a0_2 a0_3 a0_4 a0_5 a0_6 a0_7 l0_8 l0_9 l0_10 a0_11 l0_12)) else (none)) else (none)) else (a1b.l0 k1 x5_1 l0_9 (l0_9.length : Int) (wrap64 (x19_1 + 1)) a0_0 a0_1 a0_2 a0_3 a0_4 a0_5 a0_6 a0_7 l0_8 l0_9 l0_10 a0_11 l0_12)) = some r := H
        have A13 := am_ A130
        clear A130
        by_cases c14 : t181 = true
        ·subst c14
         have H1 : (if 0 ≤ t180 then (if t180 < (x5_1.length : Int) then ((a7w.f ((a0a l0_9 x19_1).f0) ((a0a l0_9 x19_1).f1) ((a0a l0_9 x19_1).f2)).bind fun t183 => (a1b.l0 k1 (x5_1.set (t180 : Int).toNat (wrap64 ((rd x5_1 t180) + t183))) l0_9 (l0_9.length : Int) (wrap64 (x19_1 + 1)) a0_0 a0_1 a0_2 a0_3 a0_4 a0_5 a0_6 a0_7 l0_8 l0_9 l0_10 a0_11 l0_12)) else (none)) else (none)) = some r := by rw [if_pos rfl] at H; exact H
         clear H
         have H := H1
         clear H1
         by_cases c15 : 0 ≤ t180
         ·rw [if_pos c15] at H
          have c15b0 : decide (0 ≤ t180) = true := decide_eq_true c15
          clear c15
          by_cases c16 : t180 < (x5_1.length : Int)
          ·rw [if_pos c16] at H
           have c16b0 : decide (t180 < (x5_1.length : Int)) = true := decide_eq_true c16
           clear c16
           replace H := bm_ H
           obtain ⟨t183, A170, H⟩ := H
           replace H : (a1b.l0 k1 (x5_1.set (t180 : Int).toNat (wrap64 ((rd x5_1 t180) + t183))) l0_9 (l0_9.length : Int) (wrap64 (x19_1 + 1)) a0_0 a0_1 a0_2 a0_3 a0_4 a0_5 a0_6 a0_7 l0_8 l0_9 l0_10 a0_11 l0_12) = some r := H
           have A17 := am_ A170
           clear A170
           obtain ⟨y184, hy184⟩ : ∃ y_ : List Int, y_ = (x5_1.set (t180 : Int).toNat (wrap64 ((rd x5_1 t180) + t183))) := ⟨_, rfl⟩
           replace H : (a1b.l0 k1 y184 l0_9 (l0_9.length : Int) (wrap64 (x19_1 + 1)) a0_0 a0_1 a0_2 a0_3 a0_4 a0_5 a0_6 a0_7 l0_8 l0_9 l0_10 a0_11 l0_12) = some r := by first | (rw [hy184]; with_reducible exact H) | (have H2_ := (Option.bind_some _ _).symm.trans H; rw [hy184]; with_reducible exact H2_) | (have H2_ := (Option.bind_some _ _).symm.trans H; with_reducible exact H2_) | with_reducible exact H | (rw [hy184]; exact H) | exact H
           have Ny184 := am_ hy184
           clear hy184
           have H' := am_ H
           clear H
           have p178 : 0 ≤ (x19_1 : Int) := ot_
           have q178 : x19_1 < (l0_9.length : Int) := ot_
           obtain ⟨ad178, e178, hx178_0, hx178_1, hx178_2⟩ := a2p HR0_9.out x19_1 p178 q178
           cases e178
           replace hx178_0 := qh_ HB hx178_0
           replace hx178_1 := qh_ HB hx178_1
           replace hx178_2 := qh_ HB hx178_2
           replace p178 := eq_true p178
           replace q178 := eq_true q178
           try go_wp2_with (first | ((with_reducible refine a0f (N := 7) rfl ?_); refine qev_ 7 #[.int .i64 0, .int .i64 0, .int .i64 0] 43 ?_; intro gb179 hg w19 hbox hb; replace HO_5 := qrb_ HO_5 hb; have BK179 := am_ (hbox); have GW179 := qga_ hg; have GE179 := qga_ hg; replace HB := qbs_ hb; have NB174_179 := am_ ((by rw [hg]; exact Nat.ne_of_lt (a0u (qk_ BK174)) : gb174 ≠ gb179)); have NB179_174 := am_ ((by rw [hg]; exact Nat.ne_of_gt (a0u (qk_ BK174)) : gb179 ≠ gb174)); replace BK174 := qkb_ BK174 hb; clear hb hbox hg; have hnb20 := NB179_174.out; have hnc20 := NB174_179.out; obtain ⟨z'21_0, z'21_1, z'21_2⟩ := qz3_ BK179; obtain ⟨y'21_0, y'21_1, y'21_2⟩ := qf3_ BK179; obtain ⟨z'22_0, z'22_1, z'22_2, z'22_3, z'22_4, z'22_5, z'22_6, z'22_7, z'22_8, z'22_9, z'22_10, z'22_11, z'22_12⟩ := a1u BK174; obtain ⟨y'22_0, y'22_1, y'22_2, y'22_3, y'22_4, y'22_5, y'22_6, y'22_7, y'22_8, y'22_9, y'22_10, y'22_11, y'22_12⟩ := a1v BK174) | ((with_reducible refine a0e (f := 57) rfl ?_); refine a0w (some 27) rfl rfl Try.func57 (by kernel_rfl) rfl #[.agg #[.int .i64 a0_0, .int .i64 a0_1, .int .i64 a0_2, .int .i64 a0_3, .bool a0_4, .int .i64 a0_5, .int .i64 a0_6, .int .i64 a0_7, .slice A0_8 l0_8.length c0_8, .slice (some ad178) l0_9.length c0_9, .slice A0_10 l0_10.length c0_10, .string a0_11, .slice A0_12 l0_12.length c0_12], .int .i64 x19_1] rfl ql_ ?_; (with_reducible refine (Mhby.calls k1 a0_0 a0_1 a0_2 a0_3 a0_4 a0_5 a0_6 a0_7 _ _ l0_8 _ _ l0_9 _ _ l0_10 a0_11 _ _ l0_12 x19_1 t180 true _ ?s1 ?s2 ?s3 ?s4 ?s5 ?s6 ?s7 ?s8 A13.out).mono ?_); (case s1 => exact Kd.a1g HR0_8.out qb_); (case s2 => exact HC0_8.out); (case s3 => exact Kd.a1g HR0_9.out qb_); (case s4 => exact HC0_9.out); (case s5 => exact Kd.a1g HR0_10.out qb_); (case s6 => exact HC0_10.out); (case s7 => exact Kd.a1g HR0_12.out qb_); (case s8 => exact HC0_12.out); rintro e w23 ⟨rfl, hb⟩; refine ⟨_, rfl, ?_⟩; replace HO_5 := am_ (Kd.a3m (by (with_reducible repeat (first | apply Kd.a1e | apply Kd.a1f | apply Kd.a0y)); exact (Kd.a2w (Kd.a1c (p := ⟨gb179, 2, none⟩) (Kd.a1c (p := ⟨gb179, 1, none⟩) (Kd.a1c (p := ⟨gb179, 0, none⟩) (Kd.a3d HO_5.out BK179.out (by decide)) (fun _ hk => hk.2) (.int .i64 ((a0a l0_9 x19_1).f0))) (fun _ hk => hk.2) (.int .i64 ((a0a l0_9 x19_1).f1))) (fun _ hk => hk.2) (.int .i64 ((a0a l0_9 x19_1).f2))) (fun _ h_ => h_.1))) hb); replace BK174 := am_ (a1o (g := gb174) (o := .cells #[.int .i64 a0_0, .int .i64 a0_1, .int .i64 a0_2, .int .i64 a0_3, .bool a0_4, .int .i64 a0_5, .int .i64 a0_6, .int .i64 a0_7, .slice A0_8 l0_8.length c0_8, .slice (some ad178) l0_9.length c0_9, .slice A0_10 l0_10.length c0_10, .string a0_11, .slice A0_12 l0_12.length c0_12] 62 (0, 0)) (by refine qd_ ?_; refine a0b ?_ NB174_179.out _; refine qd_ ?_; refine a0b ?_ NB174_179.out _; refine qd_ ?_; refine a0b ?_ NB174_179.out _; refine qd_ ?_; exact BK174.out) hb); replace BK179 := am_ (a1o (g := gb179) (o := .cells #[.int .i64 ((a0a l0_9 x19_1).f0), .int .i64 ((a0a l0_9 x19_1).f1), .int .i64 ((a0a l0_9 x19_1).f2)] 43 (0, 0)) (by refine qd_ ?_; refine a0d (cs := #[.int .i64 ((a0a l0_9 x19_1).f0), .int .i64 ((a0a l0_9 x19_1).f1), .int .i64 0]) ?_ 2 _ rfl; refine qd_ ?_; refine a0d (cs := #[.int .i64 ((a0a l0_9 x19_1).f0), .int .i64 0, .int .i64 0]) ?_ 1 _ rfl; refine qd_ ?_; refine a0d (cs := #[.int .i64 0, .int .i64 0, .int .i64 0]) ?_ 0 _ rfl; refine qd_ ?_; exact BK179.out) hb); replace HB := qbs_ hb; (try clear hb); (try clear hb2); (try clear hk); (try clear hi)))
           replace HO_5 := am_ (Kd.a0y HO_5.out)
           replace BK174 := am_ (bd_ BK174.out)
           replace BK179 := am_ (bd_ BK179.out)
           replace HB := am_ (ld_ HB.out)
           obtain ⟨Ao25, co25, eo25⟩ := Kd.a1p HO_5.out
           (first | subst eo25 | (injection eo25 with f1_ f2_ f3_; have f4_ := f1_.symm; have f5_ := f3_.symm; clear f1_ f2_ f3_; subst f4_; subst f5_))
           have p182 : 0 ≤ (t180 : Int) := ot_
           have q182 : t180 < (x5_1.length : Int) := ot_
           obtain ⟨ad182, e182, hx182_0⟩ := Kd.a2o (Kd.a0q HO_5.out).2.2 t180 p182 q182
           cases e182
           replace p182 := eq_true p182
           replace q182 := eq_true q182
           refine a5m (n := 10) (S := fun w' => w'.cell? ⟨gb179, 0, none⟩ = some (.int .i64 ((a0a l0_9 x19_1).f0)) ∧ w'.cell? ⟨gb179, 1, none⟩ = some (.int .i64 ((a0a l0_9 x19_1).f1)) ∧ w'.cell? ⟨gb179, 2, none⟩ = some (.int .i64 ((a0a l0_9 x19_1).f2)) ∧ w'.cell? (ad182.add (t180).toNat) = some (.int .i64 (rd x5_1 t180))) (ds := [9]) #[i_,i_,i_,i_,i_,i_,i_,i_,i_,i_] (by kernel_rfl) rfl rfl ⟨(bc_ BK179.out 0).trans rfl, (bc_ BK179.out 1).trans rfl, (bc_ BK179.out 2).trans rfl, hx182_0⟩ (fun hHeld => ?_); refine a4g a1b.tab7 a1b.a9m (fun HT_ HW_ => ?_)
           generalize w23.drew = w24 at HO_5 BK174 BK179 HB hx182_0 hHeld ⊢
           refine qpu_ 0 (some 31) #[o_,i_,i_,i_,i_,i_,i_,i_,i_,i_] ?_
           refine qpu_ 1 (some 32) #[o_,o_,i_,i_,i_,i_,i_,i_,i_,i_] ?_
           refine qpu_ 2 (some 33) #[o_,o_,o_,i_,i_,i_,i_,i_,i_,i_] ?_
           refine qpu_ 4 (some 35) #[o_,o_,o_,i_,o_,i_,i_,i_,i_,i_] ?_
           refine a3r (i := 3) (N := some 34) (v := ?_) (a' := ?_) #[o_,o_,o_,o_,o_,i_,i_,i_,i_,i_] rfl rfl (a2v HT_.out HW_.out (by kernel_rfl)) (fun _ _ _ h => h) (Or.inl ⟨by rfl, ?_⟩) hHeld ?_ ?_
           rotate_left
           ·rintro w' ⟨s0, s1, s2, s3⟩
            go_simp
            with_reducible rfl
           rotate_left
           ·exact qp_
           refine a3r (i := 5) (N := some 36) (v := ?_) (a' := ?_) #[o_,o_,o_,o_,o_,o_,i_,i_,i_,i_] rfl rfl (a2v HT_.out HW_.out (by kernel_rfl)) (fun _ _ _ h => h) (Or.inl ⟨by rfl, ?_⟩) hHeld ?_ ?_
           rotate_left
           ·rintro w' ⟨s0, s1, s2, s3⟩
            go_simp
            with_reducible rfl
           rotate_left
           ·exact qp_
           refine one_ (i := 6) (N := some 37) #[o_,o_,o_,o_,o_,o_,o_,i_,i_,i_] rfl rfl (a4c HT_.out (by kernel_rfl)) (by decide) (fun K hK => ?_)
           refine b4d Try.func33 (by kernel_rfl) rfl #[.agg #[.int .i64 ((a0a l0_9 x19_1).f0), .int .i64 ((a0a l0_9 x19_1).f1), .int .i64 ((a0a l0_9 x19_1).f2)]] (by rfl) rfl rfl (by rfl) ql_ ?_
           with_reducible refine (a7w.calls ((a0a l0_9 x19_1).f0) ((a0a l0_9 x19_1).f1) ((a0a l0_9 x19_1).f2) t183 _ A17.out).mono ?_
           rintro e w26 ⟨rfl, hb⟩
           have HS3_ := (hb.cell (World.block_lt_of_cell? _ _ (hHeld.2.2.2))).trans (hHeld.2.2.2)
           refine ⟨_, rfl, ?_⟩
           replace HO_5 := qrb_ HO_5 hb
           replace BK174 := qkb_ BK174 hb
           replace BK179 := qkb_ BK179 hb
           replace HB := qbs_ hb
           (try clear hb)
           (try clear hb2)
           (try clear hk)
           (try clear hi)
           have p18 : 0 ≤ (t180 : Int) := ot_
           have q18 : (t180 : Int) < ((x5_1.length : Int) : Int) := ot_
           obtain ⟨go18, co18, eo18, gb18, gl18, cl18, HG18⟩ := Kd.b3t HO_5.out (by omega)
           (first | cases eo18 | (injection eo18 with ea_ en_ ec_; (first | subst ea_ | (injection ea_ with ea_; subst ea_)); subst ec_; clear en_))
           have GB18 := am_ gb18
           have GG18 := am_ HG18
           clear gb18 gl18 HG18
           (first | simp only [add_plain] at hx182_0 | skip)
           obtain ⟨hx18_0, hf18_0⟩ := Kd.b2s 0 HO_5.out (t180 : Int) p18 q18
           replace p18 := eq_true p18
           replace q18 := eq_true q18
           have HP27 := Kd.b3y HO_5.out (t180 : Int) (wrap64 ((rd x5_1 t180) + t183))
           rw [← Ny184.out] at HP27
           have HQ27 := am_ HP27
           clear HP27
           refine hK.out _ _ ⟨(bc_ BK179.out 0).trans rfl, (bc_ BK179.out 1).trans rfl, (bc_ BK179.out 2).trans rfl, HS3_⟩ (fun hHeld => ?_)
           clear hK K
           refine a4s (a' := ?_) ?_ ?_
           rotate_left
           ·show Act.put _ (some 37) _ = _
            exact qp_
           refine qpu_ 7 (some 38) #[o_,o_,o_,o_,o_,o_,o_,o_,i_,i_] ?_
           refine qpu_ 8 (some 39) #[o_,o_,o_,o_,o_,o_,o_,o_,o_,i_] ?_
           refine b6a (i := 9) (N := none) #[o_,o_,o_,o_,o_,o_,o_,o_,o_,o_] rfl rfl (a4c HT_.out (by kernel_rfl)) (by decide) (fun K hK => ?_)
           refine b6b (w1 := ?_) (by rfl) rfl ?_ ?_
           rotate_left
           ·go_simp
            rfl
           refine hK.out _ _ ?_
           clear hK K
           refine a5z (a4y HT_.out (by kernel_rfl)) ?_
           try go_wp2
           go_roundg k1
           case measure => have := HK1.out; omega
           case rel => exact ⟨(y184), (wrap64 (x19_1 + 1)), qs_, H', ⟨by have := HK1.out; omega⟩, ⟨by (with_reducible repeat (first | apply Kd.a1e | apply Kd.a1f | apply Kd.a0y)); exact HQ27.out⟩, ⟨by refine qd_ ?_; refine a0b ?_ (by have h_ := Kd.R_ne HO_5.out BK174.out (by decide); intro e_; exact h_ (by rw [e_]; rfl)) _; refine qd_ ?_; exact BK174.out⟩, ⟨by repeat (first | (with_reducible first | exact HB.out | apply la_ | apply ln_ | apply ld_ | refine ls_ ?_ GB18.out | refine ls_ ?_ GE174.out | refine ls_ ?_ GE179.out) | exact HB.out)⟩⟩
          ·rw [if_neg c16] at H
           exact absurd H (by simp)
         ·rw [if_neg c15] at H
          exact absurd H (by simp)
        ·replace c14 := be_ c14
         subst c14
         have H1 : (a1b.l0 k1 x5_1 l0_9 (l0_9.length : Int) (wrap64 (x19_1 + 1)) a0_0 a0_1 a0_2 a0_3 a0_4 a0_5 a0_6 a0_7 l0_8 l0_9 l0_10 a0_11 l0_12) = some r := by rw [if_neg (show ¬ (false = true) by decide)] at H; exact H
         clear H
         have H := H1
         clear H1
         have H' := am_ H
         clear H
         have p178 : 0 ≤ (x19_1 : Int) := ot_
         have q178 : x19_1 < (l0_9.length : Int) := ot_
         obtain ⟨ad178, e178, hx178_0, hx178_1, hx178_2⟩ := a2p HR0_9.out x19_1 p178 q178
         cases e178
         replace hx178_0 := qh_ HB hx178_0
         replace hx178_1 := qh_ HB hx178_1
         replace hx178_2 := qh_ HB hx178_2
         replace p178 := eq_true p178
         replace q178 := eq_true q178
         go_wp2_with (first | ((with_reducible refine a0f (N := 7) rfl ?_); refine qev_ 7 #[.int .i64 0, .int .i64 0, .int .i64 0] 43 ?_; intro gb179 hg w28 hbox hb; replace HO_5 := qrb_ HO_5 hb; have BK179 := am_ (hbox); have GW179 := qga_ hg; have GE179 := qga_ hg; replace HB := qbs_ hb; have NB174_179 := am_ ((by rw [hg]; exact Nat.ne_of_lt (a0u (qk_ BK174)) : gb174 ≠ gb179)); have NB179_174 := am_ ((by rw [hg]; exact Nat.ne_of_gt (a0u (qk_ BK174)) : gb179 ≠ gb174)); replace BK174 := qkb_ BK174 hb; clear hb hbox hg; have hnb29 := NB179_174.out; have hnc29 := NB174_179.out; obtain ⟨z'30_0, z'30_1, z'30_2⟩ := qz3_ BK179; obtain ⟨y'30_0, y'30_1, y'30_2⟩ := qf3_ BK179; obtain ⟨z'31_0, z'31_1, z'31_2, z'31_3, z'31_4, z'31_5, z'31_6, z'31_7, z'31_8, z'31_9, z'31_10, z'31_11, z'31_12⟩ := a1u BK174; obtain ⟨y'31_0, y'31_1, y'31_2, y'31_3, y'31_4, y'31_5, y'31_6, y'31_7, y'31_8, y'31_9, y'31_10, y'31_11, y'31_12⟩ := a1v BK174) | ((with_reducible refine a0e (f := 57) rfl ?_); refine a0w (some 27) rfl rfl Try.func57 (by kernel_rfl) rfl #[.agg #[.int .i64 a0_0, .int .i64 a0_1, .int .i64 a0_2, .int .i64 a0_3, .bool a0_4, .int .i64 a0_5, .int .i64 a0_6, .int .i64 a0_7, .slice A0_8 l0_8.length c0_8, .slice (some ad178) l0_9.length c0_9, .slice A0_10 l0_10.length c0_10, .string a0_11, .slice A0_12 l0_12.length c0_12], .int .i64 x19_1] rfl ql_ ?_; (with_reducible refine (Mhby.calls k1 a0_0 a0_1 a0_2 a0_3 a0_4 a0_5 a0_6 a0_7 _ _ l0_8 _ _ l0_9 _ _ l0_10 a0_11 _ _ l0_12 x19_1 t180 false _ ?s1 ?s2 ?s3 ?s4 ?s5 ?s6 ?s7 ?s8 A13.out).mono ?_); (case s1 => exact Kd.a1g HR0_8.out qb_); (case s2 => exact HC0_8.out); (case s3 => exact Kd.a1g HR0_9.out qb_); (case s4 => exact HC0_9.out); (case s5 => exact Kd.a1g HR0_10.out qb_); (case s6 => exact HC0_10.out); (case s7 => exact Kd.a1g HR0_12.out qb_); (case s8 => exact HC0_12.out); rintro e w32 ⟨rfl, hb⟩; refine ⟨_, rfl, ?_⟩; replace HO_5 := am_ (Kd.a3m (by (with_reducible repeat (first | apply Kd.a1e | apply Kd.a1f | apply Kd.a0y)); exact (Kd.a2w (Kd.a1c (p := ⟨gb179, 2, none⟩) (Kd.a1c (p := ⟨gb179, 1, none⟩) (Kd.a1c (p := ⟨gb179, 0, none⟩) (Kd.a3d HO_5.out BK179.out (by decide)) (fun _ hk => hk.2) (.int .i64 ((a0a l0_9 x19_1).f0))) (fun _ hk => hk.2) (.int .i64 ((a0a l0_9 x19_1).f1))) (fun _ hk => hk.2) (.int .i64 ((a0a l0_9 x19_1).f2))) (fun _ h_ => h_.1))) hb); replace BK174 := am_ (a1o (g := gb174) (o := .cells #[.int .i64 a0_0, .int .i64 a0_1, .int .i64 a0_2, .int .i64 a0_3, .bool a0_4, .int .i64 a0_5, .int .i64 a0_6, .int .i64 a0_7, .slice A0_8 l0_8.length c0_8, .slice (some ad178) l0_9.length c0_9, .slice A0_10 l0_10.length c0_10, .string a0_11, .slice A0_12 l0_12.length c0_12] 62 (0, 0)) (by refine qd_ ?_; refine a0b ?_ NB174_179.out _; refine qd_ ?_; refine a0b ?_ NB174_179.out _; refine qd_ ?_; refine a0b ?_ NB174_179.out _; refine qd_ ?_; exact BK174.out) hb); replace BK179 := am_ (a1o (g := gb179) (o := .cells #[.int .i64 ((a0a l0_9 x19_1).f0), .int .i64 ((a0a l0_9 x19_1).f1), .int .i64 ((a0a l0_9 x19_1).f2)] 43 (0, 0)) (by refine qd_ ?_; refine a0d (cs := #[.int .i64 ((a0a l0_9 x19_1).f0), .int .i64 ((a0a l0_9 x19_1).f1), .int .i64 0]) ?_ 2 _ rfl; refine qd_ ?_; refine a0d (cs := #[.int .i64 ((a0a l0_9 x19_1).f0), .int .i64 0, .int .i64 0]) ?_ 1 _ rfl; refine qd_ ?_; refine a0d (cs := #[.int .i64 0, .int .i64 0, .int .i64 0]) ?_ 0 _ rfl; refine qd_ ?_; exact BK179.out) hb); replace HB := qbs_ hb; (try clear hb); (try clear hb2); (try clear hk); (try clear hi)))
         go_roundg k1
         case measure => have := HK1.out; omega
         case rel => exact ⟨(x5_1), (wrap64 (x19_1 + 1)), qs_, H', ⟨by have := HK1.out; omega⟩, ⟨by (with_reducible repeat (first | apply Kd.a1e | apply Kd.a1f | apply Kd.a0y)); exact HO_5.out⟩, ⟨qk_ BK174⟩, ⟨qb_⟩⟩
       ·rw [if_neg c12] at H
        exact absurd H (by simp)
      ·rw [if_neg c11] at H
       exact absurd H (by simp)
     ·rw [if_neg c10] at H
      have c10b0 : decide (x19_1 < (l0_9.length : Int)) = false := decide_eq_false c10
      clear c10
      obtain rfl := si_ H
      go_wp2
      go_ret
      exact ⟨_, qx_, by (with_reducible repeat (first | apply Kd.a1e | apply Kd.a1f | apply Kd.a0y)); exact HO_5.out, qb_⟩
  ·rw [if_neg c4] at H
   exact absurd H (by simp)
 ·rw [if_neg c3] at H
  exact absurd H (by simp)
end Go.Proofs.Ytemnlgefngjliaa.Px
