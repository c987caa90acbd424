/- Contracts of Go functions, written by a program of this session's own (wip/tools/myprint.py) out of the translation: each Go function does what the Lean function of its name says. Conditions: as each theorem states. -/
import Derived.Test.YtemnlgefngjliaaPx0
import Derived.Test.YtemnlgefngjliaaPx5
import Derived.Test.YtemnlgefngjliaaPx6
namespace Go.Proofs.Ytemnlgefngjliaa.Px
open Go.Proofs.Ytemnlgefngjliaa.Given
open Go.RowKit Go.Proofs.YtemnlgefngjliaaW.PrintWords Go.Proofs.YtemnlgefngjliaaW.PrintLast Go.Proofs.YtemnlgefngjliaaW.PrintMore
attribute [local go_sem] max2_int min2_int max_two min_two max_three min_three max_four min_four   -- for this text's walks alone
set_option linter.unusedVariables false
set_option linter.unusedSimpArgs false
/-! ### meeting_hall_weigh__meeting_one: function 32 -/
def meeting_hall_weigh__meeting_one.l0 : Nat → List Int → List (S43) → Int → Int → Int → Int → Int → Int → Bool → Int → Int → Int → List ByteArray → List (S43) → List Int → ByteArray → List Int → Option (List Int)
 | 0, _, _, _, _, _, _, _, _, _, _, _, _, _, _, _, _, _ => none
 | k + 1, x5, x17, x18, x19, x175000, x175001, x175002, x175003, x175004, x175005, x175006, x175007, x175008, x175009, x175010, x175011, x175012 => if x19 < x18 then (if 0 ≤ x19 then (if x19 < (x17.length : Int) then ((meeting_hall_by.f k x175000 x175001 x175002 x175003 x175004 x175005 x175006 x175007 x175008 x175009 x175010 x175011 x175012 x19).bind fun bt180 => (if bt180.2 = true then (if 0 ≤ bt180.1 then (if bt180.1 < (x5.length : Int) then ((meeting_one.f ((rd_T43 x17 x19).f0) ((rd_T43 x17 x19).f1) ((rd_T43 x17 x19).f2)).bind fun t183 => (meeting_hall_weigh__meeting_one.l0 k (x5.set (bt180.1 : Int).toNat (wrap64 ((rd x5 bt180.1) + t183))) x17 x18 (wrap64 (x19 + 1)) x175000 x175001 x175002 x175003 x175004 x175005 x175006 x175007 x175008 x175009 x175010 x175011 x175012)) else (none)) else (none)) else (meeting_hall_weigh__meeting_one.l0 k x5 x17 x18 (wrap64 (x19 + 1)) x175000 x175001 x175002 x175003 x175004 x175005 x175006 x175007 x175008 x175009 x175010 x175011 x175012))) else (none)) else (none)) else (some x5)
def meeting_hall_weigh__meeting_one.f (k : Nat) (a0_0 : Int) (a0_1 : Int) (a0_2 : Int) (a0_3 : Int) (a0_4 : Bool) (a0_5 : Int) (a0_6 : Int) (a0_7 : Int) (l0_8 : List ByteArray) (l0_9 : List (S43)) (l0_10 : List Int) (a0_11 : ByteArray) (l0_12 : List Int)  : Option (List Int) := if 0 ≤ (l0_9.length : Int) then (if ((l0_9.length : Int) : Int).toNat ≤ 35184372088832 then (meeting_hall_weigh__meeting_one.l0 k (List.replicate ((l0_9.length : Int) : Int).toNat 0) l0_9 (l0_9.length : Int) 0 a0_0 a0_1 a0_2 a0_3 a0_4 a0_5 a0_6 a0_7 l0_8 l0_9 l0_10 a0_11 l0_12) else (none)) else (none)
theorem meeting_hall_weigh__meeting_one.mono_l : ∀ k, (∀ y0 y1 y2 y3 y4 y5 y6 y7 y8 y9 y10 y11 y12 y13 y14 y15 y16, LeO (meeting_hall_weigh__meeting_one.l0 k y0 y1 y2 y3 y4 y5 y6 y7 y8 y9 y10 y11 y12 y13 y14 y15 y16) (meeting_hall_weigh__meeting_one.l0 (k + 1) y0 y1 y2 y3 y4 y5 y6 y7 y8 y9 y10 y11 y12 y13 y14 y15 y16))
 | 0 => fun _ _ _ _ _ _ _ _ _ _ _ _ _ _ _ _ _ r h => by simp [meeting_hall_weigh__meeting_one.l0] at h
 | k + 1 => by
  have ih0 := meeting_hall_weigh__meeting_one.mono_l k
  ·intro y0 y1 y2 y3 y4 y5 y6 y7 y8 y9 y10 y11 y12 y13 y14 y15 y16
   unfold meeting_hall_weigh__meeting_one.l0
   repeat' first
   | (with_reducible exact ih0 _ _ _ _ _ _ _ _ _ _ _ _ _ _ _ _ _)
   | (with_reducible exact meeting_hall_by.mono _ _ _ _ _ _ _ _ _ _ _ _ _ _ _)
   | (with_reducible exact LeO.refl _)
   | (with_reducible exact LeO.none _)
   | (with_reducible refine LeO.ite ?_ ?_)
   | (with_reducible refine LeO.bind ?_ (fun _ => ?_))
   | exact ih0 _ _ _ _ _ _ _ _ _ _ _ _ _ _ _ _ _
   | exact meeting_hall_by.mono _ _ _ _ _ _ _ _ _ _ _ _ _ _ _
   | exact LeO.none _
   | refine LeO.ite ?_ ?_
   | refine LeO.bind ?_ (fun _ => ?_)
theorem meeting_hall_weigh__meeting_one.mono : ∀ a0 a1 a2 a3 a4 a5 a6 a7 a8 a9 a10 a11 a12 k, LeO (meeting_hall_weigh__meeting_one.f k a0 a1 a2 a3 a4 a5 a6 a7 a8 a9 a10 a11 a12) (meeting_hall_weigh__meeting_one.f (k + 1) a0 a1 a2 a3 a4 a5 a6 a7 a8 a9 a10 a11 a12) := by
 intro a0 a1 a2 a3 a4 a5 a6 a7 a8 a9 a10 a11 a12 k
 have ih0 := meeting_hall_weigh__meeting_one.mono_l k
 unfold meeting_hall_weigh__meeting_one.f
 repeat' first
   | (with_reducible exact ih0 _ _ _ _ _ _ _ _ _ _ _ _ _ _ _ _ _)
   | (with_reducible exact meeting_hall_by.mono _ _ _ _ _ _ _ _ _ _ _ _ _ _ _)
   | (with_reducible exact LeO.refl _)
   | (with_reducible exact LeO.none _)
   | (with_reducible refine LeO.ite ?_ ?_)
   | (with_reducible refine LeO.bind ?_ (fun _ => ?_))
   | exact ih0 _ _ _ _ _ _ _ _ _ _ _ _ _ _ _ _ _
   | exact meeting_hall_by.mono _ _ _ _ _ _ _ _ _ _ _ _ _ _ _
   | exact LeO.none _
   | refine LeO.ite ?_ ?_
   | refine LeO.bind ?_ (fun _ => ?_)
def meeting_hall_weigh__meeting_one.T7 : Bool × List (List Nat × List Nat) := (true, [([], []), ([], []), ([0, 1], [0, 1]), ([2], [2]), ([], []), ([], []), ([4, 5], [4, 5]), ([3, 6], [3, 6]), ([0, 1, 0, 1, 2, 3, 4, 5, 6, 7], [0, 1]), ([8, 7, 6, 0, 1, 2, 3, 4, 5, 6, 7], [7, 8])])
def meeting_hall_weigh__meeting_one.B7 : List Nat := [0, 0, 3, 7, 0, 0, 48, 127, 255, 511]
theorem meeting_hall_weigh__meeting_one.tab7 : rtab .any (opsOf Try.f32 7) = meeting_hall_weigh__meeting_one.T7 := by kernel_rfl
theorem meeting_hall_weigh__meeting_one.bits7 : waitsOk meeting_hall_weigh__meeting_one.T7.2 meeting_hall_weigh__meeting_one.B7 = true := by kernel_rfl
set_option maxHeartbeats 8000000 in
set_option maxRecDepth 100000 in
theorem meeting_hall_weigh__meeting_one.calls (k : Nat) (a0_0 : Int) (a0_1 : Int) (a0_2 : Int) (a0_3 : Int) (a0_4 : Bool) (a0_5 : Int) (a0_6 : Int) (a0_7 : Int) (A0_8 : Option Addr) (c0_8 : Nat) (l0_8 : List ByteArray) (A0_9 : Option Addr) (c0_9 : Nat) (l0_9 : List (S43)) (A0_10 : Option Addr) (c0_10 : Nat) (l0_10 : List Int) (a0_11 : ByteArray) (A0_12 : Option Addr) (c0_12 : Nat) (l0_12 : List Int)  (r : List Int) (w : World) (hr0_8 : Kd.C Kd.string w A0_8 l0_8.length l0_8) (hc0_8 : l0_8.length ≤ c0_8) (hr0_9 : Kd.C k43 w A0_9 l0_9.length l0_9) (hc0_9 : l0_9.length ≤ c0_9) (hr0_10 : Kd.C (Kd.int .i64) w A0_10 l0_10.length l0_10) (hc0_10 : l0_10.length ≤ c0_10) (hr0_12 : Kd.C (Kd.int .i64) w A0_12 l0_12.length l0_12) (hc0_12 : l0_12.length ≤ c0_12) (h : meeting_hall_weigh__meeting_one.f k a0_0 a0_1 a0_2 a0_3 a0_4 a0_5 a0_6 a0_7 l0_8 l0_9 l0_10 a0_11 l0_12 = some r) :
  Calls Try.prog 32 #[.agg #[.int .i64 a0_0, .int .i64 a0_1, .int .i64 a0_2, .int .i64 a0_3, .bool a0_4, .int .i64 a0_5, .int .i64 a0_6, .int .i64 a0_7, .slice A0_8 l0_8.length c0_8, .slice A0_9 l0_9.length c0_9, .slice A0_10 l0_10.length c0_10, .string a0_11, .slice A0_12 l0_12.length c0_12], .func (.func 33) #[] #[]] w fun e w' => ∃ v0_ : Value, e = .returned (v0_) ∧ Kd.R (Kd.int .i64) 3 w' w.heap.size (fun _ => True) v0_ r ∧ Below w.heap.size w w' := by
 have hu62 := Try.underlying62
 have hu43 := Try.underlying43
 have HR0_8 := Aside0.mk hr0_8
 have HC0_8 := Aside0.mk hc0_8
 clear hr0_8 hc0_8
 have HR0_9 := Aside0.mk hr0_9
 have HC0_9 := Aside0.mk hc0_9
 clear hr0_9 hc0_9
 have HR0_10 := Aside0.mk hr0_10
 have HC0_10 := Aside0.mk hc0_10
 clear hr0_10 hc0_10
 have HR0_12 := Aside0.mk hr0_12
 have HC0_12 := Aside0.mk hc0_12
 clear hr0_12 hc0_12
 have HB := Aside0.mk (Below.refl w.heap.size w)
 have H : (if 0 ≤ (l0_9.length : Int) then (if ((l0_9.length : Int) : Int).toNat ≤ 35184372088832 then (meeting_hall_weigh__meeting_one.l0 k (List.replicate ((l0_9.length : Int) : Int).toNat 0) l0_9 (l0_9.length : Int) 0 a0_0 a0_1 a0_2 a0_3 a0_4 a0_5 a0_6 a0_7 l0_8 l0_9 l0_10 a0_11 l0_12) else (none)) else (none)) = some r := h
 clear h
 by_cases c3 : 0 ≤ (l0_9.length : Int)
 ·rw [if_pos c3] at H
  have c3b0 := eq_true c3
  have c3b1 : decide (0 ≤ (l0_9.length : Int)) = true := decide_eq_true c3
  clear c3
  by_cases c4 : ((l0_9.length : Int) : Int).toNat ≤ 35184372088832
  ·rw [if_pos c4] at H
   have c4b0 := eq_true c4
   have c4b1 : decide (((l0_9.length : Int) : Int).toNat ≤ 35184372088832) = true := decide_eq_true c4
   clear c4
   obtain ⟨y175, hy175⟩ : ∃ y_ : List Int, y_ = (List.replicate ((l0_9.length : Int) : Int).toNat 0) := ⟨_, rfl⟩
   replace H : (meeting_hall_weigh__meeting_one.l0 k y175 l0_9 (l0_9.length : Int) 0 a0_0 a0_1 a0_2 a0_3 a0_4 a0_5 a0_6 a0_7 l0_8 l0_9 l0_10 a0_11 l0_12) = some r := by first | (rw [hy175]; with_reducible exact H) | (have H2_ := (Option.bind_some _ _).symm.trans H; rw [hy175]; with_reducible exact H2_) | (have H2_ := (Option.bind_some _ _).symm.trans H; with_reducible exact H2_) | with_reducible exact H | (rw [hy175]; exact H) | exact H
   have Ny175 := Aside0.mk hy175
   clear hy175
   have H' := Aside0.mk H
   clear H
   go_enter Try.func32, Try.ntmps32
   go_wp2_with (first | ((with_reducible refine gate_dst (N := 2) rfl ?_); refine box_event ?hg (N := 2) ?hd (cs := #[.int .i64 a0_0, .int .i64 a0_1, .int .i64 a0_2, .int .i64 a0_3, .bool a0_4, .int .i64 a0_5, .int .i64 a0_6, .int .i64 a0_7, .slice A0_8 l0_8.length c0_8, .slice A0_9 l0_9.length c0_9, .slice A0_10 l0_10.length c0_10, .string a0_11, .slice A0_12 l0_12.length c0_12]) (t := 62) ?hr ?_; (case hd => rfl); (case hg => rfl); (case hr => first | (go_simp; done) | (go_simp; rfl)); intro gb174 hg w5 hbox hb; have n0_ := qbs_ hb; have n1_ := Aside0.mk (hbox); have n2_ := Aside0.mk ((qg_ hg : w.heap.size ≤ gb174)); have n3_ := Aside0.mk ((qg_ hg : w.heap.size ≤ gb174)); clear HB; have HB := n0_; have BK174 := n1_; have GW174 := n2_; have GE174 := n3_; clear n0_ n1_ n2_ n3_ hb hbox hg; obtain ⟨hcz6_0, hcz6_1, hcz6_2, hcz6_3, hcz6_4, hcz6_5, hcz6_6, hcz6_7, hcz6_8, hcz6_9, hcz6_10, hcz6_11, hcz6_12⟩ := qz13_ BK174; obtain ⟨hfz6_0, hfz6_1, hfz6_2, hfz6_3, hfz6_4, hfz6_5, hfz6_6, hfz6_7, hfz6_8, hfz6_9, hfz6_10, hfz6_11, hfz6_12⟩ := qf13_ BK174) | ((with_reducible refine gate_dst (N := 14) rfl ?_); refine Kd.R_make (Kd.int .i64) _ 3 rfl (N := 14) rfl 28 _ _ rfl (l0_9.length : Int) rfl rfl Try.underlying28 (.int .i64 0) 8 info3 rfl (by decide) (by omega) 0 (ok := fun _ => True) (okp := fun _ => True) rfl (fun _ hk => hk) trivial (of_decide_eq_true qa_) (Nat.le_trans (Nat.mul_le_mul_right _ (of_decide_eq_true qa_ : (l0_9.length : Int).toNat ≤ 35184372088832)) (by omega)) (Below.refl _ _) (Nat.le_refl _) ?_; intro v176 w7 ho8 hb hg_ hnew_; clear hg_ hnew_; (first | rw [← Ny175.out] at ho8 | (simp only [Int.reduceToNat] at ho8; rw [← Ny175.out] at ho8)); have n0_ := Aside0.mk (Kd.R_lower ho8 (below_size qb_)); have n1_ := qkb_ BK174 hb; have n2_ := qbs_ hb; clear BK174 HB; have HO177 := n0_; have BK174 := n1_; have HB := n2_; clear n0_ n1_ n2_ hb ho8; obtain ⟨hcz9_0, hcz9_1, hcz9_2, hcz9_3, hcz9_4, hcz9_5, hcz9_6, hcz9_7, hcz9_8, hcz9_9, hcz9_10, hcz9_11, hcz9_12⟩ := qz13_ BK174; obtain ⟨hfz9_0, hfz9_1, hfz9_2, hfz9_3, hfz9_4, hfz9_5, hfz9_6, hfz9_7, hfz9_8, hfz9_9, hfz9_10, hfz9_11, hfz9_12⟩ := qf13_ BK174))
   go_loopg [19] k (fun kq v19 w' => ∃ (x5_1 : List Int) (x19_1 : Int), v19 = .int .i64 x19_1 ∧ Aside0 (meeting_hall_weigh__meeting_one.l0 kq x5_1 l0_9 (l0_9.length : Int) x19_1 a0_0 a0_1 a0_2 a0_3 a0_4 a0_5 a0_6 a0_7 l0_8 l0_9 l0_10 a0_11 l0_12 = some r) ∧ Aside0 (kq ≤ k) ∧ Aside0 (Kd.R (Kd.int .i64) 3 w' w.heap.size (fun _ => True) v176 x5_1) ∧ Aside0 (w'.heap[gb174]? = some (.cells #[.int .i64 a0_0, .int .i64 a0_1, .int .i64 a0_2, .int .i64 a0_3, .bool a0_4, .int .i64 a0_5, .int .i64 a0_6, .int .i64 a0_7, (.slice A0_8 l0_8.length c0_8), (.slice A0_9 l0_9.length c0_9), (.slice A0_10 l0_10.length c0_10), .string a0_11, (.slice A0_12 l0_12.length c0_12)] 62 (0, 0))) ∧ Aside0 (Below w.heap.size w w'))
   case atStart => exact ⟨(y175), (0), qs_, H', ⟨Nat.le_refl _⟩, ⟨by (with_reducible repeat (first | apply Kd.R_alloc | apply Kd.R_drewN | apply Kd.R_drew)); exact HO177.out⟩, ⟨qk_ BK174⟩, ⟨qb_⟩⟩
   case round =>
    clear H'
    try clear p2
    try clear c3
    try clear c3b0
    try clear c3b1
    try clear c4
    try clear c4b0
    try clear c4b1
    try clear c9
    try clear hcz6_0 hcz6_1 hcz6_10 hcz6_11 hcz6_12 hcz6_2 hcz6_3 hcz6_4 hcz6_5 hcz6_6 hcz6_7 hcz6_8 hcz6_9
    try clear hcz9_0 hcz9_1 hcz9_10 hcz9_11 hcz9_12 hcz9_2 hcz9_3 hcz9_4 hcz9_5 hcz9_6 hcz9_7 hcz9_8 hcz9_9
    try clear hfz6_0 hfz6_1 hfz6_10 hfz6_11 hfz6_12 hfz6_2 hfz6_3 hfz6_4 hfz6_5 hfz6_6 hfz6_7 hfz6_8 hfz6_9
    try clear hfz9_0 hfz9_1 hfz9_10 hfz9_11 hfz9_12 hfz9_2 hfz9_3 hfz9_4 hfz9_5 hfz9_6 hfz9_7 hfz9_8 hfz9_9
    obtain ⟨x5_1, x19_1, rfl, HA, HK1, HO_5, BK174, HB⟩ := hrel
    cases gk with
    | zero => exact absurd HA.out (by simp [meeting_hall_weigh__meeting_one.l0])
    | succ k1 =>
     have H := HA.out
     clear HA
     simp only [meeting_hall_weigh__meeting_one.l0] at H
     by_cases c10 : x19_1 < (l0_9.length : Int)
     ·rw [if_pos c10] at H
      have c10b0 : decide (x19_1 < (l0_9.length : Int)) = true := decide_eq_true c10
      clear c10
      by_cases c11 : 0 ≤ x19_1
      ·rw [if_pos c11] at H
       have c11b0 : decide (0 ≤ x19_1) = true := decide_eq_true c11
       clear c11
       by_cases c12 : x19_1 < (l0_9.length : Int)
       ·rw [if_pos c12] at H
        have c12b0 : decide (x19_1 < (l0_9.length : Int)) = true := decide_eq_true c12
        clear c12
        replace H := Option.bind_eq_some_iff.mp H
        obtain ⟨⟨t180, t181⟩, A130, H⟩ := H
        replace H : (if t181 = true then (if 0 ≤ t180 then (if t180 < (x5_1.length : Int) then ((meeting_one.f ((rd_T43 l0_9 x19_1).f0) ((rd_T43 l0_9 x19_1).f1) ((rd_T43 l0_9 x19_1).f2)).bind fun t183 => (meeting_hall_weigh__meeting_one.l0 k1 (x5_1.set (t180 : Int).toNat (wrap64 ((rd x5_1 t180) + t183))) l0_9 (l0_9.length : Int) (wrap64 (x19_1 + 1)) a0_0 a0_1 a0_2 a0_3 a0_4 a0_5 a0_6 a0_7 l0_8 l0_9 l0_10 a0_11 l0_12)) else (none)) else (none)) else (meeting_hall_weigh__meeting_one.l0 k1 x5_1 l0_9 (l0_9.length : Int) (wrap64 (x19_1 + 1)) a0_0 a0_1 a0_2 a0_3 a0_4 a0_5 a0_6 a0_7 l0_8 l0_9 l0_10 a0_11 l0_12)) = some r := H
        have A13 := Aside0.mk A130
        clear A130
        by_cases c14 : t181 = true
        ·subst c14
         have H1 : (if 0 ≤ t180 then (if t180 < (x5_1.length : Int) then ((meeting_one.f ((rd_T43 l0_9 x19_1).f0) ((rd_T43 l0_9 x19_1).f1) ((rd_T43 l0_9 x19_1).f2)).bind fun t183 => (meeting_hall_weigh__meeting_one.l0 k1 (x5_1.set (t180 : Int).toNat (wrap64 ((rd x5_1 t180) + t183))) l0_9 (l0_9.length : Int) (wrap64 (x19_1 + 1)) a0_0 a0_1 a0_2 a0_3 a0_4 a0_5 a0_6 a0_7 l0_8 l0_9 l0_10 a0_11 l0_12)) else (none)) else (none)) = some r := by rw [if_pos rfl] at H; exact H
         clear H
         have H := H1
         clear H1
         by_cases c15 : 0 ≤ t180
         ·rw [if_pos c15] at H
          have c15b0 : decide (0 ≤ t180) = true := decide_eq_true c15
          clear c15
          by_cases c16 : t180 < (x5_1.length : Int)
          ·rw [if_pos c16] at H
           have c16b0 : decide (t180 < (x5_1.length : Int)) = true := decide_eq_true c16
           clear c16
           replace H := Option.bind_eq_some_iff.mp H
           obtain ⟨t183, A170, H⟩ := H
           replace H : (meeting_hall_weigh__meeting_one.l0 k1 (x5_1.set (t180 : Int).toNat (wrap64 ((rd x5_1 t180) + t183))) l0_9 (l0_9.length : Int) (wrap64 (x19_1 + 1)) a0_0 a0_1 a0_2 a0_3 a0_4 a0_5 a0_6 a0_7 l0_8 l0_9 l0_10 a0_11 l0_12) = some r := H
           have A17 := Aside0.mk A170
           clear A170
           obtain ⟨y184, hy184⟩ : ∃ y_ : List Int, y_ = (x5_1.set (t180 : Int).toNat (wrap64 ((rd x5_1 t180) + t183))) := ⟨_, rfl⟩
           replace H : (meeting_hall_weigh__meeting_one.l0 k1 y184 l0_9 (l0_9.length : Int) (wrap64 (x19_1 + 1)) a0_0 a0_1 a0_2 a0_3 a0_4 a0_5 a0_6 a0_7 l0_8 l0_9 l0_10 a0_11 l0_12) = some r := by first | (rw [hy184]; with_reducible exact H) | (have H2_ := (Option.bind_some _ _).symm.trans H; rw [hy184]; with_reducible exact H2_) | (have H2_ := (Option.bind_some _ _).symm.trans H; with_reducible exact H2_) | with_reducible exact H | (rw [hy184]; exact H) | exact H
           have Ny184 := Aside0.mk hy184
           clear hy184
           have H' := Aside0.mk H
           clear H
           have p178 : 0 ≤ (x19_1 : Int) := of_decide_eq_true qa_
           have q178 : x19_1 < (l0_9.length : Int) := of_decide_eq_true qa_
           obtain ⟨ad178, e178, hx178_0, hx178_1, hx178_2⟩ := at_T43 HR0_9.out x19_1 p178 q178
           cases e178
           replace hx178_0 := (HB.out.cell (World.block_lt_of_cell? w _ hx178_0)).trans hx178_0
           replace hx178_1 := (HB.out.cell (World.block_lt_of_cell? w _ hx178_1)).trans hx178_1
           replace hx178_2 := (HB.out.cell (World.block_lt_of_cell? w _ hx178_2)).trans hx178_2
           replace p178 := eq_true p178
           replace q178 := eq_true q178
           try go_wp2_with (first | ((with_reducible refine gate_dst (N := 7) rfl ?_); refine box_event ?hg (N := 7) ?hd (cs := #[.int .i64 0, .int .i64 0, .int .i64 0]) (t := 43) ?hr ?_; (case hd => rfl); (case hg => rfl); (case hr => first | (go_simp; done) | (go_simp; rfl)); intro gb179 hg w19 hbox hb; have n0_ := Aside0.mk (Kd.R_below (qr_ HO_5) hb); have n1_ := qkb_ BK174 hb; have n2_ := qbs_ hb; have n3_ := Aside0.mk (hbox); have n4_ := Aside0.mk ((qg_ hg : w.heap.size ≤ gb179)); have n5_ := Aside0.mk ((qg_ hg : w.heap.size ≤ gb179)); have n6_ := Aside0.mk ((by rw [hg]; exact Nat.ne_of_lt (blk_lt (qk_ BK174)) : gb174 ≠ gb179)); have n7_ := Aside0.mk ((by rw [hg]; exact Nat.ne_of_gt (blk_lt (qk_ BK174)) : gb179 ≠ gb174)); clear HO_5 BK174 HB; have HO_5 := n0_; have BK174 := n1_; have HB := n2_; have BK179 := n3_; have GW179 := n4_; have GE179 := n5_; have NB174_179 := n6_; have NB179_174 := n7_; clear n0_ n1_ n2_ n3_ n4_ n5_ n6_ n7_ hb hbox hg; have hnb20 := NB179_174.out; have hnc20 := NB174_179.out; obtain ⟨hcz21_0, hcz21_1, hcz21_2⟩ := qz3_ BK179; obtain ⟨hfz21_0, hfz21_1, hfz21_2⟩ := qf3_ BK179; obtain ⟨hcz22_0, hcz22_1, hcz22_2, hcz22_3, hcz22_4, hcz22_5, hcz22_6, hcz22_7, hcz22_8, hcz22_9, hcz22_10, hcz22_11, hcz22_12⟩ := qz13_ BK174; obtain ⟨hfz22_0, hfz22_1, hfz22_2, hfz22_3, hfz22_4, hfz22_5, hfz22_6, hfz22_7, hfz22_8, hfz22_9, hfz22_10, hfz22_11, hfz22_12⟩ := qf13_ BK174) | ((with_reducible refine gate_callee (f := 57) rfl ?_); refine goesL_ (some 27) rfl rfl Try.func57 (by kernel_rfl) rfl #[.agg #[.int .i64 a0_0, .int .i64 a0_1, .int .i64 a0_2, .int .i64 a0_3, .bool a0_4, .int .i64 a0_5, .int .i64 a0_6, .int .i64 a0_7, .slice A0_8 l0_8.length c0_8, .slice (some ad178) l0_9.length c0_9, .slice A0_10 l0_10.length c0_10, .string a0_11, .slice A0_12 l0_12.length c0_12], .int .i64 x19_1] rfl ql_ ?_; (with_reducible refine (meeting_hall_by.calls k1 a0_0 a0_1 a0_2 a0_3 a0_4 a0_5 a0_6 a0_7 _ _ l0_8 _ _ l0_9 _ _ l0_10 a0_11 _ _ l0_12 x19_1 t180 true _ ?side1 ?side2 ?side3 ?side4 ?side5 ?side6 ?side7 ?side8 A13.out).mono ?_); (case side1 => exact Kd.C_below HR0_8.out qb_); (case side2 => exact HC0_8.out); (case side3 => exact Kd.C_below HR0_9.out qb_); (case side4 => exact HC0_9.out); (case side5 => exact Kd.C_below HR0_10.out qb_); (case side6 => exact HC0_10.out); (case side7 => exact Kd.C_below HR0_12.out qb_); (case side8 => exact HC0_12.out); rintro e w23 ⟨rfl, hb⟩; refine ⟨_, rfl, ?_⟩; have n0_ := Aside0.mk (Kd.R_below (by (with_reducible repeat (first | apply Kd.R_alloc | apply Kd.R_drewN | apply Kd.R_drew)); exact (Kd.R_mono (Kd.R_far (p := ⟨gb179, 2, none⟩) (Kd.R_far (p := ⟨gb179, 1, none⟩) (Kd.R_far (p := ⟨gb179, 0, none⟩) (Kd.R_types HO_5.out BK179.out (by decide)) (fun _ hk => hk.2) (.int .i64 ((rd_T43 l0_9 x19_1).f0))) (fun _ hk => hk.2) (.int .i64 ((rd_T43 l0_9 x19_1).f1))) (fun _ hk => hk.2) (.int .i64 ((rd_T43 l0_9 x19_1).f2))) (fun _ h_ => h_.1))) hb); have n1_ := Aside0.mk (blk_below (g := gb174) (o := .cells #[.int .i64 a0_0, .int .i64 a0_1, .int .i64 a0_2, .int .i64 a0_3, .bool a0_4, .int .i64 a0_5, .int .i64 a0_6, .int .i64 a0_7, .slice A0_8 l0_8.length c0_8, .slice (some ad178) l0_9.length c0_9, .slice A0_10 l0_10.length c0_10, .string a0_11, .slice A0_12 l0_12.length c0_12] 62 (0, 0)) (by refine qd_ ?_; refine blk_far ?_ NB174_179.out _; refine qd_ ?_; refine blk_far ?_ NB174_179.out _; refine qd_ ?_; refine blk_far ?_ NB174_179.out _; refine qd_ ?_; exact BK174.out) hb); have n2_ := Aside0.mk (blk_below (g := gb179) (o := .cells #[.int .i64 ((rd_T43 l0_9 x19_1).f0), .int .i64 ((rd_T43 l0_9 x19_1).f1), .int .i64 ((rd_T43 l0_9 x19_1).f2)] 43 (0, 0)) (by refine qd_ ?_; refine blk_put (cs := #[.int .i64 ((rd_T43 l0_9 x19_1).f0), .int .i64 ((rd_T43 l0_9 x19_1).f1), .int .i64 0]) ?_ 2 _ rfl; refine qd_ ?_; refine blk_put (cs := #[.int .i64 ((rd_T43 l0_9 x19_1).f0), .int .i64 0, .int .i64 0]) ?_ 1 _ rfl; refine qd_ ?_; refine blk_put (cs := #[.int .i64 0, .int .i64 0, .int .i64 0]) ?_ 0 _ rfl; refine qd_ ?_; exact BK179.out) hb); have n3_ := qbs_ hb; clear HO_5 BK174 BK179 HB; have HO_5 := n0_; have BK174 := n1_; have BK179 := n2_; have HB := n3_; clear n0_ n1_ n2_ n3_; (try clear hb); (try clear hb2); (try clear hk); (try clear hi)))
           have n0_ := Aside0.mk (Kd.R_drew HO_5.out)
           have n1_ := Aside0.mk (blk_drew BK174.out)
           have n2_ := Aside0.mk (blk_drew BK179.out)
           have n3_ := Aside0.mk (below_drew1 HB.out)
           clear HO_5 BK174 BK179 HB
           have HO_5 := n0_
           have BK174 := n1_
           have BK179 := n2_
           have HB := n3_
           clear n0_ n1_ n2_ n3_
           obtain ⟨Ao25, co25, eo25⟩ := Kd.R_slice HO_5.out
           (first | subst eo25 | (injection eo25 with f1_ f2_ f3_; have f4_ := f1_.symm; have f5_ := f3_.symm; clear f1_ f2_ f3_; subst f4_; subst f5_))
           have p182 : 0 ≤ (t180 : Int) := of_decide_eq_true qa_
           have q182 : t180 < (x5_1.length : Int) := of_decide_eq_true qa_
           obtain ⟨ad182, e182, hx182_0⟩ := Kd.at_int (Kd.R_reads' HO_5.out).2.2 t180 p182 q182
           cases e182
           replace p182 := eq_true p182
           replace q182 := eq_true q182
           refine start_ (n := 10) (S := fun w' => w'.cell? ⟨gb179, 0, none⟩ = some (.int .i64 ((rd_T43 l0_9 x19_1).f0)) ∧ w'.cell? ⟨gb179, 1, none⟩ = some (.int .i64 ((rd_T43 l0_9 x19_1).f1)) ∧ w'.cell? ⟨gb179, 2, none⟩ = some (.int .i64 ((rd_T43 l0_9 x19_1).f2)) ∧ w'.cell? (ad182.add (t180).toNat) = some (.int .i64 (rd x5_1 t180))) (ds := [9]) #[false, false, false, false, false, false, false, false, false, false] (by kernel_rfl) rfl rfl ⟨(blk_cell BK179.out 0).trans rfl, (blk_cell BK179.out 1).trans rfl, (blk_cell BK179.out 2).trans rfl, hx182_0⟩ (fun hHeld => ?_); refine with_tabW meeting_hall_weigh__meeting_one.tab7 meeting_hall_weigh__meeting_one.bits7 (fun HT_ HW_ => ?_)
           generalize w23.drew = w24 at HO_5 BK174 BK179 HB hx182_0 hHeld ⊢
           refine pure_ (i := 0) (N := some 31) (v := ?_) (a' := ?_) #[true, false, false, false, false, false, false, false, false, false] rfl rfl (any_of HT_.out (by kernel_rfl)) (fun _ _ _ h => h) (Or.inl ⟨by rfl, ?_⟩) ?_ ?_
           rotate_left
           ·intro w'
            go_simp
            with_reducible rfl
           rotate_left
           ·exact qp_
           refine pure_ (i := 1) (N := some 32) (v := ?_) (a' := ?_) #[true, true, false, false, false, false, false, false, false, false] rfl rfl (any_of HT_.out (by kernel_rfl)) (fun _ _ _ h => h) (Or.inl ⟨by rfl, ?_⟩) ?_ ?_
           rotate_left
           ·intro w'
            go_simp
            with_reducible rfl
           rotate_left
           ·exact qp_
           refine pure_ (i := 2) (N := some 33) (v := ?_) (a' := ?_) #[true, true, true, false, false, false, false, false, false, false] rfl rfl (any_of HT_.out (by kernel_rfl)) (fun _ _ _ h => h) (Or.inl ⟨by rfl, ?_⟩) ?_ ?_
           rotate_left
           ·intro w'
            go_simp
            with_reducible rfl
           rotate_left
           ·exact qp_
           refine pure_ (i := 4) (N := some 35) (v := ?_) (a' := ?_) #[true, true, true, false, true, false, false, false, false, false] rfl rfl (any_of HT_.out (by kernel_rfl)) (fun _ _ _ h => h) (Or.inl ⟨by rfl, ?_⟩) ?_ ?_
           rotate_left
           ·intro w'
            go_simp
            with_reducible rfl
           rotate_left
           ·exact qp_
           refine take_ (i := 3) (N := some 34) (v := ?_) (a' := ?_) #[true, true, true, true, true, false, false, false, false, false] rfl rfl (take_ofW HT_.out HW_.out (by kernel_rfl)) (fun _ _ _ h => h) (Or.inl ⟨by rfl, ?_⟩) hHeld ?_ ?_
           rotate_left
           ·rintro w' ⟨s0, s1, s2, s3⟩
            go_simp
            with_reducible rfl
           rotate_left
           ·exact qp_
           refine take_ (i := 5) (N := some 36) (v := ?_) (a' := ?_) #[true, true, true, true, true, true, false, false, false, false] rfl rfl (take_ofW HT_.out HW_.out (by kernel_rfl)) (fun _ _ _ h => h) (Or.inl ⟨by rfl, ?_⟩) hHeld ?_ ?_
           rotate_left
           ·rintro w' ⟨s0, s1, s2, s3⟩
            go_simp
            with_reducible rfl
           rotate_left
           ·exact qp_
           refine one_ (i := 6) (N := some 37) #[true, true, true, true, true, true, true, false, false, false] rfl rfl (one_of HT_.out (by kernel_rfl)) (by decide) (fun K hK => ?_)
           refine goesV_ Try.func33 (by kernel_rfl) rfl #[.agg #[.int .i64 ((rd_T43 l0_9 x19_1).f0), .int .i64 ((rd_T43 l0_9 x19_1).f1), .int .i64 ((rd_T43 l0_9 x19_1).f2)]] (by rfl) rfl rfl (by rfl) ql_ ?_
           with_reducible refine (meeting_one.calls ((rd_T43 l0_9 x19_1).f0) ((rd_T43 l0_9 x19_1).f1) ((rd_T43 l0_9 x19_1).f2) t183 _ A17.out).mono ?_
           rintro e w26 ⟨rfl, hb⟩
           have HS3_ := (hb.cell (World.block_lt_of_cell? _ _ (hHeld.2.2.2))).trans (hHeld.2.2.2)
           refine ⟨_, rfl, ?_⟩
           have n0_ := Aside0.mk (Kd.R_below (qr_ HO_5) hb)
           have n1_ := qkb_ BK174 hb
           have n2_ := qkb_ BK179 hb
           have n3_ := qbs_ hb
           clear HO_5 BK174 BK179 HB
           have HO_5 := n0_
           have BK174 := n1_
           have BK179 := n2_
           have HB := n3_
           clear n0_ n1_ n2_ n3_
           (try clear hb)
           (try clear hb2)
           (try clear hk)
           (try clear hi)
           have p18 : 0 ≤ (t180 : Int) := of_decide_eq_true qa_
           have q18 : (t180 : Int) < ((x5_1.length : Int) : Int) := of_decide_eq_true qa_
           obtain ⟨go18, co18, eo18, gb18, gl18, cl18, HG18⟩ := Kd.R_form HO_5.out (by omega)
           (first | cases eo18 | (injection eo18 with ea_ en_ ec_; (first | subst ea_ | (injection ea_ with ea_; subst ea_)); subst ec_; clear en_))
           have GB18 := Aside0.mk gb18
           have GG18 := Aside0.mk HG18
           clear gb18 gl18 HG18
           (first | simp only [add_plain] at hx182_0 | skip)
           obtain ⟨hx18_0, hf18_0⟩ := Kd.R_celln 0 HO_5.out (t180 : Int) p18 q18
           replace p18 := eq_true p18
           replace q18 := eq_true q18
           have HP27 := Kd.R_putn HO_5.out (t180 : Int) (wrap64 ((rd x5_1 t180) + t183))
           rw [← Ny184.out] at HP27
           have HQ27 := Aside0.mk HP27
           clear HP27
           refine hK.out _ _ ⟨(blk_cell BK179.out 0).trans rfl, (blk_cell BK179.out 1).trans rfl, (blk_cell BK179.out 2).trans rfl, HS3_⟩ (fun hHeld => ?_)
           clear hK K
           refine norm_ (a' := ?_) ?_ ?_
           rotate_left
           ·show Act.put _ (some 37) _ = _
            exact qp_
           refine pure_ (i := 7) (N := some 38) (v := ?_) (a' := ?_) #[true, true, true, true, true, true, true, true, false, false] rfl rfl (any_of HT_.out (by kernel_rfl)) (fun _ _ _ h => h) (Or.inl ⟨by rfl, ?_⟩) ?_ ?_
           rotate_left
           ·intro w'
            go_simp
            with_reducible rfl
           rotate_left
           ·exact qp_
           refine pure_ (i := 8) (N := some 39) (v := ?_) (a' := ?_) #[true, true, true, true, true, true, true, true, true, false] rfl rfl (any_of HT_.out (by kernel_rfl)) (fun _ _ _ h => h) (Or.inl ⟨by rfl, ?_⟩) ?_ ?_
           rotate_left
           ·intro w'
            go_simp
            with_reducible rfl
           rotate_left
           ·exact qp_
           refine last_ (i := 9) (N := none) #[true, true, true, true, true, true, true, true, true, true] rfl rfl (one_of HT_.out (by kernel_rfl)) (by decide) (fun K hK => ?_)
           refine skip_ (w1 := ?_) (by rfl) rfl ?_ ?_
           rotate_left
           ·go_simp
            rfl
           refine hK.out _ _ ?_
           clear hK K
           refine done_ (done_of HT_.out (by kernel_rfl)) ?_
           try go_wp2
           go_roundg k1
           case measure => have := HK1.out; omega
           case rel => exact ⟨(y184), (wrap64 (x19_1 + 1)), qs_, H', ⟨by have := HK1.out; omega⟩, ⟨by (with_reducible repeat (first | apply Kd.R_alloc | apply Kd.R_drewN | apply Kd.R_drew)); exact HQ27.out⟩, ⟨by refine qd_ ?_; refine blk_far ?_ (by have h_ := Kd.R_ne HO_5.out BK174.out (by decide); intro e_; exact h_ (by rw [e_]; rfl)) _; refine qd_ ?_; exact BK174.out⟩, ⟨by repeat (first | (with_reducible first | exact HB.out | apply below_alloc | apply pw_below_drewN | apply below_drew1 | refine below_set ?_ GB18.out | refine below_set ?_ GE174.out | refine below_set ?_ GE179.out) | exact HB.out)⟩⟩
          ·rw [if_neg c16] at H
           exact absurd H (by simp)
         ·rw [if_neg c15] at H
          exact absurd H (by simp)
        ·replace c14 := Bool.eq_false_iff.mpr c14
         subst c14
         have H1 : (meeting_hall_weigh__meeting_one.l0 k1 x5_1 l0_9 (l0_9.length : Int) (wrap64 (x19_1 + 1)) a0_0 a0_1 a0_2 a0_3 a0_4 a0_5 a0_6 a0_7 l0_8 l0_9 l0_10 a0_11 l0_12) = some r := by rw [if_neg (show ¬ (false = true) by decide)] at H; exact H
         clear H
         have H := H1
         clear H1
         have H' := Aside0.mk H
         clear H
         have p178 : 0 ≤ (x19_1 : Int) := of_decide_eq_true qa_
         have q178 : x19_1 < (l0_9.length : Int) := of_decide_eq_true qa_
         obtain ⟨ad178, e178, hx178_0, hx178_1, hx178_2⟩ := at_T43 HR0_9.out x19_1 p178 q178
         cases e178
         replace hx178_0 := (HB.out.cell (World.block_lt_of_cell? w _ hx178_0)).trans hx178_0
         replace hx178_1 := (HB.out.cell (World.block_lt_of_cell? w _ hx178_1)).trans hx178_1
         replace hx178_2 := (HB.out.cell (World.block_lt_of_cell? w _ hx178_2)).trans hx178_2
         replace p178 := eq_true p178
         replace q178 := eq_true q178
         go_wp2_with (first | ((with_reducible refine gate_dst (N := 7) rfl ?_); refine box_event ?hg (N := 7) ?hd (cs := #[.int .i64 0, .int .i64 0, .int .i64 0]) (t := 43) ?hr ?_; (case hd => rfl); (case hg => rfl); (case hr => first | (go_simp; done) | (go_simp; rfl)); intro gb179 hg w28 hbox hb; have n0_ := Aside0.mk (Kd.R_below (qr_ HO_5) hb); have n1_ := qkb_ BK174 hb; have n2_ := qbs_ hb; have n3_ := Aside0.mk (hbox); have n4_ := Aside0.mk ((qg_ hg : w.heap.size ≤ gb179)); have n5_ := Aside0.mk ((qg_ hg : w.heap.size ≤ gb179)); have n6_ := Aside0.mk ((by rw [hg]; exact Nat.ne_of_lt (blk_lt (qk_ BK174)) : gb174 ≠ gb179)); have n7_ := Aside0.mk ((by rw [hg]; exact Nat.ne_of_gt (blk_lt (qk_ BK174)) : gb179 ≠ gb174)); clear HO_5 BK174 HB; have HO_5 := n0_; have BK174 := n1_; have HB := n2_; have BK179 := n3_; have GW179 := n4_; have GE179 := n5_; have NB174_179 := n6_; have NB179_174 := n7_; clear n0_ n1_ n2_ n3_ n4_ n5_ n6_ n7_ hb hbox hg; have hnb29 := NB179_174.out; have hnc29 := NB174_179.out; obtain ⟨hcz30_0, hcz30_1, hcz30_2⟩ := qz3_ BK179; obtain ⟨hfz30_0, hfz30_1, hfz30_2⟩ := qf3_ BK179; obtain ⟨hcz31_0, hcz31_1, hcz31_2, hcz31_3, hcz31_4, hcz31_5, hcz31_6, hcz31_7, hcz31_8, hcz31_9, hcz31_10, hcz31_11, hcz31_12⟩ := qz13_ BK174; obtain ⟨hfz31_0, hfz31_1, hfz31_2, hfz31_3, hfz31_4, hfz31_5, hfz31_6, hfz31_7, hfz31_8, hfz31_9, hfz31_10, hfz31_11, hfz31_12⟩ := qf13_ BK174) | ((with_reducible refine gate_callee (f := 57) rfl ?_); refine goesL_ (some 27) rfl rfl Try.func57 (by kernel_rfl) rfl #[.agg #[.int .i64 a0_0, .int .i64 a0_1, .int .i64 a0_2, .int .i64 a0_3, .bool a0_4, .int .i64 a0_5, .int .i64 a0_6, .int .i64 a0_7, .slice A0_8 l0_8.length c0_8, .slice (some ad178) l0_9.length c0_9, .slice A0_10 l0_10.length c0_10, .string a0_11, .slice A0_12 l0_12.length c0_12], .int .i64 x19_1] rfl ql_ ?_; (with_reducible refine (meeting_hall_by.calls k1 a0_0 a0_1 a0_2 a0_3 a0_4 a0_5 a0_6 a0_7 _ _ l0_8 _ _ l0_9 _ _ l0_10 a0_11 _ _ l0_12 x19_1 t180 false _ ?side1 ?side2 ?side3 ?side4 ?side5 ?side6 ?side7 ?side8 A13.out).mono ?_); (case side1 => exact Kd.C_below HR0_8.out qb_); (case side2 => exact HC0_8.out); (case side3 => exact Kd.C_below HR0_9.out qb_); (case side4 => exact HC0_9.out); (case side5 => exact Kd.C_below HR0_10.out qb_); (case side6 => exact HC0_10.out); (case side7 => exact Kd.C_below HR0_12.out qb_); (case side8 => exact HC0_12.out); rintro e w32 ⟨rfl, hb⟩; refine ⟨_, rfl, ?_⟩; have n0_ := Aside0.mk (Kd.R_below (by (with_reducible repeat (first | apply Kd.R_alloc | apply Kd.R_drewN | apply Kd.R_drew)); exact (Kd.R_mono (Kd.R_far (p := ⟨gb179, 2, none⟩) (Kd.R_far (p := ⟨gb179, 1, none⟩) (Kd.R_far (p := ⟨gb179, 0, none⟩) (Kd.R_types HO_5.out BK179.out (by decide)) (fun _ hk => hk.2) (.int .i64 ((rd_T43 l0_9 x19_1).f0))) (fun _ hk => hk.2) (.int .i64 ((rd_T43 l0_9 x19_1).f1))) (fun _ hk => hk.2) (.int .i64 ((rd_T43 l0_9 x19_1).f2))) (fun _ h_ => h_.1))) hb); have n1_ := Aside0.mk (blk_below (g := gb174) (o := .cells #[.int .i64 a0_0, .int .i64 a0_1, .int .i64 a0_2, .int .i64 a0_3, .bool a0_4, .int .i64 a0_5, .int .i64 a0_6, .int .i64 a0_7, .slice A0_8 l0_8.length c0_8, .slice (some ad178) l0_9.length c0_9, .slice A0_10 l0_10.length c0_10, .string a0_11, .slice A0_12 l0_12.length c0_12] 62 (0, 0)) (by refine qd_ ?_; refine blk_far ?_ NB174_179.out _; refine qd_ ?_; refine blk_far ?_ NB174_179.out _; refine qd_ ?_; refine blk_far ?_ NB174_179.out _; refine qd_ ?_; exact BK174.out) hb); have n2_ := Aside0.mk (blk_below (g := gb179) (o := .cells #[.int .i64 ((rd_T43 l0_9 x19_1).f0), .int .i64 ((rd_T43 l0_9 x19_1).f1), .int .i64 ((rd_T43 l0_9 x19_1).f2)] 43 (0, 0)) (by refine qd_ ?_; refine blk_put (cs := #[.int .i64 ((rd_T43 l0_9 x19_1).f0), .int .i64 ((rd_T43 l0_9 x19_1).f1), .int .i64 0]) ?_ 2 _ rfl; refine qd_ ?_; refine blk_put (cs := #[.int .i64 ((rd_T43 l0_9 x19_1).f0), .int .i64 0, .int .i64 0]) ?_ 1 _ rfl; refine qd_ ?_; refine blk_put (cs := #[.int .i64 0, .int .i64 0, .int .i64 0]) ?_ 0 _ rfl; refine qd_ ?_; exact BK179.out) hb); have n3_ := qbs_ hb; clear HO_5 BK174 BK179 HB; have HO_5 := n0_; have BK174 := n1_; have BK179 := n2_; have HB := n3_; clear n0_ n1_ n2_ n3_; (try clear hb); (try clear hb2); (try clear hk); (try clear hi)))
         go_roundg k1
         case measure => have := HK1.out; omega
         case rel => exact ⟨(x5_1), (wrap64 (x19_1 + 1)), qs_, H', ⟨by have := HK1.out; omega⟩, ⟨by (with_reducible repeat (first | apply Kd.R_alloc | apply Kd.R_drewN | apply Kd.R_drew)); exact HO_5.out⟩, ⟨qk_ BK174⟩, ⟨qb_⟩⟩
       ·rw [if_neg c12] at H
        exact absurd H (by simp)
      ·rw [if_neg c11] at H
       exact absurd H (by simp)
     ·rw [if_neg c10] at H
      have c10b0 : decide (x19_1 < (l0_9.length : Int)) = false := decide_eq_false c10
      clear c10
      obtain rfl := Option.some.inj H
      go_wp2
      go_ret
      exact ⟨_, qx_, by (with_reducible repeat (first | apply Kd.R_alloc | apply Kd.R_drewN | apply Kd.R_drew)); exact HO_5.out, qb_⟩
  ·rw [if_neg c4] at H
   exact absurd H (by simp)
 ·rw [if_neg c3] at H
  exact absurd H (by simp)
-- NOT PRINTED: function 76 (slices_IndexFunc_int_int)
-- NOT PRINTED: function 64 (slices_ContainsFunc_int_int)
end Go.Proofs.Ytemnlgefngjliaa.Px
