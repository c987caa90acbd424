/- Contracts of Go functions, printed. Conditions: as each theorem states. -/
import Derived.Test.YtheibjkjmkanoaaPx0
import Derived.Test.YtheibjkjmkanoaaPx11
import Derived.Test.YtheibjkjmkanoaaPx19
import Derived.Test.YtheibjkjmkanoaaPx20
import Derived.Test.YtheibjkjmkanoaaPx34
import Derived.Test.YtheibjkjmkanoaaPx38
import Derived.Test.YtheibjkjmkanoaaWkC
import Derived.Test.YtheibjkjmkanoaaGBy
import Derived.Test.YtheibjkjmkanoaaWkJ
import Derived.Test.YtheibjkjmkanoaaPx5
namespace Go.Proofs.Ytheibjkjmkanoaa.Px
open Go.Proofs.Ytheibjkjmkanoaa.Given
open Go.RowKit Go.Proofs.YtheibjkjmkanoaaW.PrintWords Go.Proofs.YtheibjkjmkanoaaW.PrintLast Go.Proofs.YtheibjkjmkanoaaW.PrintMore
attribute [local go_sem] a3r a3s a4e a4f a3k a3l a3t a3u
set_option linter.unusedVariables false
set_option linter.unusedSimpArgs false
mutual
def a0m.l0 : Nat → List (S51) → Bool → Int → Int → Int → Int → Int → Option (Bool)
 | 0, _, _, _, _, _, _, _ => none
 | k + 1, x0, x9, x12, x14, x15, x16, x17 => if x17 < (x0.length : Int) then (a0m.l1 k x0 x9 x12 x14 x15 x16 x17 0) else (if x9 = true then (if x14 = 0 then (if x16 = 0 then (some (x15 == 0)) else (some false)) else (some false)) else (some false))
def a0m.l1 : Nat → List (S51) → Bool → Int → Int → Int → Int → Int → Int → Option (Bool)
 | 0, _, _, _, _, _, _, _, _ => none
 | k + 1, x0, x9, x12, x14, x15, x16, x17, x18 => if 0 ≤ x17 then (if x17 < (x0.length : Int) then (if x18 < (((a0a x0 x17).f4).length : Int) then (if 0 ≤ x18 then (if (rd ((a0a x0 x17).f4) x18) = x12 then (a0m.l1 k x0 x9 x12 x14 (wrap64 (x15 - ((a0a x0 x17).f2))) x16 x17 (wrap64 (x18 + 1))) else (a0m.l1 k x0 x9 x12 x14 x15 x16 x17 (wrap64 (x18 + 1)))) else (none)) else (a0m.l0 k x0 x9 x12 x14 x15 x16 (wrap64 (x17 + 1)))) else (none)) else (none)
end
def a0m.f (k : Nat) (l0 : List (S51)) (l1 : List (S58)) (a2 a3 : Int) : Option (Bool) := (a0e.f k).bind fun t756 => ((a0v.f k l0 l1).bind fun t757 => (if t757 = true then ((a0k.f a2).bind fun t758 => ((a1e.f k l0 l1 t758).bind fun bt759 => (if bt759.2 = 0 then ((a1p.f k l0 bt759.1 (wrap64 (1 + (Int.tmod (wrap64 (a3)) 64)))).bind fun bt763 => ((a1z.f k bt763.1).bind fun bt767 => (a0m.l0 k l0 t756 (wrap64 (1 + (Int.tmod (wrap64 (a3)) 64))) bt763.2 bt767.1 bt767.2 0))) else (some t756)))) else (some t756)))
theorem a0m.a1t : ∀ k, (∀ y0 y1 y2 y3 y4 y5 y6, LeO (a0m.l0 k y0 y1 y2 y3 y4 y5 y6) (a0m.l0 (k + 1) y0 y1 y2 y3 y4 y5 y6)) ∧ (∀ y0 y1 y2 y3 y4 y5 y6 y7, LeO (a0m.l1 k y0 y1 y2 y3 y4 y5 y6 y7) (a0m.l1 (k + 1) y0 y1 y2 y3 y4 y5 y6 y7))
 | 0 => ⟨fun _ _ _ _ _ _ _ r h => by simp [a0m.l0] at h, fun _ _ _ _ _ _ _ _ r h => by simp [a0m.l1] at h⟩
 | k + 1 => by
  obtain ⟨ih0, ih1⟩ := a0m.a1t k
  refine ⟨?_, ?_⟩
  ·intro y0 y1 y2 y3 y4 y5 y6
   unfold a0m.l0
   with_reducible (repeat' first | apply ih0 | apply ih1 | apply a0e.mono | apply a0v.mono | apply a1z.mono | apply a1e.mono | apply a1p.mono | apply LeO.refl | apply LeO.none | apply LeO.ite | refine LeO.bind ?_ (fun _ => ?_))
  ·intro y0 y1 y2 y3 y4 y5 y6 y7
   unfold a0m.l1
   with_reducible (repeat' first | apply ih0 | apply ih1 | apply a0e.mono | apply a0v.mono | apply a1z.mono | apply a1e.mono | apply a1p.mono | apply LeO.refl | apply LeO.none | apply LeO.ite | refine LeO.bind ?_ (fun _ => ?_))
theorem a0m.mono : ∀ a0 a1 a2 a3 k, LeO (a0m.f k a0 a1 a2 a3) (a0m.f (k + 1) a0 a1 a2 a3) := by
 intro a0 a1 a2 a3 k
 obtain ⟨ih0, ih1⟩ := a0m.a1t k
 unfold a0m.f
 with_reducible (repeat' first | apply ih0 | apply ih1 | apply a0e.mono | apply a0v.mono | apply a1z.mono | apply a1e.mono | apply a1p.mono | apply LeO.refl | apply LeO.none | apply LeO.ite | refine LeO.bind ?_ (fun _ => ?_))
set_option maxHeartbeats 8000000 in
set_option maxRecDepth 100000 in
theorem a0m.calls (k : Nat) (A0 : Option Addr) (c0 : Nat) (l0 : List (S51)) (A1 : Option Addr) (c1 : Nat) (l1 : List (S58)) (a2 a3 : Int) (r : Bool) (w : World) (hr0 : Kd.C k51 w A0 l0.length l0) (hc0 : l0.length ≤ c0) (hr1 : Kd.C k58 w A1 l1.length l1) (hc1 : l1.length ≤ c1) (h : a0m.f k l0 l1 a2 a3 = some r) :
  Calls Try.prog 8 #[.slice A0 l0.length c0, .slice A1 l1.length c1, .int .u16 a2, .int .u8 a3] w fun e w' => e = .returned (.bool r) ∧ Below w.heap.size w w' := by
 have HR0 := Aside0.mk hr0
 have HC0 := Aside0.mk hc0
 clear hr0 hc0
 have HR1 := Aside0.mk hr1
 have HC1 := Aside0.mk hc1
 clear hr1 hc1
 have HB := Aside0.mk (Below.refl w.heap.size w)
 have H : ((a0e.f k).bind fun t756 => ((a0v.f k l0 l1).bind fun t757 => (if t757 = true then ((a0k.f a2).bind fun t758 => ((a1e.f k l0 l1 t758).bind fun bt759 => (if bt759.2 = 0 then ((a1p.f k l0 bt759.1 (wrap64 (1 + (Int.tmod (wrap64 (a3)) 64)))).bind fun bt763 => ((a1z.f k bt763.1).bind fun bt767 => (a0m.l0 k l0 t756 (wrap64 (1 + (Int.tmod (wrap64 (a3)) 64))) bt763.2 bt767.1 bt767.2 0))) else (some t756)))) else (some t756)))) = some r := h
 clear h
 replace H := Option.bind_eq_some_iff.mp H
 obtain ⟨t756, A50, H⟩ := H
 replace H : ((a0v.f k l0 l1).bind fun t757 => (if t757 = true then ((a0k.f a2).bind fun t758 => ((a1e.f k l0 l1 t758).bind fun bt759 => (if bt759.2 = 0 then ((a1p.f k l0 bt759.1 (wrap64 (1 + (Int.tmod (wrap64 (a3)) 64)))).bind fun bt763 => ((a1z.f k bt763.1).bind fun bt767 => (a0m.l0 k l0 t756 (wrap64 (1 + (Int.tmod (wrap64 (a3)) 64))) bt763.2 bt767.1 bt767.2 0))) else (some t756)))) else (some t756))) = some r := H
 have A5 := Aside0.mk A50
 clear A50
 replace H := Option.bind_eq_some_iff.mp H
 obtain ⟨t757, A60, H⟩ := H
 replace H : (if t757 = true then ((a0k.f a2).bind fun t758 => ((a1e.f k l0 l1 t758).bind fun bt759 => (if bt759.2 = 0 then ((a1p.f k l0 bt759.1 (wrap64 (1 + (Int.tmod (wrap64 (a3)) 64)))).bind fun bt763 => ((a1z.f k bt763.1).bind fun bt767 => (a0m.l0 k l0 t756 (wrap64 (1 + (Int.tmod (wrap64 (a3)) 64))) bt763.2 bt767.1 bt767.2 0))) else (some t756)))) else (some t756)) = some r := H
 have A6 := Aside0.mk A60
 clear A60
 by_cases c7 : t757 = true
 ·subst c7
  have H1 : ((a0k.f a2).bind fun t758 => ((a1e.f k l0 l1 t758).bind fun bt759 => (if bt759.2 = 0 then ((a1p.f k l0 bt759.1 (wrap64 (1 + (Int.tmod (wrap64 (a3)) 64)))).bind fun bt763 => ((a1z.f k bt763.1).bind fun bt767 => (a0m.l0 k l0 t756 (wrap64 (1 + (Int.tmod (wrap64 (a3)) 64))) bt763.2 bt767.1 bt767.2 0))) else (some t756)))) = some r := by rw [if_pos rfl] at H; exact H
  clear H
  have H := H1
  clear H1
  replace H := Option.bind_eq_some_iff.mp H
  obtain ⟨t758, A80, H⟩ := H
  replace H : ((a1e.f k l0 l1 t758).bind fun bt759 => (if bt759.2 = 0 then ((a1p.f k l0 bt759.1 (wrap64 (1 + (Int.tmod (wrap64 (a3)) 64)))).bind fun bt763 => ((a1z.f k bt763.1).bind fun bt767 => (a0m.l0 k l0 t756 (wrap64 (1 + (Int.tmod (wrap64 (a3)) 64))) bt763.2 bt767.1 bt767.2 0))) else (some t756))) = some r := H
  have A8 := Aside0.mk A80
  clear A80
  replace H := Option.bind_eq_some_iff.mp H
  obtain ⟨⟨t759, t760⟩, A90, H⟩ := H
  replace H : (if t760 = 0 then ((a1p.f k l0 t759 (wrap64 (1 + (Int.tmod (wrap64 (a3)) 64)))).bind fun bt763 => ((a1z.f k bt763.1).bind fun bt767 => (a0m.l0 k l0 t756 (wrap64 (1 + (Int.tmod (wrap64 (a3)) 64))) bt763.2 bt767.1 bt767.2 0))) else (some t756)) = some r := H
  have A9 := Aside0.mk A90
  clear A90
  by_cases c10 : t760 = 0
  ·rw [if_pos c10] at H
   have c10b0 : (t760 == 0) = true := beq_iff_eq.mpr c10
   have c10b1 : (t760 != 0) = false := bne_eq_false_iff_eq.mpr c10
   clear c10
   replace H := Option.bind_eq_some_iff.mp H
   obtain ⟨⟨t763, t764⟩, A110, H⟩ := H
   replace H : ((a1z.f k t763).bind fun bt767 => (a0m.l0 k l0 t756 (wrap64 (1 + (Int.tmod (wrap64 (a3)) 64))) t764 bt767.1 bt767.2 0)) = some r := H
   have A11 := Aside0.mk A110
   clear A110
   replace H := Option.bind_eq_some_iff.mp H
   obtain ⟨⟨t767, t768⟩, A120, H⟩ := H
   replace H : (a0m.l0 k l0 t756 (wrap64 (1 + (Int.tmod (wrap64 (a3)) 64))) t764 t767 t768 0) = some r := H
   have A12 := Aside0.mk A120
   clear A120
   have H' := Aside0.mk H
   clear H
   go_enter Try.func8, Try.ntmps8
   go_wp2_with (first | ((with_reducible refine a0i (f := 10) rfl ?_); refine a1i (some 19) rfl rfl Try.func10 (by kernel_rfl) rfl #[] rfl ql_ ?_; (with_reducible refine (a0e.calls k  t756 _ A5.out).mono ?_); rintro e w13 ⟨rfl, hb⟩; refine ⟨_, rfl, ?_⟩; replace HB := qbs_ hb; (try clear hb); (try clear hb2); (try clear hk); (try clear hi)) | ((with_reducible refine a0i (f := 24) rfl ?_); refine a1i (some 22) rfl rfl Try.func24 (by kernel_rfl) rfl #[.slice A0 l0.length c0, .slice A1 l1.length c1] rfl ql_ ?_; (with_reducible refine (a0v.calls k _ _ l0 _ _ l1 true _ ?s1 ?s2 ?s3 ?s4 A6.out).mono ?_); (case s1 => exact qc_ HR0); (case s2 => exact HC0.out); (case s3 => exact qc_ HR1); (case s4 => exact HC1.out); rintro e w14 ⟨rfl, hb⟩; refine ⟨_, rfl, ?_⟩; replace HB := qbs_ hb; (try clear hb); (try clear hb2); (try clear hk); (try clear hi)) | ((with_reducible refine a0i (f := 25) rfl ?_); refine a1i (some 29) rfl rfl Try.func25 (by kernel_rfl) rfl #[.int .u16 a2] rfl ql_ ?_; (with_reducible refine (a0k.calls a2 t758 _ A8.out).mono ?_); rintro e w' ⟨rfl, ⟨nd, rfl⟩⟩; refine ⟨_, rfl, ?_⟩) | ((with_reducible refine a0i (f := 12) rfl ?_); refine a1i (some 30) rfl rfl Try.func12 (by kernel_rfl) rfl #[.slice A0 l0.length c0, .slice A1 l1.length c1, .int .i64 t758] rfl ql_ ?_; (with_reducible refine (a1e.calls k _ _ l0 _ _ l1 t758 t759 t760 _ ?s1 ?s2 ?s3 ?s4 A9.out).mono ?_); (case s1 => repeat (first | exact (Kd.a1l HR0.out qb_) | (with_reducible refine Kd.a1b ?_ _) | (with_reducible refine Kd.a1c ?_ _) | (with_reducible refine Kd.a1k ?_))); (case s2 => exact HC0.out); (case s3 => repeat (first | exact (Kd.a1l HR1.out qb_) | (with_reducible refine Kd.a1b ?_ _) | (with_reducible refine Kd.a1c ?_ _) | (with_reducible refine Kd.a1k ?_))); (case s4 => exact HC1.out); rintro e w15 ⟨v761, rfl, ho0, hb⟩; refine ⟨_, rfl, ?_⟩; have HO762 := Aside0.mk (Kd.a3b ho0 (a0r qb_)); replace HB := qbs_ hb; (try clear hb); (try clear hb2); (try clear hk); (try clear hi); (try clear ho0); obtain ⟨Ao16, co16, eo16⟩ := Kd.a3c HO762.out; subst eo16) | ((with_reducible refine a0i (f := 21) rfl ?_); refine a1i (some 44) rfl rfl Try.func21 (by kernel_rfl) rfl #[.slice A0 l0.length c0, .slice Ao16 t759.length co16, .int .i64 (wrap64 (1 + (Int.tmod (wrap64 (a3)) 64)))] rfl ql_ ?_; (with_reducible refine (a1p.calls k _ _ l0 _ _ t759 (wrap64 (1 + (Int.tmod (wrap64 (a3)) 64))) t763 t764 _ ?s1 ?s2 ?s3 ?s4 A11.out).mono ?_); (case s1 => exact qc_ HR0); (case s2 => exact HC0.out); (case s3 => exact qv_ (Kd.a1g HO762.out).2.2); (case s4 => exact (Kd.a1g HO762.out).2.1); rintro e w17 ⟨v765, rfl, ho0, hb⟩; refine ⟨_, rfl, ?_⟩; replace HO762 := qrb_ HO762 hb; have HO766 := Aside0.mk (Kd.a3b ho0 (a0r qb_)); replace HB := qbs_ hb; (try clear hb); (try clear hb2); (try clear hk); (try clear hi); (try clear ho0); obtain ⟨Ao18, co18, eo18⟩ := Kd.a3c HO766.out; subst eo18) | ((with_reducible refine a0i (f := 27) rfl ?_); refine a1i (some 49) rfl rfl Try.func27 (by kernel_rfl) rfl #[.slice Ao18 t763.length co18] rfl ql_ ?_; (with_reducible refine (a1z.calls k _ _ t763 t767 t768 _ ?s1 ?s2 A12.out).mono ?_); (case s1 => exact qv_ (Kd.a1g HO766.out).2.2); (case s2 => exact (Kd.a1g HO766.out).2.1); rintro e w19 ⟨rfl, hb⟩; refine ⟨_, rfl, ?_⟩; replace HO762 := qrb_ HO762 hb; replace HO766 := qrb_ HO766 hb; replace HB := qbs_ hb; (try clear hb); (try clear hb2); (try clear hk); (try clear hi)))
   go_loopg [15, 17] k (fun kq v15 v17 w' => ∃ (x15_1 : Int) (x17_1 : Int), v15 = .int .i64 x15_1 ∧ v17 = .int .i64 x17_1 ∧ Aside0 (a0m.l0 kq l0 t756 (wrap64 (1 + (Int.tmod (wrap64 (a3)) 64))) t764 x15_1 t768 x17_1 = some r) ∧ Aside0 (kq ≤ k) ∧ Aside0 (Below w.heap.size w w'))
   case atStart => exact ⟨(t767), (0), qs_, qs_, H', ⟨Nat.le_refl _⟩, ⟨qb_⟩⟩
   case round =>
    clear H'
    try clear c1
    try clear c2
    try clear p2
    try clear p6
    try clear c7
    try clear c8
    try clear c10
    try clear c10b0
    try clear c10b1
    try clear c12
    obtain ⟨x15_1, x17_1, rfl, rfl, HA, HK1, HB⟩ := hrel
    cases gk with
    | zero => exact absurd HA.out (by simp [a0m.l0])
    | succ k1 =>
     have H := HA.out
     clear HA
     simp only [a0m.l0] at H
     by_cases c20 : x17_1 < (l0.length : Int)
     ·rw [if_pos c20] at H
      have c20b0 : decide (x17_1 < (l0.length : Int)) = true := decide_eq_true c20
      clear c20
      have H' := Aside0.mk H
      clear H
      go_wp2
      go_loopg [15, 18] k1 (fun kq v15 v18 w' => ∃ (x15_2 : Int) (x18_2 : Int), v15 = .int .i64 x15_2 ∧ v18 = .int .i64 x18_2 ∧ Aside0 (a0m.l1 kq l0 t756 (wrap64 (1 + (Int.tmod (wrap64 (a3)) 64))) t764 x15_2 t768 x17_1 x18_2 = some r) ∧ Aside0 (kq ≤ k1) ∧ Aside0 (Below w.heap.size w w'))
      case atStart => exact ⟨(x15_1), (0), qs_, qs_, H', ⟨Nat.le_refl _⟩, ⟨qb_⟩⟩
      case round =>
       clear H'
       try clear c1
       try clear c2
       try clear p2
       try clear p6
       try clear c7
       try clear c8
       try clear c10
       try clear c10b0
       try clear c10b1
       try clear c12
       try clear c20
       try clear c20b0
       try clear p2
       try clear p6
       obtain ⟨x15_2, x18_2, rfl, rfl, HA, HK2, HB⟩ := hrel
       cases gk with
       | zero => exact absurd HA.out (by simp [a0m.l1])
       | succ k2 =>
        have H := HA.out
        clear HA
        simp only [a0m.l1] at H
        by_cases c21 : 0 ≤ x17_1
        ·rw [if_pos c21] at H
         have c21b0 : decide (0 ≤ x17_1) = true := decide_eq_true c21
         clear c21
         by_cases c22 : x17_1 < (l0.length : Int)
         ·rw [if_pos c22] at H
          have c22b0 : decide (x17_1 < (l0.length : Int)) = true := decide_eq_true c22
          clear c22
          by_cases c23 : x18_2 < (((a0a l0 x17_1).f4).length : Int)
          ·rw [if_pos c23] at H
           have c23b0 : decide (x18_2 < (((a0a l0 x17_1).f4).length : Int)) = true := decide_eq_true c23
           clear c23
           by_cases c24 : 0 ≤ x18_2
           ·rw [if_pos c24] at H
            have c24b0 : decide (0 ≤ x18_2) = true := decide_eq_true c24
            clear c24
            by_cases c25 : (rd ((a0a l0 x17_1).f4) x18_2) = (wrap64 (1 + (Int.tmod (wrap64 (a3)) 64)))
            ·rw [if_pos c25] at H
             have c25b0 : ((rd ((a0a l0 x17_1).f4) x18_2) == (wrap64 (1 + (Int.tmod (wrap64 (a3)) 64)))) = true := beq_iff_eq.mpr c25
             have c25b1 : ((rd ((a0a l0 x17_1).f4) x18_2) != (wrap64 (1 + (Int.tmod (wrap64 (a3)) 64)))) = false := bne_eq_false_iff_eq.mpr c25
             clear c25
             have H' := Aside0.mk H
             clear H
             have p769 : 0 ≤ (x17_1 : Int) := of_decide_eq_true qa_
             have q769 : x17_1 < (l0.length : Int) := of_decide_eq_true qa_
             obtain ⟨ad769, A769_3, c769_3, A769_4, c769_4, e769, hx769_0, hx769_1, hx769_2, hx769_3, hx769_4, hl769_3, hi769_3, hl769_4, hi769_4⟩ := a4i HR0.out x17_1 p769 q769
             cases e769
             replace hx769_0 := qh_ HB hx769_0
             replace hx769_1 := qh_ HB hx769_1
             replace hx769_2 := qh_ HB hx769_2
             replace hx769_3 := qh_ HB hx769_3
             replace hx769_4 := qh_ HB hx769_4
             have HR769_3 := Aside0.mk hi769_3
             have HC769_3 := Aside0.mk hl769_3
             clear hi769_3 hl769_3
             have HR769_4 := Aside0.mk hi769_4
             have HC769_4 := Aside0.mk hl769_4
             clear hi769_4 hl769_4
             replace p769 := eq_true p769
             replace q769 := eq_true q769
             have p770 : 0 ≤ (x17_1 : Int) := of_decide_eq_true qa_
             have q770 : x17_1 < (l0.length : Int) := of_decide_eq_true qa_
             obtain ⟨ad770, A770_3, c770_3, A770_4, c770_4, e770, hx770_0, hx770_1, hx770_2, hx770_3, hx770_4, hl770_3, hi770_3, hl770_4, hi770_4⟩ := a4i HR0.out x17_1 p770 q770
             obtain rfl : ad769 = ad770 := (by injection e770)
             replace hx770_0 := qh_ HB hx770_0
             replace hx770_1 := qh_ HB hx770_1
             replace hx770_2 := qh_ HB hx770_2
             replace hx770_3 := qh_ HB hx770_3
             replace hx770_4 := qh_ HB hx770_4
             have HR770_3 := Aside0.mk hi770_3
             have HC770_3 := Aside0.mk hl770_3
             clear hi770_3 hl770_3
             have HR770_4 := Aside0.mk hi770_4
             have HC770_4 := Aside0.mk hl770_4
             clear hi770_4 hl770_4
             replace p770 := eq_true p770
             replace q770 := eq_true q770
             have ea_ := Option.some.inj (hx769_3.symm.trans hx770_3)
             injection ea_ with ea_ en_ ec_
             subst ea_
             subst ec_
             clear en_
             have ea_ := Option.some.inj (hx769_4.symm.trans hx770_4)
             injection ea_ with ea_ en_ ec_
             subst ea_
             subst ec_
             clear en_
             have p771 : 0 ≤ (x18_2 : Int) := of_decide_eq_true qa_
             have q771 : x18_2 < (((a0a l0 x17_1).f4).length : Int) := of_decide_eq_true qa_
             obtain ⟨ad771, e771, hx771_0⟩ := Kd.a4q HR770_4.out x18_2 p771 q771
             cases e771
             replace hx771_0 := qh_ HB hx771_0
             replace p771 := eq_true p771
             replace q771 := eq_true q771
             have p772 : 0 ≤ (x17_1 : Int) := of_decide_eq_true qa_
             have q772 : x17_1 < (l0.length : Int) := of_decide_eq_true qa_
             obtain ⟨ad772, A772_3, c772_3, A772_4, c772_4, e772, hx772_0, hx772_1, hx772_2, hx772_3, hx772_4, hl772_3, hi772_3, hl772_4, hi772_4⟩ := a4i HR0.out x17_1 p772 q772
             obtain rfl : ad769 = ad772 := (by injection e772)
             replace hx772_0 := qh_ HB hx772_0
             replace hx772_1 := qh_ HB hx772_1
             replace hx772_2 := qh_ HB hx772_2
             replace hx772_3 := qh_ HB hx772_3
             replace hx772_4 := qh_ HB hx772_4
             have HR772_3 := Aside0.mk hi772_3
             have HC772_3 := Aside0.mk hl772_3
             clear hi772_3 hl772_3
             have HR772_4 := Aside0.mk hi772_4
             have HC772_4 := Aside0.mk hl772_4
             clear hi772_4 hl772_4
             replace p772 := eq_true p772
             replace q772 := eq_true q772
             have ea_ := Option.some.inj (hx769_3.symm.trans hx772_3)
             injection ea_ with ea_ en_ ec_
             subst ea_
             subst ec_
             clear en_
             have ea_ := Option.some.inj (hx769_4.symm.trans hx772_4)
             injection ea_ with ea_ en_ ec_
             subst ea_
             subst ec_
             clear en_
             go_wp2
             go_roundg k2
             case measure => have := HK1.out; have := HK2.out; omega
             case rel => exact ⟨(wrap64 (x15_2 - ((a0a l0 x17_1).f2))), (wrap64 (x18_2 + 1)), qs_, qs_, H', ⟨by have := HK1.out; have := HK2.out; omega⟩, ⟨qb_⟩⟩
            ·rw [if_neg c25] at H
             have c25b0 : ((rd ((a0a l0 x17_1).f4) x18_2) == (wrap64 (1 + (Int.tmod (wrap64 (a3)) 64)))) = false := beq_eq_false_iff_ne.mpr c25
             have c25b1 : ((rd ((a0a l0 x17_1).f4) x18_2) != (wrap64 (1 + (Int.tmod (wrap64 (a3)) 64)))) = true := bne_iff_ne.mpr c25
             have H' := Aside0.mk H
             clear H
             have p769 : 0 ≤ (x17_1 : Int) := of_decide_eq_true qa_
             have q769 : x17_1 < (l0.length : Int) := of_decide_eq_true qa_
             obtain ⟨ad769, A769_3, c769_3, A769_4, c769_4, e769, hx769_0, hx769_1, hx769_2, hx769_3, hx769_4, hl769_3, hi769_3, hl769_4, hi769_4⟩ := a4i HR0.out x17_1 p769 q769
             cases e769
             replace hx769_0 := qh_ HB hx769_0
             replace hx769_1 := qh_ HB hx769_1
             replace hx769_2 := qh_ HB hx769_2
             replace hx769_3 := qh_ HB hx769_3
             replace hx769_4 := qh_ HB hx769_4
             have HR769_3 := Aside0.mk hi769_3
             have HC769_3 := Aside0.mk hl769_3
             clear hi769_3 hl769_3
             have HR769_4 := Aside0.mk hi769_4
             have HC769_4 := Aside0.mk hl769_4
             clear hi769_4 hl769_4
             replace p769 := eq_true p769
             replace q769 := eq_true q769
             have p770 : 0 ≤ (x17_1 : Int) := of_decide_eq_true qa_
             have q770 : x17_1 < (l0.length : Int) := of_decide_eq_true qa_
             obtain ⟨ad770, A770_3, c770_3, A770_4, c770_4, e770, hx770_0, hx770_1, hx770_2, hx770_3, hx770_4, hl770_3, hi770_3, hl770_4, hi770_4⟩ := a4i HR0.out x17_1 p770 q770
             obtain rfl : ad769 = ad770 := (by injection e770)
             replace hx770_0 := qh_ HB hx770_0
             replace hx770_1 := qh_ HB hx770_1
             replace hx770_2 := qh_ HB hx770_2
             replace hx770_3 := qh_ HB hx770_3
             replace hx770_4 := qh_ HB hx770_4
             have HR770_3 := Aside0.mk hi770_3
             have HC770_3 := Aside0.mk hl770_3
             clear hi770_3 hl770_3
             have HR770_4 := Aside0.mk hi770_4
             have HC770_4 := Aside0.mk hl770_4
             clear hi770_4 hl770_4
             replace p770 := eq_true p770
             replace q770 := eq_true q770
             have ea_ := Option.some.inj (hx769_3.symm.trans hx770_3)
             injection ea_ with ea_ en_ ec_
             subst ea_
             subst ec_
             clear en_
             have ea_ := Option.some.inj (hx769_4.symm.trans hx770_4)
             injection ea_ with ea_ en_ ec_
             subst ea_
             subst ec_
             clear en_
             have p771 : 0 ≤ (x18_2 : Int) := of_decide_eq_true qa_
             have q771 : x18_2 < (((a0a l0 x17_1).f4).length : Int) := of_decide_eq_true qa_
             obtain ⟨ad771, e771, hx771_0⟩ := Kd.a4q HR770_4.out x18_2 p771 q771
             cases e771
             replace hx771_0 := qh_ HB hx771_0
             replace p771 := eq_true p771
             replace q771 := eq_true q771
             go_wp2
             go_roundg k2
             case measure => have := HK1.out; have := HK2.out; omega
             case rel => exact ⟨(x15_2), (wrap64 (x18_2 + 1)), qs_, qs_, H', ⟨by have := HK1.out; have := HK2.out; omega⟩, ⟨qb_⟩⟩
           ·rw [if_neg c24] at H
            exact absurd H (by simp)
          ·rw [if_neg c23] at H
           have c23b0 : decide (x18_2 < (((a0a l0 x17_1).f4).length : Int)) = false := decide_eq_false c23
           clear c23
           have H' := Aside0.mk H
           clear H
           have p769 : 0 ≤ (x17_1 : Int) := of_decide_eq_true qa_
           have q769 : x17_1 < (l0.length : Int) := of_decide_eq_true qa_
           obtain ⟨ad769, A769_3, c769_3, A769_4, c769_4, e769, hx769_0, hx769_1, hx769_2, hx769_3, hx769_4, hl769_3, hi769_3, hl769_4, hi769_4⟩ := a4i HR0.out x17_1 p769 q769
           cases e769
           replace hx769_0 := qh_ HB hx769_0
           replace hx769_1 := qh_ HB hx769_1
           replace hx769_2 := qh_ HB hx769_2
           replace hx769_3 := qh_ HB hx769_3
           replace hx769_4 := qh_ HB hx769_4
           have HR769_3 := Aside0.mk hi769_3
           have HC769_3 := Aside0.mk hl769_3
           clear hi769_3 hl769_3
           have HR769_4 := Aside0.mk hi769_4
           have HC769_4 := Aside0.mk hl769_4
           clear hi769_4 hl769_4
           replace p769 := eq_true p769
           replace q769 := eq_true q769
           go_wp2
           go_roundg k2
           case measure => have := HK1.out; have := HK2.out; omega
           case rel => exact ⟨(x15_2), (wrap64 (x17_1 + 1)), qs_, qs_, H', ⟨by have := HK1.out; have := HK2.out; omega⟩, ⟨qb_⟩⟩
         ·rw [if_neg c22] at H
          exact absurd H (by simp)
        ·rw [if_neg c21] at H
         exact absurd H (by simp)
     ·rw [if_neg c20] at H
      have c20b0 : decide (x17_1 < (l0.length : Int)) = false := decide_eq_false c20
      clear c20
      by_cases c26 : t756 = true
      ·subst c26
       have H1 : (if t764 = 0 then (if t768 = 0 then (some (x15_1 == 0)) else (some false)) else (some false)) = some r := by rw [if_pos rfl] at H; exact H
       clear H
       have H := H1
       clear H1
       by_cases c27 : t764 = 0
       ·rw [if_pos c27] at H
        have c27b0 : (t764 == 0) = true := beq_iff_eq.mpr c27
        have c27b1 : (t764 != 0) = false := bne_eq_false_iff_eq.mpr c27
        clear c27
        by_cases c28 : t768 = 0
        ·rw [if_pos c28] at H
         have c28b0 : (t768 == 0) = true := beq_iff_eq.mpr c28
         have c28b1 : (t768 != 0) = false := bne_eq_false_iff_eq.mpr c28
         clear c28
         obtain rfl := Option.some.inj H
         go_wp2
         go_ret
         exact ⟨qx_, qb_⟩
        ·rw [if_neg c28] at H
         have c28b0 : (t768 == 0) = false := beq_eq_false_iff_ne.mpr c28
         have c28b1 : (t768 != 0) = true := bne_iff_ne.mpr c28
         obtain rfl := Option.some.inj H
         go_wp2
         go_ret
         exact ⟨qx_, qb_⟩
       ·rw [if_neg c27] at H
        have c27b0 : (t764 == 0) = false := beq_eq_false_iff_ne.mpr c27
        have c27b1 : (t764 != 0) = true := bne_iff_ne.mpr c27
        obtain rfl := Option.some.inj H
        go_wp2
        go_ret
        exact ⟨qx_, qb_⟩
      ·replace c26 := Bool.eq_false_iff.mpr c26
       subst c26
       have H1 : (some false) = some r := by rw [if_neg (show ¬ (false = true) by decide)] at H; exact H
       clear H
       have H := H1
       clear H1
       obtain rfl := Option.some.inj H
       go_wp2
       go_ret
       exact ⟨qx_, qb_⟩
  ·rw [if_neg c10] at H
   have c10b0 : (t760 == 0) = false := beq_eq_false_iff_ne.mpr c10
   have c10b1 : (t760 != 0) = true := bne_iff_ne.mpr c10
   obtain rfl := Option.some.inj H
   go_enter Try.func8, Try.ntmps8
   go_wp2_with (first | ((with_reducible refine a0i (f := 10) rfl ?_); refine a1i (some 19) rfl rfl Try.func10 (by kernel_rfl) rfl #[] rfl ql_ ?_; (with_reducible refine (a0e.calls k  t756 _ A5.out).mono ?_); rintro e w29 ⟨rfl, hb⟩; refine ⟨_, rfl, ?_⟩; replace HB := qbs_ hb; (try clear hb); (try clear hb2); (try clear hk); (try clear hi)) | ((with_reducible refine a0i (f := 24) rfl ?_); refine a1i (some 22) rfl rfl Try.func24 (by kernel_rfl) rfl #[.slice A0 l0.length c0, .slice A1 l1.length c1] rfl ql_ ?_; (with_reducible refine (a0v.calls k _ _ l0 _ _ l1 true _ ?s1 ?s2 ?s3 ?s4 A6.out).mono ?_); (case s1 => exact qc_ HR0); (case s2 => exact HC0.out); (case s3 => exact qc_ HR1); (case s4 => exact HC1.out); rintro e w30 ⟨rfl, hb⟩; refine ⟨_, rfl, ?_⟩; replace HB := qbs_ hb; (try clear hb); (try clear hb2); (try clear hk); (try clear hi)) | ((with_reducible refine a0i (f := 25) rfl ?_); refine a1i (some 29) rfl rfl Try.func25 (by kernel_rfl) rfl #[.int .u16 a2] rfl ql_ ?_; (with_reducible refine (a0k.calls a2 t758 _ A8.out).mono ?_); rintro e w' ⟨rfl, ⟨nd, rfl⟩⟩; refine ⟨_, rfl, ?_⟩) | ((with_reducible refine a0i (f := 12) rfl ?_); refine a1i (some 30) rfl rfl Try.func12 (by kernel_rfl) rfl #[.slice A0 l0.length c0, .slice A1 l1.length c1, .int .i64 t758] rfl ql_ ?_; (with_reducible refine (a1e.calls k _ _ l0 _ _ l1 t758 t759 t760 _ ?s1 ?s2 ?s3 ?s4 A9.out).mono ?_); (case s1 => repeat (first | exact (Kd.a1l HR0.out qb_) | (with_reducible refine Kd.a1b ?_ _) | (with_reducible refine Kd.a1c ?_ _) | (with_reducible refine Kd.a1k ?_))); (case s2 => exact HC0.out); (case s3 => repeat (first | exact (Kd.a1l HR1.out qb_) | (with_reducible refine Kd.a1b ?_ _) | (with_reducible refine Kd.a1c ?_ _) | (with_reducible refine Kd.a1k ?_))); (case s4 => exact HC1.out); rintro e w31 ⟨v761, rfl, ho0, hb⟩; refine ⟨_, rfl, ?_⟩; have HO762 := Aside0.mk (Kd.a3b ho0 (a0r qb_)); replace HB := qbs_ hb; (try clear hb); (try clear hb2); (try clear hk); (try clear hi); (try clear ho0)))
   go_ret
   exact ⟨qx_, qb_⟩
 ·replace c7 := Bool.eq_false_iff.mpr c7
  subst c7
  have H1 : (some t756) = some r := by rw [if_neg (show ¬ (false = true) by decide)] at H; exact H
  clear H
  have H := H1
  clear H1
  obtain rfl := Option.some.inj H
  go_enter Try.func8, Try.ntmps8
  go_wp2_with (first | ((with_reducible refine a0i (f := 10) rfl ?_); refine a1i (some 19) rfl rfl Try.func10 (by kernel_rfl) rfl #[] rfl ql_ ?_; (with_reducible refine (a0e.calls k  t756 _ A5.out).mono ?_); rintro e w32 ⟨rfl, hb⟩; refine ⟨_, rfl, ?_⟩; replace HB := qbs_ hb; (try clear hb); (try clear hb2); (try clear hk); (try clear hi)) | ((with_reducible refine a0i (f := 24) rfl ?_); refine a1i (some 22) rfl rfl Try.func24 (by kernel_rfl) rfl #[.slice A0 l0.length c0, .slice A1 l1.length c1] rfl ql_ ?_; (with_reducible refine (a0v.calls k _ _ l0 _ _ l1 false _ ?s1 ?s2 ?s3 ?s4 A6.out).mono ?_); (case s1 => exact qc_ HR0); (case s2 => exact HC0.out); (case s3 => exact qc_ HR1); (case s4 => exact HC1.out); rintro e w33 ⟨rfl, hb⟩; refine ⟨_, rfl, ?_⟩; replace HB := qbs_ hb; (try clear hb); (try clear hb2); (try clear hk); (try clear hi)))
  go_ret
  exact ⟨qx_, qb_⟩
end Go.Proofs.Ytheibjkjmkanoaa.Px
/- The days on which a room is taken: what works and its reference say. Conditions: as each theorem states. -/
namespace Go.Proofs.Ytheibjkjmkanoaa.Wk
open Go.RowKit Go.Sort Go.Proofs.YtheibjkjmkanoaaW.PrintWords Go.Proofs.YtheibjkjmkanoaaW.PrintMore Go.Proofs.Ytheibjkjmkanoaa.Given Go.Proofs.Ytheibjkjmkanoaa.Px
set_option linter.unusedVariables false
set_option linter.unusedSimpArgs false
def hasD (l : List S56) (d : Int) : Prop := ∃ x ∈ l, x.f0 ≤ d ∧ d < x.f1
def spA (l : List S56) : Prop := ∀ i : Int, 0 ≤ i → i < l.length → spG l i
theorem a8u {l : List S56} {x : S56} : x ∈ l ↔ ∃ i : Int, 0 ≤ i ∧ i < l.length ∧ a0h l i = x := by
 rw [List.mem_iff_getElem]
 constructor
 ·rintro ⟨i, h, e⟩
  exact ⟨i, by omega, by omega, by rw [b5l l h]; exact e⟩
 ·rintro ⟨i, i0, i1, e⟩
  refine ⟨i.toNat, by omega, ?_⟩
  rw [← b5l l (by omega), Int.toNat_of_nonneg i0]
  exact e
theorem b2k {l : List S56} {d : Int} : hasD l d ↔ ∃ i : Int, 0 ≤ i ∧ i < l.length ∧ (a0h l i).f0 ≤ d ∧ d < (a0h l i).f1 := by
 constructor
 ·rintro ⟨x, hx, h⟩
  obtain ⟨i, i0, i1, e⟩ := a8u.1 hx
  exact ⟨i, i0, i1, by rw [e]; exact h⟩
 ·rintro ⟨i, i0, i1, h⟩
  exact ⟨_, a8u.2 ⟨i, i0, i1, rfl⟩, h⟩
theorem b6r (o : List S56) (v : S56) {k : Int} (k0 : 0 ≤ k) (k1 : k < o.length) : a0h (o ++ [v]) k = a0h o k := by
 unfold a0h
 rw [List.getD_eq_getElem?_getD, List.getD_eq_getElem?_getD, List.getElem?_append_left (by omega)]
theorem b7z (o : List S56) (v : S56) : a0h (o ++ [v]) o.length = v := by
 unfold a0h
 rw [Int.toNat_natCast, List.getD_eq_getElem?_getD, List.getElem?_append_right (Nat.le_refl _)]
 simp
theorem b1d (f : List S56) {i : Int} (i0 : 0 ≤ i) (i1 : i < f.length) (v : S56) {k : Int} (k0 : 0 ≤ k) : a0h (f.set i.toNat v) k = if k = i then v else a0h f k := by
 unfold a0h
 rw [List.getD_eq_getElem?_getD, List.getD_eq_getElem?_getD, List.getElem?_set]
 by_cases c : k = i
 ·rw [if_pos c, if_pos (by rw [c]), if_pos (by omega)]
  rfl
 ·rw [if_neg c, if_neg (by omega)]
theorem b6s (o : List S56) (v : S56) (d : Int) : hasD (o ++ [v]) d ↔ hasD o d ∨ (v.f0 ≤ d ∧ d < v.f1) := by
 unfold hasD
 constructor
 ·rintro ⟨x, hx, h⟩
  rcases List.mem_append.1 hx with q | q
  ·exact .inl ⟨x, q, h⟩
  ·rw [List.mem_singleton] at q
   rw [q] at h
   exact .inr h
 ·rintro (⟨x, hx, h⟩ | h)
  ·exact ⟨x, List.mem_append_left _ hx, h⟩
  ·exact ⟨v, by simp, h⟩
theorem c3z {o : List S56} (h : spA o) {v : S56} (hv : stP v.f0 v.f1) (hl : 0 < o.length → (a0h o ((o.length : Int) - 1)).f1 < v.f0) : spA (o ++ [v]) := fun i i0 i1 => by
 rw [List.length_append, List.length_singleton] at i1
 by_cases c : i = o.length
 ·subst c
  unfold spG
  rw [b7z]
  refine ⟨hv, fun p => ?_⟩
  rw [b6r o v (by omega) (by omega)]
  exact hl (by omega)
 ·have h2 := h i i0 (by omega)
  unfold spG at h2 ⊢
  rw [b6r o v i0 (by omega)]
  refine ⟨h2.1, fun p => ?_⟩
  rw [b6r o v (by omega) (by omega)]
  exact h2.2 p
theorem c0x {o : List S56} (ho : 0 < o.length) {v : S56} (h0 : v.f0 = (a0h o ((o.length : Int) - 1)).f0) (h1 : (a0h o ((o.length : Int) - 1)).f1 ≤ v.f1) (d : Int) :
  hasD (o.set ((o.length : Int) - 1).toNat v) d ↔ hasD o d ∨ (v.f0 ≤ d ∧ d < v.f1) := by
 rw [b2k, b2k]
 constructor
 ·rintro ⟨i, i0, i1, h⟩
  rw [List.length_set] at i1
  rw [b1d o (by omega) (by omega) v i0] at h
  by_cases c : i = (o.length : Int) - 1
  ·rw [if_pos c] at h; exact .inr h
  ·rw [if_neg c] at h; exact .inl ⟨i, i0, i1, h⟩
 ·rintro (⟨i, i0, i1, h⟩ | h)
  ·refine ⟨i, i0, by rw [List.length_set]; exact i1, ?_⟩
   rw [b1d o (by omega) (by omega) v i0]
   by_cases c : i = (o.length : Int) - 1
   ·rw [if_pos c]; rw [c] at h; omega
   ·rw [if_neg c]; exact h
  ·refine ⟨(o.length : Int) - 1, by omega, by rw [List.length_set]; omega, ?_⟩
   rw [b1d o (by omega) (by omega) v (by omega), if_pos rfl]
   exact h
theorem c1w {o : List S56} (h : spA o) (ho : 0 < o.length) {v : S56} (hv : stP v.f0 v.f1) (h0 : v.f0 = (a0h o ((o.length : Int) - 1)).f0) : spA (o.set ((o.length : Int) - 1).toNat v) := fun i i0 i1 => by
 rw [List.length_set] at i1
 have h2 := h i i0 i1
 unfold spG at h2 ⊢
 rw [b1d o (by omega) (by omega) v i0]
 by_cases c : i = (o.length : Int) - 1
 ·rw [if_pos c]
  refine ⟨hv, fun p => ?_⟩
  rw [b1d o (by omega) (by omega) v (by omega), if_neg (by omega), h0]
  rw [c] at h2 p ⊢
  exact h2.2 p
 ·rw [if_neg c]
  refine ⟨h2.1, fun p => ?_⟩
  rw [b1d o (by omega) (by omega) v (by omega), if_neg (by omega)]
  exact h2.2 p
theorem c4p {l : List S56} (h : spA l) {a b : Int} (a0 : 0 ≤ a) (ab : a < b) (b1 : b < l.length) : (a0h l a).f1 < (a0h l b).f0 := by
 have rise : ∀ (n : Nat) (a : Int), 0 ≤ a → a + n + 1 < l.length → (a0h l a).f1 < (a0h l (a + n + 1)).f0 := by
  intro n
  induction n with
  | zero =>
   intro a a0 h1
   have h2 := (h (a + 1) (by omega) (by omega)).2 (by omega)
   rw [show a + 1 - 1 = a by omega] at h2
   rw [show a + (0 : Nat) + 1 = a + 1 by omega]
   exact h2
  | succ n ih =>
   intro a a0 h1
   have h2 := ih a a0 (by omega)
   have h3 := (h (a + n + 1) (by omega) (by omega)).1
   have h4 := (h (a + (n + 1 : Nat) + 1) (by omega) (by omega)).2 (by omega)
   rw [show a + (n + 1 : Nat) + 1 - 1 = a + n + 1 by omega] at h4
   unfold stP at h3
   omega
 have := rise (b - a - 1).toNat a a0 (by omega)
 rwa [show a + ((b - a - 1).toNat : Int) + 1 = b by omega] at this
theorem c5j (a b : Int) : mx a b = if a < b then b else a := rfl
theorem c4q {o : List S56} (ho : spA o) (hlen : o.length < 1000000) {a b : Int} (hs : stP a b) (hlast : 0 < o.length → (a0h o ((o.length : Int) - 1)).f0 ≤ a) :
  ∃ r, a3e.f o a b = some r ∧ spA r ∧ (∀ d, hasD r d ↔ hasD o d ∨ (a ≤ d ∧ d < b)) ∧ r.length ≤ o.length + 1 ∧ 0 < r.length ∧ (a0h r ((r.length : Int) - 1)).f0 ≤ a := by
 unfold a3e.f
 have app : (0 < o.length → (a0h o ((o.length : Int) - 1)).f1 < a) → ∃ r, some (o ++ [(⟨a, b⟩ : S56)]) = some r ∧ spA r ∧ (∀ d, hasD r d ↔ hasD o d ∨ (a ≤ d ∧ d < b)) ∧ r.length ≤ o.length + 1 ∧ 0 < r.length ∧ (a0h r ((r.length : Int) - 1)).f0 ≤ a := fun h => by
  refine ⟨_, rfl, c3z ho (v := ⟨a, b⟩) hs h, fun d => b6s o ⟨a, b⟩ d, by simp, by simp, ?_⟩
  rw [show (((o ++ [(⟨a, b⟩ : S56)]).length : Nat) : Int) - 1 = o.length by simp, b7z]
  exact Int.le_refl _
 by_cases c : (o.length : Int) > 0
 ·rw [if_pos c, w64 (by omega) (by omega), if_pos (by omega), if_pos (by omega)]
  have hl := (ho ((o.length : Int) - 1) (by omega) (by omega)).1
  have h0 := hlast (by omega)
  unfold stP at hl hs
  by_cases d : (a0h o ((o.length : Int) - 1)).f1 ≥ a
  ·rw [if_pos d]
   have hm := c5j (a0h o ((o.length : Int) - 1)).f1 b
   have hm1 : (a0h o ((o.length : Int) - 1)).f1 ≤ mx (a0h o ((o.length : Int) - 1)).f1 b ∧ b ≤ mx (a0h o ((o.length : Int) - 1)).f1 b ∧ (mx (a0h o ((o.length : Int) - 1)).f1 b = b ∨ mx (a0h o ((o.length : Int) - 1)).f1 b = (a0h o ((o.length : Int) - 1)).f1) := by
    rw [hm]; split <;> omega
   refine ⟨_, rfl, c1w ho (by omega) (v := ⟨(a0h o ((o.length : Int) - 1)).f0, mx (a0h o ((o.length : Int) - 1)).f1 b⟩) (by unfold stP; simp only; omega) rfl, fun x => ?_, by rw [List.length_set]; omega, by rw [List.length_set]; omega, ?_⟩
   ·rw [c0x (o := o) (v := ⟨(a0h o ((o.length : Int) - 1)).f0, mx (a0h o ((o.length : Int) - 1)).f1 b⟩) (by omega) rfl (by simp only; omega) x]
    simp only
    constructor
    ·rintro (h | h)
     ·exact .inl h
     ·by_cases e : x < (a0h o ((o.length : Int) - 1)).f1
      ·exact .inl (b2k.2 ⟨(o.length : Int) - 1, by omega, by omega, h.1, e⟩)
      ·exact .inr (by omega)
    ·rintro (h | h)
     ·exact .inl h
     ·exact .inr (by omega)
   ·rw [List.length_set, b1d o (by omega) (by omega) _ (by omega), if_pos rfl]
    exact h0
  ·rw [if_neg d, if_pos (by omega)]
   exact app fun _ => by omega
 ·rw [if_neg c, if_pos (by omega)]
  exact app fun h => by omega
theorem c4a (l : List S56) (hl : l.length ≤ 1000) (hs : ∀ i : Int, 0 ≤ i → i < l.length → stP (a0h l i).f0 (a0h l i).f1) :
  ∃ r, Ev (fun k => a2y.f k l) (r, 0) ∧ spA r ∧ (∀ d, hasD r d ↔ hasD l d) ∧ r.length ≤ l.length := by
 have hor := b1g l
 have hperm : (a7g cfF l).Perm l := hor.1
 have hlen : (a7g cfF l).length = l.length := hperm.length_eq
 have hpw := hor.2
 rw [List.pairwise_iff_getElem] at hpw
 obtain ⟨s, hsd⟩ : ∃ s, s = a7g cfF l := ⟨_, rfl⟩
 rw [← hsd] at hperm hlen hpw
 have hst : ∀ i : Int, 0 ≤ i → i < s.length → stP (a0h s i).f0 (a0h s i).f1 := fun i i0 i1 => by
  have : a0h s i ∈ l := hperm.mem_iff.1 (a8u.2 ⟨i, i0, i1, rfl⟩)
  obtain ⟨q, q0, q1, e⟩ := a8u.1 this
  rw [← e]
  exact hs q q0 q1
 have hup : ∀ i : Int, 0 < i → i < s.length → (a0h s (i - 1)).f0 ≤ (a0h s i).f0 := fun i i0 i1 => by
  have := hpw (i - 1).toNat i.toNat (by omega) (by omega) (by omega)
  rw [← b5l s (by omega), ← b5l s (by omega), Int.toNat_of_nonneg (by omega), Int.toNat_of_nonneg (by omega)] at this
  exact this
 have loop : ∀ (n : Nat) (i : Int) (o : List S56), 0 ≤ i → i + n = s.length → spA o → (o.length : Int) ≤ i → (0 < o.length → 0 < i ∧ (a0h o ((o.length : Int) - 1)).f0 ≤ (a0h s (i - 1)).f0) →
   (∀ d, hasD o d ↔ ∃ q : Int, 0 ≤ q ∧ q < i ∧ (a0h s q).f0 ≤ d ∧ d < (a0h s q).f1) →
   ∃ r, Ev (fun k => a2y.l1 k o s (l.length : Int) i) (r, 0) ∧ spA r ∧ (∀ d, hasD r d ↔ hasD l d) ∧ r.length ≤ l.length := by
  intro n
  induction n with
  | zero =>
   intro i o i0 hi ho hol _ hd
   refine ⟨o, evUp 0 fun k _ => ?_, ho, fun d => ?_, by omega⟩
   ·rw [a2y.l1, if_neg (by omega)]
    unfold a6s.f
    rw [if_neg (by omega), Option.bind_some]
   ·rw [hd d]
    unfold hasD
    constructor
    ·rintro ⟨q, q0, q1, h⟩
     exact ⟨a0h s q, hperm.mem_iff.1 (a8u.2 ⟨q, q0, by omega, rfl⟩), h⟩
    ·rintro ⟨x, hx, h⟩
     obtain ⟨q, q0, q1, e⟩ := a8u.1 (hperm.mem_iff.2 hx)
     exact ⟨q, q0, by omega, by rw [e]; exact h⟩
  | succ n ih =>
   intro i o i0 hi ho hol hla hd
   have hsi := hst i i0 (by omega)
   obtain ⟨o2, e2, g1, g2, g3, g4, g5⟩ := c4q ho (by omega) hsi (fun h => by
    obtain ⟨a, b⟩ := hla h
    have := hup i a (by omega)
    omega)
   obtain ⟨r, ⟨K, hK⟩, hr⟩ := ih (i + 1) o2 (by omega) (by omega) g1 (by omega) (fun _ => ⟨by omega, by rw [show i + 1 - 1 = i by omega]; exact g5⟩) (fun d => by
    rw [g2 d, hd d]
    constructor
    ·rintro (⟨q, q0, q1, h⟩ | h)
     ·exact ⟨q, q0, by omega, h⟩
     ·exact ⟨i, i0, by omega, h⟩
    ·rintro ⟨q, q0, q1, h⟩
     by_cases c : q = i
     ·rw [c] at h; exact .inr h
     ·exact .inl ⟨q, q0, by omega, h⟩)
   refine ⟨r, evUp K fun k hk => ?_, hr⟩
   rw [a2y.l1, if_pos (by omega), if_pos i0, if_pos (by omega), e2, Option.bind_some, w64 (by omega) (by omega)]
   exact hK k hk
 obtain ⟨r, ⟨K, hK⟩, hr⟩ := loop s.length 0 [] (by omega) (by omega) (fun i a b => by simp at b; omega) (by simp) (fun h => by simp at h) (fun d => by
  unfold hasD
  constructor
  ·rintro ⟨x, hx, _⟩; simp at hx
  ·rintro ⟨q, q0, q1, _⟩; omega)
 refine ⟨r, ?_, hr⟩
 dsimp only at hK
 have hall : (decide (l.length < 4611686018427387904) && l.all (fun s => decide (s.f0 < s.f1))) = true := by
  rw [Bool.and_eq_true, decide_eq_true_eq, List.all_eq_true]
  refine ⟨by omega, fun x hx => ?_⟩
  obtain ⟨q, q0, q1, e⟩ := a8u.1 hx
  have := hs q q0 q1
  rw [e] at this
  unfold stP at this
  rw [decide_eq_true_eq]
  omega
 have chk : ∀ (n : Nat) (i : Int), 0 ≤ i → i + n = l.length → Ev (fun k => a2y.l0 k l l (l.length : Int) i) (r, 0) := by
  intro n
  induction n with
  | zero =>
   intro i i0 hi
   refine evUp K fun k hk => ?_
   rw [a2y.l0, if_neg (by omega)]
   unfold a6y.f a3z.f
   rw [if_pos (by omega), Option.bind_some, if_pos hall, Option.bind_some, ← hsd]
   exact hK k hk
  | succ n ih =>
   intro i i0 hi
   obtain ⟨K2, hK2⟩ := ih (i + 1) (by omega) (by omega)
   obtain ⟨t, e, ht⟩ := b0x (a0h l i).f0 (a0h l i).f1
   refine evUp K2 fun k hk => ?_
   rw [a2y.l0, if_pos (by omega), if_pos i0, if_pos (by omega), e, Option.bind_some, if_pos (ht.2 (hs i i0 (by omega))), w64 (by omega) (by omega)]
   exact hK2 k hk
 obtain ⟨K3, h3⟩ := chk l.length 0 (by omega) (by omega)
 exact ⟨K3, fun k hk => by dsimp only at h3 ⊢; unfold a2y.f; exact h3 k hk⟩
open Classical in
noncomputable def tkN (j : List S51) (l : List S42) (room : Int) : Nat → List S56
 | 0 => []
 | n + 1 => if inP (a0a j (n : Int)).f4 room then tkN j l room n ++ [⟨(a0b l (n : Int)).f1, (a0b l (n : Int)).f2⟩] else tkN j l room n
theorem b4n (j : List S51) (l : List S42) (room : Int) : ∀ n, (tkN j l room n).length ≤ n
 | 0 => Nat.le_refl _
 | n + 1 => by
  have := b4n j l room n
  rw [tkN]
  split
  ·rw [List.length_append, List.length_singleton]; omega
  ·omega
theorem b4o (j : List S51) (l : List S42) (room : Int) : ∀ n x, x ∈ tkN j l room n ↔ ∃ i : Int, 0 ≤ i ∧ i < n ∧ inP (a0a j i).f4 room ∧ x = ⟨(a0b l i).f1, (a0b l i).f2⟩
 | 0, x => by
  rw [tkN]
  exact ⟨fun h => by simp at h, fun ⟨i, a, b, _⟩ => by omega⟩
 | n + 1, x => by
  have ih := b4o j l room n x
  rw [tkN]
  by_cases c : inP (a0a j (n : Int)).f4 room
  ·rw [if_pos c, List.mem_append, ih, List.mem_singleton]
   constructor
   ·rintro (⟨i, a, b, h⟩ | h)
    ·exact ⟨i, a, by omega, h⟩
    ·exact ⟨n, by omega, by omega, c, h⟩
   ·rintro ⟨i, a, b, h⟩
    by_cases e : i = (n : Int)
    ·rw [e] at h; exact .inr h.2
    ·exact .inl ⟨i, a, by omega, h⟩
  ·rw [if_neg c, ih]
   constructor
   ·rintro ⟨i, a, b, h⟩; exact ⟨i, a, by omega, h⟩
   ·rintro ⟨i, a, b, h⟩
    by_cases e : i = (n : Int)
    ·rw [e] at h; exact absurd h.1 c
    ·exact ⟨i, a, by omega, h⟩
def tkP (j : List S51) (l : List S42) (room : Int) : Prop := maP j l ∧ 1 ≤ room ∧ room ≤ 64 ∧ ∀ i : Int, 0 ≤ i → i < j.length → stP (a0b l i).f1 (a0b l i).f2
def tkS (j : List S51) (l : List S42) (room : Int) (r : List S56 × Int) : Prop :=
 (tkP j l room ∧ r.2 = 0 ∧ spA r.1 ∧ (∀ d, hasD r.1 d ↔ hasD (tkN j l room j.length) d) ∧ r.1.length ≤ j.length) ∨ (¬ tkP j l room ∧ r = ([], 1))
theorem c2t (a b : Int) : ∃ s, Ev (fun k => a2e.f k ([(⟨a, b⟩ : S56)] : List S56)) s ∧ (s = true ↔ stP a b) := by
 obtain ⟨s, h, e⟩ := a9n ([(⟨a, b⟩ : S56)] : List S56) (by simp)
 refine ⟨s, h, e.trans ⟨fun h => (h.1 0 (by omega) (by simp)).1, fun h => ⟨fun i i0 i1 => ?_, by simp⟩⟩⟩
 simp at i1
 obtain rfl : i = 0 := by omega
 exact ⟨h, fun p => by omega⟩
theorem c4r {j : List S51} {l : List S42} {room : Int} (h : tkP j l room) : ∀ i : Int, 0 ≤ i → i < (tkN j l room j.length).length → stP (a0h (tkN j l room j.length) i).f0 (a0h (tkN j l room j.length) i).f1 := fun i i0 i1 => by
 have := a8u.2 ⟨i, i0, i1, rfl⟩
 rw [b4o] at this
 obtain ⟨q, q0, q1, _, e⟩ := this
 rw [e]
 exact h.2.2.2 q q0 q1
theorem c1x (j : List S51) (l : List S42) (room : Int) (hj : j.length ≤ 60) (hr : ∀ i : Int, 0 ≤ i → i < j.length → ((a0a j i).f4.length : Int) ≤ 1000000) : ∃ r, Ev (fun k => a1p.f k j l room) r ∧ tkS j l room r := by
 obtain ⟨m, ⟨K1, h1⟩, em⟩ := b3p j l (by omega)
 dsimp only at h1
 have bad : ∀ k, a1p.j0 (k + 1) j l room true = some (([] : List S56), 1) := fun k => by rw [a1p.j0, if_pos rfl]
 by_cases cm : m = true
 ·have hm := em.1 cm
  have hlen := hm.1
  by_cases c1 : room < 1
  ·refine ⟨_, ⟨K1 + 1, fun k hk => ?_⟩, .inr ⟨fun h => by have := h.2.1; omega, rfl⟩⟩
   obtain ⟨k, rfl⟩ : ∃ z, k = z + 1 := ⟨k - 1, by omega⟩
   dsimp only
   unfold a1p.f
   rw [h1 _ (by omega), Option.bind_some, if_pos cm, if_pos c1, bad]
  by_cases c2 : room > 64
  ·refine ⟨_, ⟨K1 + 1, fun k hk => ?_⟩, .inr ⟨fun h => by have := h.2.2.1; omega, rfl⟩⟩
   obtain ⟨k, rfl⟩ : ∃ z, k = z + 1 := ⟨k - 1, by omega⟩
   dsimp only
   unfold a1p.f
   rw [h1 _ (by omega), Option.bind_some, if_pos cm, if_neg c1, decide_eq_true c2, bad]
  have top : ∀ r, Ev (fun k => a1p.l0 k j room (tkN j l room (0 : Int).toNat) l (j.length : Int) 0) r → Ev (fun k => a1p.f k j l room) r := fun r ⟨K, hK⟩ => ⟨K1 + K + 1, fun k hk => by
   obtain ⟨k, rfl⟩ : ∃ z, k = z + 1 := ⟨k - 1, by omega⟩
   dsimp only at hK ⊢
   unfold a1p.f
   rw [h1 _ (by omega), Option.bind_some, if_pos cm, if_neg c1, decide_eq_false c2, a1p.j0, if_neg (by decide), hlen]
   exact hK k (by omega)⟩
  have step : ∀ (i : Int) (r : List S56 × Int), 0 ≤ i → i < j.length → stP (a0b l i).f1 (a0b l i).f2 → Ev (fun k => a1p.l0 k j room (tkN j l room (i + 1).toNat) l (j.length : Int) (i + 1)) r → Ev (fun k => a1p.l0 k j room (tkN j l room i.toNat) l (j.length : Int) i) r := fun i r i0 i1 hs ⟨K, hK⟩ => by
   obtain ⟨s, ⟨K3, h3⟩, es⟩ := c2t (a0b l i).f1 (a0b l i).f2
   obtain ⟨w, ⟨K4, h4⟩, ew⟩ := a8l (a0a j i).f4 (by have := hr i i0 (by omega); omega) room
   have hle := b4n j l room i.toNat
   dsimp only at hK h3 h4
   refine evUp (K + K3 + K4) fun k hk => ?_
   have hk2 := hK k (by omega)
   rw [show (i + 1).toNat = i.toNat + 1 by omega, tkN, Int.toNat_of_nonneg i0] at hk2
   rw [a1p.l0, if_pos (by omega), if_pos i0, if_pos (by omega), h3 k (by omega), Option.bind_some, if_pos (es.2 hs), if_pos (by omega), h4 k (by omega), Option.bind_some, w64 (by omega) (by omega)]
   by_cases c : w = true
   ·rw [if_pos c, if_pos (by omega)]
    rw [@if_pos _ (Classical.propDecidable _) (ew.1 c)] at hk2
    exact hk2
   ·rw [if_neg c]
    rw [@if_neg _ (Classical.propDecidable _) (fun h => c (ew.2 h))] at hk2
    exact hk2
  by_cases call : ∀ i : Int, 0 ≤ i → i < j.length → stP (a0b l i).f1 (a0b l i).f2
  ·have hP : tkP j l room := ⟨hm, by omega, by omega, call⟩
   have htl := b4n j l room j.length
   obtain ⟨r, ⟨K2, h2⟩, g1, g2, g3⟩ := c4a (tkN j l room j.length) (by omega) (c4r hP)
   dsimp only at h2
   refine ⟨(r, 0), top _ ?_, .inl ⟨hP, rfl, g1, g2, Nat.le_trans g3 htl⟩⟩
   have loop : ∀ (n : Nat) (i : Int), 0 ≤ i → i + n = j.length → Ev (fun k => a1p.l0 k j room (tkN j l room i.toNat) l (j.length : Int) i) (r, 0) := by
    intro n
    induction n with
    | zero =>
     intro i i0 hi
     exact evUp K2 fun k hk => by rw [a1p.l0, if_neg (by omega), show i.toNat = j.length by omega, h2 k hk, Option.bind_some]
    | succ n ih =>
     intro i i0 hi
     exact step i _ i0 (by omega) (call i i0 (by omega)) (ih (i + 1) (by omega) (by omega))
   exact loop j.length 0 (by omega) (by omega)
  ·refine ⟨_, top _ ?_, .inr ⟨fun h => call h.2.2.2, rfl⟩⟩
   obtain ⟨a, a0, a1, ha⟩ : ∃ a : Int, 0 ≤ a ∧ a < j.length ∧ ¬ stP (a0b l a).f1 (a0b l a).f2 := Classical.byContradiction fun h => call fun i i0 i1 => Classical.byContradiction fun g => h ⟨i, i0, i1, g⟩
   have no : ∀ i : Int, 0 ≤ i → i < j.length → ¬ stP (a0b l i).f1 (a0b l i).f2 → Ev (fun k => a1p.l0 k j room (tkN j l room i.toNat) l (j.length : Int) i) (([] : List S56), 1) := fun i i0 i1 h => by
    obtain ⟨s, ⟨K3, h3⟩, es⟩ := c2t (a0b l i).f1 (a0b l i).f2
    dsimp only at h3
    exact evUp K3 fun k hk => by rw [a1p.l0, if_pos (by omega), if_pos i0, if_pos (by omega), h3 k hk, Option.bind_some, if_neg (fun g => h (es.1 g))]
   rcases a5u (fun i k => a1p.l0 k j room (tkN j l room i.toNat) l (j.length : Int) i) a a0 (fun i => stP (a0b l i).f1 (a0b l i).f2) (fun _ => (([] : List S56), 1)) (([] : List S56), 1) (no a a0 a1 ha)
    (fun i i0 i1 h => no i i0 (by omega) h) (fun i r i0 i1 h hK => step i r i0 (by omega) h hK) with ⟨_, h⟩ | ⟨_, _, _, _, _, h⟩
   ·exact h
   ·exact h
 ·refine ⟨_, ⟨K1 + 1, fun k hk => ?_⟩, .inr ⟨fun h => cm (em.2 h.1), rfl⟩⟩
  obtain ⟨k, rfl⟩ : ∃ z, k = z + 1 := ⟨k - 1, by omega⟩
  dsimp only
  unfold a1p.f
  rw [h1 _ (by omega), Option.bind_some, if_neg cm, bad]
end Go.Proofs.Ytheibjkjmkanoaa.Wk
/- The days on which a room is taken are as many as the days of the jobs that take it. Conditions: the day lies within 0 and 65535, the room within 0 and 255. -/
namespace Go.Proofs.Ytheibjkjmkanoaa.Pure
open Go.RowKit Go.Proofs.YtheibjkjmkanoaaW.PrintWords Go.Proofs.YtheibjkjmkanoaaW.PrintMore Go.Proofs.Ytheibjkjmkanoaa.Given Go.Proofs.Ytheibjkjmkanoaa.Px Go.Proofs.Ytheibjkjmkanoaa.Wk
set_option linter.unusedVariables false
set_option linter.unusedSimpArgs false
open Classical in
noncomputable def cnt (p : Int → Prop) : Nat → Int
 | 0 => 0
 | n + 1 => cnt p n + if p (n : Int) then 1 else 0
theorem a9y {p q : Int → Prop} (h : ∀ d, p d ↔ q d) : ∀ n, cnt p n = cnt q n
 | 0 => rfl
 | n + 1 => by
  rw [cnt, cnt, a9y h n]
  by_cases c : q (n : Int)
  ·rw [if_pos c, if_pos ((h _).2 c)]
  ·rw [if_neg c, if_neg fun g => c ((h _).1 g)]
theorem b6t {p q r : Int → Prop} (hd : ∀ d, p d → q d → False) (h : ∀ d, r d ↔ p d ∨ q d) : ∀ n, cnt r n = cnt p n + cnt q n
 | 0 => rfl
 | n + 1 => by
  rw [cnt, cnt, cnt, b6t hd h n]
  by_cases c : p (n : Int)
  ·rw [if_pos ((h _).2 (.inl c)), if_pos c, if_neg (hd _ c)]; omega
  ·by_cases e : q (n : Int)
   ·rw [if_pos ((h _).2 (.inr e)), if_neg c, if_pos e]; omega
   ·rw [if_neg fun g => ((h _).1 g).elim c e, if_neg c, if_neg e]; omega
theorem b6u {p : Int → Prop} (h : ∀ d, ¬ p d) : ∀ n, cnt p n = 0
 | 0 => rfl
 | n + 1 => by rw [cnt, b6u h n, if_neg (h _)]; rfl
theorem b6v {a b : Int} (a0 : 0 ≤ a) (ab : a ≤ b) : ∀ n : Nat, cnt (fun d => a ≤ d ∧ d < b) n = if (n : Int) ≤ a then 0 else if (n : Int) ≤ b then n - a else b - a
 | 0 => by rw [cnt, if_pos (by omega)]
 | n + 1 => by
  rw [cnt, b6v a0 ab n]
  by_cases c : a ≤ (n : Int) ∧ (n : Int) < b
  ·rw [if_pos c]
   split <;> split <;> (try split) <;> omega
  ·rw [if_neg c]
   split <;> split <;> (try split) <;> (try split) <;> omega
theorem b8a {a b : Int} (h : stP a b) : cnt (fun d => a ≤ d ∧ d < b) 36525 = b - a := by
 obtain ⟨h1, h2, h3⟩ := h
 rw [b6v h1 (by omega)]
 split
 ·omega
 ·split
  ·omega
  ·rfl
def tot (l : List S56) : Nat → Int
 | 0 => 0
 | n + 1 => tot l n + ((a0h l (n : Int)).f1 - (a0h l (n : Int)).f0)
theorem c2u {l : List S56} (h : spA l) : ∀ n : Nat, n ≤ l.length → 0 ≤ tot l n ∧ tot l n ≤ 36525 * (n : Int)
 | 0, _ => by rw [tot]; omega
 | n + 1, hn => by
  have := c2u h n (by omega)
  obtain ⟨a, b, c⟩ := (h (n : Int) (by omega) (by omega)).1
  rw [tot]
  omega
theorem b8b {l : List S56} (h : spA l) : ∀ n : Nat, n ≤ l.length → cnt (fun d => ∃ i : Int, 0 ≤ i ∧ i < n ∧ (a0h l i).f0 ≤ d ∧ d < (a0h l i).f1) 36525 = tot l n
 | 0, _ => b6u (fun d ⟨i, a, b, _⟩ => by omega) _
 | n + 1, hn => by
  have e := b6t (p := fun d => ∃ i : Int, 0 ≤ i ∧ i < n ∧ (a0h l i).f0 ≤ d ∧ d < (a0h l i).f1) (q := fun d => (a0h l (n : Int)).f0 ≤ d ∧ d < (a0h l (n : Int)).f1)
   (r := fun d => ∃ i : Int, 0 ≤ i ∧ i < ((n + 1 : Nat) : Int) ∧ (a0h l i).f0 ≤ d ∧ d < (a0h l i).f1)
   (fun d ⟨i, i0, i1, h1, h2⟩ ⟨h3, h4⟩ => by have := c4p h i0 i1 (by omega); omega)
   (fun d => ⟨fun ⟨i, i0, i1, g⟩ => by
    by_cases c : i = (n : Int)
    ·rw [c] at g; exact .inr g
    ·exact .inl ⟨i, i0, by omega, g⟩, fun g => g.elim (fun ⟨i, i0, i1, g⟩ => ⟨i, i0, by omega, g⟩) (fun g => ⟨(n : Int), by omega, by omega, g⟩)⟩) 36525
  rw [e, b8b h n (by omega), b8a (h (n : Int) (by omega) (by omega)).1, tot]
theorem c0y {l : List S56} (h : spA l) (hl : l.length ≤ 1000) : Ev (fun k => a1z.f k l) (tot l l.length, 0) := by
 obtain ⟨b, ⟨K0, g0⟩, hb⟩ := b0y l (by omega)
 dsimp only at g0
 have main : ∀ (m : Nat) (n : Nat), n + m = l.length → Ev (fun k => a1z.l0 k l (tot l n) (n : Int)) (tot l l.length, 0) := by
  intro m
  induction m with
  | zero =>
   intro n hn
   refine evUp 0 fun k hk => ?_
   try dsimp only
   rw [a1z.l0, if_neg (by omega), show n = l.length by omega]
  | succ m ih =>
   intro n hn
   obtain ⟨K, g⟩ := ih (n + 1) (by omega)
   try dsimp only at g
   have hb1 := c2u h n (by omega)
   obtain ⟨p1, p2, p3⟩ := (h (n : Int) (by omega) (by omega)).1
   refine evUp K fun k hk => ?_
   try dsimp only
   rw [a1z.l0, if_pos (by omega), if_pos (by omega)]
   have e : wrap64 (wrap64 (tot l n + (a0h l (n : Int)).f1) - (a0h l (n : Int)).f0) = tot l (n + 1) := by
    rw [w64 (x := tot l n + _) (by omega) (by omega), w64 (by omega) (by omega), tot]; omega
   rw [e, w64 (by omega) (by omega)]
   exact g k hk
 obtain ⟨K1, g1⟩ := main l.length 0 (by omega)
 dsimp only at g1
 refine ⟨K0 + K1, fun k hk => ?_⟩
 try dsimp only
 unfold a1z.f
 rw [g0 _ (by omega), Option.bind_some, if_pos (hb.2 ⟨h, hl⟩)]
 exact g1 k (by omega)
open Classical in
noncomputable def a6t (j : List S51) (room : Int) : Nat → Int
 | 0 => 0
 | n + 1 => a6t j room n + if inP (a0a j (n : Int)).f4 room then (a0a j (n : Int)).f2 else 0
theorem c0z {j : List S51} {t : List S58} {l : List S42} (ok : okP j t l) (room : Int) : ∀ n : Nat, n ≤ j.length → cnt (hasD (tkN j l room n)) 36525 = a6t j room n
 | 0, _ => b6u (fun d ⟨x, hx, _⟩ => by rw [tkN] at hx; simp at hx) _
 | n + 1, hn => by
  have ih := c0z ok room n (by omega)
  rw [a6t]
  by_cases c : inP (a0a j (n : Int)).f4 room
  ·rw [if_pos c]
   obtain ⟨r1, r2, r3, r4⟩ := ok.2.2 (n : Int) (by omega) (by omega)
   obtain ⟨b1, b2, b3, _⟩ := ok_b ok (i := (n : Int)) (by omega) (by omega)
   obtain ⟨q1, q2, q3⟩ := r1
   have days := (ok.1.2.2.2 (n : Int) (by omega) (by omega)).2.2.2.1
   have e := b6t (p := hasD (tkN j l room n)) (q := fun d => (a0b l (n : Int)).f1 ≤ d ∧ d < (a0b l (n : Int)).f2) (r := hasD (tkN j l room (n + 1)))
    (fun d ⟨x, hx, x1, x2⟩ ⟨h3, h4⟩ => by
     obtain ⟨i, i0, i1, hi, ex⟩ := (b4o j l room n x).1 hx
     rw [ex] at x1 x2
     dsimp only at x1 x2
     have bi := ok_b ok (i := i) i0 (by omega)
     refine r4 ⟨i, i0, by rw [List.length_take]; have := ok.2.1.1; omega, ?_⟩
     unfold clA
     rw [b2a l (n : Int).toNat i0 (by omega)]
     refine ⟨by omega, by omega, by omega, by omega, .inr ?_⟩
     obtain ⟨u, u0, u1, eu⟩ := c
     exact ⟨u, u0, u1, by rw [eu]; exact hi⟩)
    (fun d => by rw [tkN, if_pos c, b6s]) 36525
   rw [e, ih, b8a ⟨by omega, by omega, b3⟩]
   omega
  ·rw [if_neg c, a9y (q := hasD (tkN j l room n)) (fun d => by rw [tkN, if_neg c]), ih]
   omega
theorem b4p {j : List S51} {t : List S58} (hv : vaP j t) (room : Int) : ∀ n : Nat, n ≤ j.length → 0 ≤ a6t j room n ∧ a6t j room n ≤ 100 * (n : Int)
 | 0, _ => by rw [a6t]; omega
 | n + 1, hn => by
  have ih := b4p hv room n (by omega)
  have d1 := (hv.2.2.2 (n : Int) (by omega) (by omega)).2.2.2.1
  have d2 := (hv.2.2.2 (n : Int) (by omega) (by omega)).2.2.2.2.1
  rw [a6t]
  split <;> omega
open Classical in
theorem c1y {j : List S51} {t : List S58} (hv : vaP j t) {room : Int} {i : Int} (i0 : 0 ≤ i) (i1 : i < j.length) (x14 x16 : Int) :
  ∀ (m : Nat) (q y : Int), 0 ≤ q → q + m = (a0a j i).f4.length → -1000000 + 100 * (m : Int) ≤ y → y ≤ 1000000000 →
   Ev (fun k => a0m.l0 k j true room x14 (y - if (∃ u : Int, q ≤ u ∧ u < (a0a j i).f4.length ∧ rd (a0a j i).f4 u = room) then (a0a j i).f2 else 0) x16 (i + 1)) true →
   Ev (fun k => a0m.l1 k j true room x14 y x16 i q) true := by
 have hr := (hv.2.2.2 i i0 i1).2.2.2.2.2.2.1
 have f8 := (hv.2.2.2 i i0 i1).2.2.2.2.2.1
 have d1 := (hv.2.2.2 i i0 i1).2.2.2.1
 have d2 := (hv.2.2.2 i i0 i1).2.2.2.2.1
 have hj := hv.2.1
 intro m
 induction m with
 | zero =>
  intro q y q0 hq y0 y1 ⟨K, g⟩
  try dsimp only at g
  rw [if_neg (fun ⟨u, a, b, _⟩ => by omega)] at g
  refine evUp K fun k hk => ?_
  try dsimp only
  rw [a0m.l1, if_pos i0, if_pos i1, if_neg (by omega), w64 (by omega) (by omega)]
  rw [Int.sub_zero] at g
  exact g k hk
 | succ m ih =>
  intro q y q0 hq y0 y1 hE
  by_cases c : rd (a0a j i).f4 q = room
  ·have none_ : ¬ ∃ u : Int, q + 1 ≤ u ∧ u < (a0a j i).f4.length ∧ rd (a0a j i).f4 u = room := fun ⟨u, a, b, e⟩ => by
    have := a8c (g := fun z => rd (a0a j i).f4 z) (n := ((a0a j i).f4.length : Int)) (fun z z0 z1 z2 => (hr z z0 z1).2.2 z2) q0 (show q < u by omega) b
    try dsimp only at this
    omega
   rw [if_pos ⟨q, by omega, by omega, c⟩] at hE
   obtain ⟨K, g⟩ := ih (q + 1) (y - (a0a j i).f2) (by omega) (by omega) (by omega) (by omega) (by rw [if_neg none_, Int.sub_zero]; exact hE)
   try dsimp only at g
   refine evUp K fun k hk => ?_
   try dsimp only
   rw [a0m.l1, if_pos i0, if_pos i1, if_pos (by omega), if_pos q0, if_pos c, w64 (x := y - _) (by omega) (by omega), w64 (by omega) (by omega)]
   exact g k hk
  ·have same : (∃ u : Int, q ≤ u ∧ u < (a0a j i).f4.length ∧ rd (a0a j i).f4 u = room) ↔ ∃ u : Int, q + 1 ≤ u ∧ u < (a0a j i).f4.length ∧ rd (a0a j i).f4 u = room :=
    ⟨fun ⟨u, a, b, e⟩ => ⟨u, by
     by_cases z : u = q
     ·rw [z] at e; exact absurd e c
     ·omega, b, e⟩, fun ⟨u, a, b, e⟩ => ⟨u, by omega, b, e⟩⟩
   simp only [same] at hE
   obtain ⟨K, g⟩ := ih (q + 1) y (by omega) (by omega) (by omega) y1 hE
   try dsimp only at g
   refine evUp K fun k hk => ?_
   try dsimp only
   rw [a0m.l1, if_pos i0, if_pos i1, if_pos (by omega), if_pos q0, if_neg c, w64 (by omega) (by omega)]
   exact g k hk
theorem c1z {j : List S51} {t : List S58} (hv : vaP j t) (room : Int) : ∀ (m n : Nat), n + m = j.length → Ev (fun k => a0m.l0 k j true room 0 (a6t j room j.length - a6t j room n) 0 (n : Int)) true := by
 have hj := hv.2.1
 intro m
 induction m with
 | zero =>
  intro n hn
  refine evUp 0 fun k hk => ?_
  try dsimp only
  rw [a0m.l0, if_neg (by omega), if_pos rfl, if_pos rfl, if_pos rfl, show n = j.length by omega, Int.sub_self]
  rfl
 | succ m ih =>
  intro n hn
  have b1 := b4p hv room j.length (Nat.le_refl _)
  have b2 := b4p hv room n (by omega)
  have hE := ih (n + 1) (by omega)
  have st : (∃ u : Int, 0 ≤ u ∧ u < (a0a j (n : Int)).f4.length ∧ rd (a0a j (n : Int)).f4 u = room) ↔ inP (a0a j (n : Int)).f4 room := Iff.rfl
  have f8 := (hv.2.2.2 (n : Int) (by omega) (by omega)).2.2.2.2.2.1
  obtain ⟨K, g⟩ := c1y hv (room := room) (i := (n : Int)) (by omega) (by omega) 0 0 (a0a j (n : Int)).f4.length 0 (a6t j room j.length - a6t j room n) (by omega) (by omega) (by omega) (by omega) (by
   rw [a6t] at hE
   rw [Int.sub_sub]
   exact hE)
  try dsimp only at g
  refine evUp K fun k hk => ?_
  try dsimp only
  rw [a0m.l0, if_pos (by omega)]
  exact g k hk
theorem WorksRooms (j : List S51) (t : List S58) (a b : Int) (h0 : 0 ≤ a) (h1 : a ≤ 65535) (b0 : 0 ≤ b) (b1 : b ≤ 255) : Ev (fun k => a0m.f k j t a b) true := by
 obtain ⟨K0, g0⟩ := b0j
 obtain ⟨u, ⟨K1, g1⟩, hu⟩ := a9x j t
 dsimp only at g0 g1
 by_cases c : u = true
 ·obtain ⟨hf, hv⟩ := hu.1 c
  have hb := b0l hf
  have hj := hv.2.1
  have hday := b5m h0 h1
  obtain ⟨K2, g2⟩ := a9d j t hb (onF a)
  dsimp only at g2
  by_cases c2 : (a5b j t (onF a)).2 = 0
  ·obtain ⟨ok, len, low⟩ := a7z c2
   obtain ⟨room, er⟩ : ∃ r, r = 1 + b % 64 := ⟨_, rfl⟩
   have w1 : wrap64 (1 + Int.tmod (wrap64 b) 64) = room := by
    rw [w64 (x := b) (by omega) (by omega), Int.tmod_eq_emod_of_nonneg b0, w64 (by omega) (by omega), er]
   obtain ⟨r, ⟨K3, g3⟩, hs⟩ := c1x j (a5b j t (onF a)).1 room hj fun i i0 i1 => (hb.2.2.1 i i0 i1).2
   dsimp only at g3
   have tk : tkP j (a5b j t (onF a)).1 room := ⟨ok.2.1, by omega, by omega, fun i i0 i1 => by
    have b := ok_b ok i0 i1
    have r := (ok.2.2 i i0 i1).1
    have d := (hv.2.2.2 i i0 i1).2.2.2.1
    exact ⟨b.1, by have := r.2.2; omega, b.2.2.1⟩⟩
   rcases hs with ⟨_, s2, s3, s4, s5⟩ | ⟨s1, _⟩
   ·obtain ⟨K4, g4⟩ := c0y s3 (by omega)
    obtain ⟨K5, g5⟩ := c1z hv room j.length 0 (by omega)
    dsimp only at g4 g5
    have e : tot r.1 r.1.length = a6t j room j.length - a6t j room 0 := by
     rw [← b8b s3 r.1.length (Nat.le_refl _), ← a9y (p := hasD r.1) (fun d => b2k) 36525, a9y s4, c0z ok room j.length (Nat.le_refl _), a6t]
     omega
    refine ⟨K0 + K1 + K2 + K3 + K4 + K5, fun k hk => ?_⟩
    try dsimp only
    unfold a0m.f
    rw [g0 _ (by omega), Option.bind_some, g1 _ (by omega), Option.bind_some, if_pos c, on_f, Option.bind_some, g2 _ (by omega), Option.bind_some, if_pos c2, w1, g3 _ (by omega), Option.bind_some, g4 _ (by omega), Option.bind_some, s2, e]
    exact g5 k (by omega)
   ·exact absurd tk s1
  ·refine ⟨K0 + K1 + K2, fun k hk => ?_⟩
   try dsimp only
   unfold a0m.f
   rw [g0 _ (by omega), Option.bind_some, g1 _ (by omega), Option.bind_some, if_pos c, on_f, Option.bind_some, g2 _ (by omega), Option.bind_some, if_neg c2]
 ·refine ⟨K0 + K1, fun k hk => ?_⟩
  try dsimp only
  unfold a0m.f
  rw [g0 _ (by omega), Option.bind_some, g1 _ (by omega), Option.bind_some, if_neg c]
end Go.Proofs.Ytheibjkjmkanoaa.Pure
