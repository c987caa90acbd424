/- Contracts of Go functions, printed. Conditions: as each theorem states. -/
import Derived.Test.YtheibjkjmkanoaaPx0
import Derived.Test.YtheibjkjmkanoaaPx11
import Derived.Test.YtheibjkjmkanoaaPx20
import Derived.Test.YtheibjkjmkanoaaPx34
import Derived.Test.YtheibjkjmkanoaaWkJ
import Derived.Test.YtheibjkjmkanoaaWkC
namespace Go.Proofs.Ytheibjkjmkanoaa.Px
open Go.Proofs.Ytheibjkjmkanoaa.Given
open Go.RowKit Go.Proofs.YtheibjkjmkanoaaW.PrintWords Go.Proofs.YtheibjkjmkanoaaW.PrintLast Go.Proofs.YtheibjkjmkanoaaW.PrintMore
attribute [local go_sem] a3r a3s a4e a4f a3k a3l a3t a3u
set_option linter.unusedVariables false
set_option linter.unusedSimpArgs false
def a1q.f (k : Nat) (l0 : List (S51)) (l1 : List (S58)) (a2 a3 : Int) : Option (Bool) := (a0e.f k).bind fun t773 => ((a0v.f k l0 l1).bind fun t774 => (if t774 = true then (if (wrap64 ((l0.length : Int) + 1)) = 0 then (none) else ((a0k.f a2).bind fun t775 => ((a1e.f k l0 l1 t775).bind fun bt776 => (if 0 ≤ (Int.tmod (wrap64 (a3)) (wrap64 ((l0.length : Int) + 1))) then (if (Int.tmod (wrap64 (a3)) (wrap64 ((l0.length : Int) + 1))) ≤ (l0.length : Int) then ((a0k.f a2).bind fun t784 => ((a1e.f k (l0.take ((Int.tmod (wrap64 (a3)) (wrap64 ((l0.length : Int) + 1))) : Int).toNat) l1 t784).bind fun bt785 => (if bt776.2 = 0 then (if t773 = true then (if bt785.2 = 0 then (if (bt776.1.length : Int) = (l0.length : Int) then (if (Int.tmod (wrap64 (a3)) (wrap64 ((l0.length : Int) + 1))) ≤ (bt776.1.length : Int) then ((a0q.f k (bt776.1.take ((Int.tmod (wrap64 (a3)) (wrap64 ((l0.length : Int) + 1))) : Int).toNat) bt785.1).bind fun t793 => (some t793)) else (none)) else (some false)) else (some false)) else (some false)) else (some t773)))) else (none)) else (none))))) else (some t773)))
theorem a1q.mono : ∀ a0 a1 a2 a3 k, LeO (a1q.f k a0 a1 a2 a3) (a1q.f (k + 1) a0 a1 a2 a3) := by
 intro a0 a1 a2 a3 k
 unfold a1q.f
 with_reducible (repeat' first | apply a0e.mono | apply a0v.mono | apply a0q.mono | apply a1e.mono | apply LeO.refl | apply LeO.none | apply LeO.ite | refine LeO.bind ?_ (fun _ => ?_))
def a1q.T6 : Bool × List (List Nat × List Nat) := (true, [([], []), ([], []), ([0, 1], [0, 1]), ([], []), ([], []), ([4], [4]), ([2, 3, 5, 5], [2, 3, 5]), ([6], [6]), ([7], [7]), ([7], [7]), ([8, 6, 0, 1, 2, 3, 4, 5, 6, 7, 8], [8]), ([9, 10, 0, 1, 2, 3, 4, 5, 6, 7, 8, 9, 10], [9])])
def a1q.B6 : List Nat := [0, 0, 3, 0, 0, 16, 63, 127, 255, 255, 511, 2047]
theorem a1q.tab6 : rtab .any (opsOf Try.f9 6) = a1q.T6 := by kernel_rfl
theorem a1q.b3u : a5l a1q.T6.2 a1q.B6 = true := by kernel_rfl
set_option maxHeartbeats 8000000 in
set_option maxRecDepth 100000 in
theorem a1q.calls (k : Nat) (A0 : Option Addr) (c0 : Nat) (l0 : List (S51)) (A1 : Option Addr) (c1 : Nat) (l1 : List (S58)) (a2 a3 : Int) (r : Bool) (w : World) (hr0 : Kd.C k51 w A0 l0.length l0) (hc0 : l0.length ≤ c0) (hr1 : Kd.C k58 w A1 l1.length l1) (hc1 : l1.length ≤ c1) (h : a1q.f k l0 l1 a2 a3 = some r) :
  Calls Try.prog 9 #[.slice A0 l0.length c0, .slice A1 l1.length c1, .int .u16 a2, .int .u8 a3] w fun e w' => e = .returned (.bool r) ∧ Below w.heap.size w w' := by
 have HR0 := Aside0.mk hr0
 have HC0 := Aside0.mk hc0
 clear hr0 hc0
 have HR1 := Aside0.mk hr1
 have HC1 := Aside0.mk hc1
 clear hr1 hc1
 have HB := Aside0.mk (Below.refl w.heap.size w)
 have H : ((a0e.f k).bind fun t773 => ((a0v.f k l0 l1).bind fun t774 => (if t774 = true then (if (wrap64 ((l0.length : Int) + 1)) = 0 then (none) else ((a0k.f a2).bind fun t775 => ((a1e.f k l0 l1 t775).bind fun bt776 => (if 0 ≤ (Int.tmod (wrap64 (a3)) (wrap64 ((l0.length : Int) + 1))) then (if (Int.tmod (wrap64 (a3)) (wrap64 ((l0.length : Int) + 1))) ≤ (l0.length : Int) then ((a0k.f a2).bind fun t784 => ((a1e.f k (l0.take ((Int.tmod (wrap64 (a3)) (wrap64 ((l0.length : Int) + 1))) : Int).toNat) l1 t784).bind fun bt785 => (if bt776.2 = 0 then (if t773 = true then (if bt785.2 = 0 then (if (bt776.1.length : Int) = (l0.length : Int) then (if (Int.tmod (wrap64 (a3)) (wrap64 ((l0.length : Int) + 1))) ≤ (bt776.1.length : Int) then ((a0q.f k (bt776.1.take ((Int.tmod (wrap64 (a3)) (wrap64 ((l0.length : Int) + 1))) : Int).toNat) bt785.1).bind fun t793 => (some t793)) else (none)) else (some false)) else (some false)) else (some false)) else (some t773)))) else (none)) else (none))))) else (some t773)))) = some r := h
 clear h
 replace H := Option.bind_eq_some_iff.mp H
 obtain ⟨t773, A50, H⟩ := H
 replace H : ((a0v.f k l0 l1).bind fun t774 => (if t774 = true then (if (wrap64 ((l0.length : Int) + 1)) = 0 then (none) else ((a0k.f a2).bind fun t775 => ((a1e.f k l0 l1 t775).bind fun bt776 => (if 0 ≤ (Int.tmod (wrap64 (a3)) (wrap64 ((l0.length : Int) + 1))) then (if (Int.tmod (wrap64 (a3)) (wrap64 ((l0.length : Int) + 1))) ≤ (l0.length : Int) then ((a0k.f a2).bind fun t784 => ((a1e.f k (l0.take ((Int.tmod (wrap64 (a3)) (wrap64 ((l0.length : Int) + 1))) : Int).toNat) l1 t784).bind fun bt785 => (if bt776.2 = 0 then (if t773 = true then (if bt785.2 = 0 then (if (bt776.1.length : Int) = (l0.length : Int) then (if (Int.tmod (wrap64 (a3)) (wrap64 ((l0.length : Int) + 1))) ≤ (bt776.1.length : Int) then ((a0q.f k (bt776.1.take ((Int.tmod (wrap64 (a3)) (wrap64 ((l0.length : Int) + 1))) : Int).toNat) bt785.1).bind fun t793 => (some t793)) else (none)) else (some false)) else (some false)) else (some false)) else (some t773)))) else (none)) else (none))))) else (some t773))) = some r := H
 have A5 := Aside0.mk A50
 clear A50
 replace H := Option.bind_eq_some_iff.mp H
 obtain ⟨t774, A60, H⟩ := H
 replace H : (if t774 = true then (if (wrap64 ((l0.length : Int) + 1)) = 0 then (none) else ((a0k.f a2).bind fun t775 => ((a1e.f k l0 l1 t775).bind fun bt776 => (if 0 ≤ (Int.tmod (wrap64 (a3)) (wrap64 ((l0.length : Int) + 1))) then (if (Int.tmod (wrap64 (a3)) (wrap64 ((l0.length : Int) + 1))) ≤ (l0.length : Int) then ((a0k.f a2).bind fun t784 => ((a1e.f k (l0.take ((Int.tmod (wrap64 (a3)) (wrap64 ((l0.length : Int) + 1))) : Int).toNat) l1 t784).bind fun bt785 => (if bt776.2 = 0 then (if t773 = true then (if bt785.2 = 0 then (if (bt776.1.length : Int) = (l0.length : Int) then (if (Int.tmod (wrap64 (a3)) (wrap64 ((l0.length : Int) + 1))) ≤ (bt776.1.length : Int) then ((a0q.f k (bt776.1.take ((Int.tmod (wrap64 (a3)) (wrap64 ((l0.length : Int) + 1))) : Int).toNat) bt785.1).bind fun t793 => (some t793)) else (none)) else (some false)) else (some false)) else (some false)) else (some t773)))) else (none)) else (none))))) else (some t773)) = some r := H
 have A6 := Aside0.mk A60
 clear A60
 by_cases c7 : t774 = true
 ·subst c7
  have H1 : (if (wrap64 ((l0.length : Int) + 1)) = 0 then (none) else ((a0k.f a2).bind fun t775 => ((a1e.f k l0 l1 t775).bind fun bt776 => (if 0 ≤ (Int.tmod (wrap64 (a3)) (wrap64 ((l0.length : Int) + 1))) then (if (Int.tmod (wrap64 (a3)) (wrap64 ((l0.length : Int) + 1))) ≤ (l0.length : Int) then ((a0k.f a2).bind fun t784 => ((a1e.f k (l0.take ((Int.tmod (wrap64 (a3)) (wrap64 ((l0.length : Int) + 1))) : Int).toNat) l1 t784).bind fun bt785 => (if bt776.2 = 0 then (if t773 = true then (if bt785.2 = 0 then (if (bt776.1.length : Int) = (l0.length : Int) then (if (Int.tmod (wrap64 (a3)) (wrap64 ((l0.length : Int) + 1))) ≤ (bt776.1.length : Int) then ((a0q.f k (bt776.1.take ((Int.tmod (wrap64 (a3)) (wrap64 ((l0.length : Int) + 1))) : Int).toNat) bt785.1).bind fun t793 => (some t793)) else (none)) else (some false)) else (some false)) else (some false)) else (some t773)))) else (none)) else (none))))) = some r := by rw [if_pos rfl] at H; exact H
  clear H
  have H := H1
  clear H1
  by_cases c8 : (wrap64 ((l0.length : Int) + 1)) = 0
  ·rw [if_pos c8] at H
   exact absurd H (by simp)
  ·rw [if_neg c8] at H
   have c8b0 : ((wrap64 ((l0.length : Int) + 1)) == 0) = false := beq_eq_false_iff_ne.mpr c8
   have c8b1 : ((wrap64 ((l0.length : Int) + 1)) != 0) = true := bne_iff_ne.mpr c8
   replace H := Option.bind_eq_some_iff.mp H
   obtain ⟨t775, A90, H⟩ := H
   replace H : ((a1e.f k l0 l1 t775).bind fun bt776 => (if 0 ≤ (Int.tmod (wrap64 (a3)) (wrap64 ((l0.length : Int) + 1))) then (if (Int.tmod (wrap64 (a3)) (wrap64 ((l0.length : Int) + 1))) ≤ (l0.length : Int) then ((a0k.f a2).bind fun t784 => ((a1e.f k (l0.take ((Int.tmod (wrap64 (a3)) (wrap64 ((l0.length : Int) + 1))) : Int).toNat) l1 t784).bind fun bt785 => (if bt776.2 = 0 then (if t773 = true then (if bt785.2 = 0 then (if (bt776.1.length : Int) = (l0.length : Int) then (if (Int.tmod (wrap64 (a3)) (wrap64 ((l0.length : Int) + 1))) ≤ (bt776.1.length : Int) then ((a0q.f k (bt776.1.take ((Int.tmod (wrap64 (a3)) (wrap64 ((l0.length : Int) + 1))) : Int).toNat) bt785.1).bind fun t793 => (some t793)) else (none)) else (some false)) else (some false)) else (some false)) else (some t773)))) else (none)) else (none))) = some r := H
   have A9 := Aside0.mk A90
   clear A90
   replace H := Option.bind_eq_some_iff.mp H
   obtain ⟨⟨t776, t777⟩, A100, H⟩ := H
   replace H : (if 0 ≤ (Int.tmod (wrap64 (a3)) (wrap64 ((l0.length : Int) + 1))) then (if (Int.tmod (wrap64 (a3)) (wrap64 ((l0.length : Int) + 1))) ≤ (l0.length : Int) then ((a0k.f a2).bind fun t784 => ((a1e.f k (l0.take ((Int.tmod (wrap64 (a3)) (wrap64 ((l0.length : Int) + 1))) : Int).toNat) l1 t784).bind fun bt785 => (if t777 = 0 then (if t773 = true then (if bt785.2 = 0 then (if (t776.length : Int) = (l0.length : Int) then (if (Int.tmod (wrap64 (a3)) (wrap64 ((l0.length : Int) + 1))) ≤ (t776.length : Int) then ((a0q.f k (t776.take ((Int.tmod (wrap64 (a3)) (wrap64 ((l0.length : Int) + 1))) : Int).toNat) bt785.1).bind fun t793 => (some t793)) else (none)) else (some false)) else (some false)) else (some false)) else (some t773)))) else (none)) else (none)) = some r := H
   have A10 := Aside0.mk A100
   clear A100
   obtain ⟨ji11, hji11⟩ : ∃ j_ : Int, (Int.tmod (wrap64 (a3)) (wrap64 ((l0.length : Int) + 1))) = j_ := ⟨_, rfl⟩
   replace H : (if 0 ≤ (ji11) then (if (ji11) ≤ (l0.length : Int) then ((a0k.f a2).bind fun t784 => ((a1e.f k (l0.take ((ji11) : Int).toNat) l1 t784).bind fun bt785 => (if t777 = 0 then (if t773 = true then (if bt785.2 = 0 then (if (t776.length : Int) = (l0.length : Int) then (if (ji11) ≤ (t776.length : Int) then ((a0q.f k (t776.take ((ji11) : Int).toNat) bt785.1).bind fun t793 => (some t793)) else (none)) else (some false)) else (some false)) else (some false)) else (some t773)))) else (none)) else (none)) = some r := by first | (rw [hji11] at H; exact H) | (simp only [hji11] at H ⊢; exact H)
   (try rw [hji11] at A5)
   (try rw [hji11] at A6)
   (try rw [hji11] at A9)
   (try rw [hji11] at A10)
   by_cases c12 : 0 ≤ (ji11)
   ·rw [if_pos c12] at H
    have c12b0 := eq_true c12
    have c12b1 : decide (0 ≤ (ji11)) = true := decide_eq_true c12
    clear c12
    by_cases c13 : (ji11) ≤ (l0.length : Int)
    ·rw [if_pos c13] at H
     have c13b0 := eq_true c13
     have c13b1 : decide ((ji11) ≤ (l0.length : Int)) = true := decide_eq_true c13
     clear c13
     obtain ⟨y780, hy780⟩ : ∃ y_ : List (S51), y_ = (l0.take ((ji11) : Int).toNat) := ⟨_, rfl⟩
     replace H : ((a0k.f a2).bind fun t784 => ((a1e.f k y780 l1 t784).bind fun bt785 => (if t777 = 0 then (if t773 = true then (if bt785.2 = 0 then (if (t776.length : Int) = (l0.length : Int) then (if (ji11) ≤ (t776.length : Int) then ((a0q.f k (t776.take ((ji11) : Int).toNat) bt785.1).bind fun t793 => (some t793)) else (none)) else (some false)) else (some false)) else (some false)) else (some t773)))) = some r := by first | (rw [hy780]; with_reducible exact H) | (have H2_ := (Option.bind_some _ _).symm.trans H; rw [hy780]; with_reducible exact H2_) | (have H2_ := (Option.bind_some _ _).symm.trans H; with_reducible exact H2_) | with_reducible exact H | (rw [hy780]; exact H) | exact H
     have Ny780 := Aside0.mk hy780
     clear hy780
     replace H := Option.bind_eq_some_iff.mp H
     obtain ⟨t784, A140, H⟩ := H
     replace H : ((a1e.f k y780 l1 t784).bind fun bt785 => (if t777 = 0 then (if t773 = true then (if bt785.2 = 0 then (if (t776.length : Int) = (l0.length : Int) then (if (ji11) ≤ (t776.length : Int) then ((a0q.f k (t776.take ((ji11) : Int).toNat) bt785.1).bind fun t793 => (some t793)) else (none)) else (some false)) else (some false)) else (some false)) else (some t773))) = some r := H
     have A14 := Aside0.mk A140
     clear A140
     replace H := Option.bind_eq_some_iff.mp H
     obtain ⟨⟨t785, t786⟩, A150, H⟩ := H
     replace H : (if t777 = 0 then (if t773 = true then (if t786 = 0 then (if (t776.length : Int) = (l0.length : Int) then (if (ji11) ≤ (t776.length : Int) then ((a0q.f k (t776.take ((ji11) : Int).toNat) t785).bind fun t793 => (some t793)) else (none)) else (some false)) else (some false)) else (some false)) else (some t773)) = some r := H
     have A15 := Aside0.mk A150
     clear A150
     by_cases c16 : t777 = 0
     ·rw [if_pos c16] at H
      have c16b0 : (t777 == 0) = true := beq_iff_eq.mpr c16
      have c16b1 : (t777 != 0) = false := bne_eq_false_iff_eq.mpr c16
      clear c16
      by_cases c17 : t773 = true
      ·subst c17
       have H1 : (if t786 = 0 then (if (t776.length : Int) = (l0.length : Int) then (if (ji11) ≤ (t776.length : Int) then ((a0q.f k (t776.take ((ji11) : Int).toNat) t785).bind fun t793 => (some t793)) else (none)) else (some false)) else (some false)) = some r := by rw [if_pos rfl] at H; exact H
       clear H
       have H := H1
       clear H1
       by_cases c18 : t786 = 0
       ·rw [if_pos c18] at H
        have c18b0 : (t786 == 0) = true := beq_iff_eq.mpr c18
        have c18b1 : (t786 != 0) = false := bne_eq_false_iff_eq.mpr c18
        clear c18
        by_cases c19 : (t776.length : Int) = (l0.length : Int)
        ·rw [if_pos c19] at H
         have c19b0 : ((t776.length : Int) == (l0.length : Int)) = true := beq_iff_eq.mpr c19
         have c19b1 : ((t776.length : Int) != (l0.length : Int)) = false := bne_eq_false_iff_eq.mpr c19
         have c19b2 : (t776.length == l0.length) = true := by first | simpa using c19 | (simp at c19 ⊢; omega)
         clear c19
         have c20b0 := eq_true (of_decide_eq_true qa_ : 0 ≤ (ji11))
         by_cases c21 : (ji11) ≤ (t776.length : Int)
         ·rw [if_pos c21] at H
          have c21b0 := eq_true c21
          have c21b1 : decide ((ji11) ≤ (t776.length : Int)) = true := decide_eq_true c21
          clear c21
          obtain ⟨y789, hy789⟩ : ∃ y_ : List (S42), y_ = (t776.take ((ji11) : Int).toNat) := ⟨_, rfl⟩
          replace H : ((a0q.f k y789 t785).bind fun t793 => (some t793)) = some r := by first | (rw [hy789]; with_reducible exact H) | (have H2_ := (Option.bind_some _ _).symm.trans H; rw [hy789]; with_reducible exact H2_) | (have H2_ := (Option.bind_some _ _).symm.trans H; with_reducible exact H2_) | with_reducible exact H | (rw [hy789]; exact H) | exact H
          have Ny789 := Aside0.mk hy789
          clear hy789
          replace H := Option.bind_eq_some_iff.mp H
          obtain ⟨t793, A220, H⟩ := H
          replace H : (some t793) = some r := H
          have A22 := Aside0.mk A220
          clear A220
          obtain rfl := Option.some.inj H
          go_enter Try.func9, Try.ntmps9
          try go_wp2_with (first | ((with_reducible refine a0i (f := 10) rfl ?_); refine a1i (some 15) rfl rfl Try.func10 (by kernel_rfl) rfl #[] rfl ql_ ?_; (with_reducible refine (a0e.calls k  true _ A5.out).mono ?_); rintro e w23 ⟨rfl, hb⟩; refine ⟨_, rfl, ?_⟩; replace HB := qbs_ hb; (try clear hb); (try clear hb2); (try clear hk); (try clear hi)) | ((with_reducible refine a0i (f := 24) rfl ?_); refine a1i (some 18) rfl rfl Try.func24 (by kernel_rfl) rfl #[.slice A0 l0.length c0, .slice A1 l1.length c1] rfl ql_ ?_; (with_reducible refine (a0v.calls k _ _ l0 _ _ l1 true _ ?s1 ?s2 ?s3 ?s4 A6.out).mono ?_); (case s1 => exact qc_ HR0); (case s2 => exact HC0.out); (case s3 => exact qc_ HR1); (case s4 => exact HC1.out); rintro e w24 ⟨rfl, hb⟩; refine ⟨_, rfl, ?_⟩; replace HB := qbs_ hb; (try clear hb); (try clear hb2); (try clear hk); (try clear hi)) | ((with_reducible refine a0i (f := 25) rfl ?_); refine a1i (some 31) rfl rfl Try.func25 (by kernel_rfl) rfl #[.int .u16 a2] rfl ql_ ?_; (with_reducible refine (a0k.calls a2 t775 _ A9.out).mono ?_); rintro e w' ⟨rfl, ⟨nd, rfl⟩⟩; refine ⟨_, rfl, ?_⟩) | ((with_reducible refine a0i (f := 12) rfl ?_); refine a1i (some 32) rfl rfl Try.func12 (by kernel_rfl) rfl #[.slice A0 l0.length c0, .slice A1 l1.length c1, .int .i64 t775] rfl ql_ ?_; (with_reducible refine (a1e.calls k _ _ l0 _ _ l1 t775 t776 t777 _ ?s1 ?s2 ?s3 ?s4 A10.out).mono ?_); (case s1 => repeat (first | exact (Kd.a1l HR0.out qb_) | (with_reducible refine Kd.a1b ?_ _) | (with_reducible refine Kd.a1c ?_ _) | (with_reducible refine Kd.a1k ?_))); (case s2 => exact HC0.out); (case s3 => repeat (first | exact (Kd.a1l HR1.out qb_) | (with_reducible refine Kd.a1b ?_ _) | (with_reducible refine Kd.a1c ?_ _) | (with_reducible refine Kd.a1k ?_))); (case s4 => exact HC1.out); rintro e w25 ⟨v778, rfl, ho0, hb⟩; refine ⟨_, rfl, ?_⟩; have HO779 := Aside0.mk (Kd.a3b ho0 (a0r qb_)); replace HB := qbs_ hb; (try clear hb); (try clear hb2); (try clear hk); (try clear hi); (try clear ho0)))
          replace HO779 := Aside0.mk (Kd.a2f HO779.out)
          replace HB := Aside0.mk (ld_ HB.out)
          have q27 : ((ji11) : Int) ≤ ((l0.length : Int) : Int) := of_decide_eq_true qa_
          obtain ⟨i027, hi027, _, hsz27, _⟩ := info_parts b1t
          have hroom27 : l0.length ≤ c0 := HC0.out
          have hC27 : Kd.C k51 _ A0 l0.length l0 := HR0.out
          have hcut27 := a7l (P := Try.prog) 22 51 .i64 Try.underlying22 hi027 A0 l0.length c0 (ji11) (of_decide_eq_true qa_) q27 hroom27
          have hr27 := Kd.a7m (m := ((ji11) : Int).toNat) hC27 (by omega)
          have hy27 : y780.length = ((ji11) : Int).toNat := (by rw [Ny780.out, List.length_take]; omega)
          rw [← Ny780.out] at hr27
          rw [← hy27] at hcut27
          have HR783 := Aside0.mk hr27
          have HC783 := Aside0.mk (show y780.length ≤ c0 from by omega)
          clear hr27 hC27 hroom27 hi027 hsz27
          have KY27 := Aside0.mk hy27
          clear hy27
          replace q27 := eq_true q27
          refine a4r (n := 12) (S := fun w' => True) (ds := []) #[Y,Y,Y,Y,Y,Y,Y,Y,Y,Y,Y,Y] (by kernel_rfl) rfl rfl trivial (fun hHeld => ?_); refine a3n a1q.tab6 a1q.b3u (fun HT_ HW_ => ?_)
          generalize w25.drew = w26 at HO779 HB HR783 hHeld ⊢
          refine qpu_ 0 (some 36) #[Z,Y,Y,Y,Y,Y,Y,Y,Y,Y,Y,Y] ?_
          refine qpu_ 1 (some 37) #[Z,Z,Y,Y,Y,Y,Y,Y,Y,Y,Y,Y] ?_
          refine qpu_ 2 (some 38) #[Z,Z,Z,Y,Y,Y,Y,Y,Y,Y,Y,Y] ?_
          refine qpu_ 3 (some 39) #[Z,Z,Z,Z,Y,Y,Y,Y,Y,Y,Y,Y] ?_
          refine qpu_ 4 (some 40) #[Z,Z,Z,Z,Z,Y,Y,Y,Y,Y,Y,Y] ?_
          refine one_ (i := 5) (N := some 41) #[Z,Z,Z,Z,Z,Z,Y,Y,Y,Y,Y,Y] rfl rfl (a4n HT_.out (by kernel_rfl)) (by decide) (fun K hK => ?_)
          refine a5f Try.func25 (by kernel_rfl) rfl #[.int .u16 a2] (by rfl) rfl rfl ql_ ?_
          with_reducible refine (a0k.calls a2 t784 _ A14.out).mono ?_
          rintro e w' ⟨rfl, ⟨nd, rfl⟩⟩
          refine ⟨_, rfl, ?_⟩
          refine hK.out _ _ trivial (fun hHeld => ?_)
          clear hK K
          refine a4p (a' := ?_) ?_ ?_
          rotate_left
          ·show Act.put _ (some 41) _ = _
           exact qp_
          refine one_ (i := 6) (N := some 42) #[Z,Z,Z,Z,Z,Z,Z,Y,Y,Y,Y,Y] rfl rfl (a4n HT_.out (by kernel_rfl)) (by decide) (fun K hK => ?_)
          refine a5f Try.func12 (by kernel_rfl) rfl #[.slice A0 y780.length c0, .slice A1 l1.length c1, .int .i64 t784] (by rfl) rfl rfl ql_ ?_
          with_reducible refine (a1e.calls k _ _ y780 _ _ l1 t784 t785 t786 _ ?s1 ?s2 ?s3 ?s4 A15.out).mono ?_
          (case s1 => repeat (first | exact (Kd.a1l HR783.out qb_) | (with_reducible refine Kd.a1b ?_ _) | (with_reducible refine Kd.a1c ?_ _) | (with_reducible refine Kd.a1k ?_)))
          (case s2 => exact HC783.out)
          (case s3 => repeat (first | exact (Kd.a1l HR1.out qb_) | (with_reducible refine Kd.a1b ?_ _) | (with_reducible refine Kd.a1c ?_ _) | (with_reducible refine Kd.a1k ?_)))
          (case s4 => exact HC1.out)
          rintro e w28 ⟨v787, rfl, ho0, hb⟩
          refine ⟨_, rfl, ?_⟩
          have HO788 := Aside0.mk (Kd.a3b (Kd.a4a ho0 (Kd.R_lt (qr_ HO779))) (a0r qb_))
          replace HO779 := qel_ HO779 ho0 hb
          replace HB := qbs_ hb
          (try clear hb)
          (try clear hb2)
          (try clear hk)
          (try clear hi)
          (try clear ho0)
          refine hK.out _ _ trivial (fun hHeld => ?_)
          clear hK K
          refine a4p (a' := ?_) ?_ ?_
          rotate_left
          ·show Act.put _ (some 42) _ = _
           exact qp_
          refine qpu_ 7 (some 35) #[Z,Z,Z,Z,Z,Z,Z,Z,Y,Y,Y,Y] ?_
          refine qpu_ 8 (some 43) #[Z,Z,Z,Z,Z,Z,Z,Z,Z,Y,Y,Y] ?_
          refine qpu_ 9 (some 44) #[Z,Z,Z,Z,Z,Z,Z,Z,Z,Z,Y,Y] ?_
          refine qpu_ 10 (some 13) #[Z,Z,Z,Z,Z,Z,Z,Z,Z,Z,Z,Y] ?_
          refine qpu_ 11 (some 14) #[Z,Z,Z,Z,Z,Z,Z,Z,Z,Z,Z,Z] ?_
          refine a5a (a4h HT_.out (by kernel_rfl)) ?_
          obtain ⟨Ao29, co29, eo29⟩ := Kd.a3c HO779.out
          subst eo29
          have q30 : ((ji11) : Int) ≤ ((t776.length : Int) : Int) := of_decide_eq_true qa_
          obtain ⟨i030, hi030, _, hsz30, _⟩ := info_parts a8r
          have hroom30 : t776.length ≤ co29 := (Kd.a1g HO779.out).2.1
          have hC30 : Kd.C k42 _ Ao29 t776.length t776 := (Kd.a1g HO779.out).2.2
          have hcut30 := a7l (P := Try.prog) 24 42 .i64 Try.underlying24 hi030 Ao29 t776.length co29 (ji11) (of_decide_eq_true qa_) q30 hroom30
          have hr30 := Kd.a7m (m := ((ji11) : Int).toNat) hC30 (by omega)
          have hy30 : y789.length = ((ji11) : Int).toNat := (by rw [Ny789.out, List.length_take]; omega)
          rw [← Ny789.out] at hr30
          rw [← hy30] at hcut30
          have HR792 := Aside0.mk hr30
          have HC792 := Aside0.mk (show y789.length ≤ co29 from by omega)
          clear hr30 hC30 hroom30 hi030 hsz30
          have KY30 := Aside0.mk hy30
          clear hy30
          have KL30 := Aside0.mk (show ((ji11) : Int).toNat ≤ t776.length from by omega)
          replace q30 := eq_true q30
          obtain ⟨Ao31, co31, eo31⟩ := Kd.a3c HO788.out
          subst eo31
          try go_wp2_with (first | (go_at_call 16; (with_reducible refine (a0q.calls k _ _ y789 _ _ t785 t793 _ ?s1 ?s2 ?s3 ?s4 A22.out).mono ?_); (case s1 => repeat (first | exact (by repeat (first | (with_reducible exact HR792.out) | (with_reducible refine Kd.a1b ?_ _) | (with_reducible refine Kd.a1c ?_ _) | (with_reducible refine Kd.a1k ?_) | exact HR792.out)) | (with_reducible refine Kd.a1b ?_ _) | (with_reducible refine Kd.a1c ?_ _) | (with_reducible refine Kd.a1k ?_))); (case s2 => exact HC792.out); (case s3 => exact qv_ (Kd.a1g HO788.out).2.2); (case s4 => exact (Kd.a1g HO788.out).2.1); rintro e w' ⟨rfl, ⟨nd, rfl⟩⟩))
          go_ret
          exact ⟨by first | rfl | (simp [a4j, a4k] <;> rfl) | (simp only [← hji11]; first | rfl | (simp [a4j, a4k] <;> rfl)) | (simp [*, a4j, a4k] <;> rfl), qb_⟩
         ·rw [if_neg c21] at H
          exact absurd H (by simp)
        ·rw [if_neg c19] at H
         have c19b0 : ((t776.length : Int) == (l0.length : Int)) = false := beq_eq_false_iff_ne.mpr c19
         have c19b1 : ((t776.length : Int) != (l0.length : Int)) = true := bne_iff_ne.mpr c19
         have c19b2 : (t776.length == l0.length) = false := by first | simpa using c19 | (simp at c19 ⊢; omega)
         obtain rfl := Option.some.inj H
         go_enter Try.func9, Try.ntmps9
         try go_wp2_with (first | ((with_reducible refine a0i (f := 10) rfl ?_); refine a1i (some 15) rfl rfl Try.func10 (by kernel_rfl) rfl #[] rfl ql_ ?_; (with_reducible refine (a0e.calls k  true _ A5.out).mono ?_); rintro e w32 ⟨rfl, hb⟩; refine ⟨_, rfl, ?_⟩; replace HB := qbs_ hb; (try clear hb); (try clear hb2); (try clear hk); (try clear hi)) | ((with_reducible refine a0i (f := 24) rfl ?_); refine a1i (some 18) rfl rfl Try.func24 (by kernel_rfl) rfl #[.slice A0 l0.length c0, .slice A1 l1.length c1] rfl ql_ ?_; (with_reducible refine (a0v.calls k _ _ l0 _ _ l1 true _ ?s1 ?s2 ?s3 ?s4 A6.out).mono ?_); (case s1 => exact qc_ HR0); (case s2 => exact HC0.out); (case s3 => exact qc_ HR1); (case s4 => exact HC1.out); rintro e w33 ⟨rfl, hb⟩; refine ⟨_, rfl, ?_⟩; replace HB := qbs_ hb; (try clear hb); (try clear hb2); (try clear hk); (try clear hi)) | ((with_reducible refine a0i (f := 25) rfl ?_); refine a1i (some 31) rfl rfl Try.func25 (by kernel_rfl) rfl #[.int .u16 a2] rfl ql_ ?_; (with_reducible refine (a0k.calls a2 t775 _ A9.out).mono ?_); rintro e w' ⟨rfl, ⟨nd, rfl⟩⟩; refine ⟨_, rfl, ?_⟩) | ((with_reducible refine a0i (f := 12) rfl ?_); refine a1i (some 32) rfl rfl Try.func12 (by kernel_rfl) rfl #[.slice A0 l0.length c0, .slice A1 l1.length c1, .int .i64 t775] rfl ql_ ?_; (with_reducible refine (a1e.calls k _ _ l0 _ _ l1 t775 t776 t777 _ ?s1 ?s2 ?s3 ?s4 A10.out).mono ?_); (case s1 => repeat (first | exact (Kd.a1l HR0.out qb_) | (with_reducible refine Kd.a1b ?_ _) | (with_reducible refine Kd.a1c ?_ _) | (with_reducible refine Kd.a1k ?_))); (case s2 => exact HC0.out); (case s3 => repeat (first | exact (Kd.a1l HR1.out qb_) | (with_reducible refine Kd.a1b ?_ _) | (with_reducible refine Kd.a1c ?_ _) | (with_reducible refine Kd.a1k ?_))); (case s4 => exact HC1.out); rintro e w34 ⟨v778, rfl, ho0, hb⟩; refine ⟨_, rfl, ?_⟩; have HO779 := Aside0.mk (Kd.a3b ho0 (a0r qb_)); replace HB := qbs_ hb; (try clear hb); (try clear hb2); (try clear hk); (try clear hi); (try clear ho0)))
         replace HO779 := Aside0.mk (Kd.a2f HO779.out)
         replace HB := Aside0.mk (ld_ HB.out)
         have q36 : ((ji11) : Int) ≤ ((l0.length : Int) : Int) := of_decide_eq_true qa_
         obtain ⟨i036, hi036, _, hsz36, _⟩ := info_parts b1t
         have hroom36 : l0.length ≤ c0 := HC0.out
         have hC36 : Kd.C k51 _ A0 l0.length l0 := HR0.out
         have hcut36 := a7l (P := Try.prog) 22 51 .i64 Try.underlying22 hi036 A0 l0.length c0 (ji11) (of_decide_eq_true qa_) q36 hroom36
         have hr36 := Kd.a7m (m := ((ji11) : Int).toNat) hC36 (by omega)
         have hy36 : y780.length = ((ji11) : Int).toNat := (by rw [Ny780.out, List.length_take]; omega)
         rw [← Ny780.out] at hr36
         rw [← hy36] at hcut36
         have HR783 := Aside0.mk hr36
         have HC783 := Aside0.mk (show y780.length ≤ c0 from by omega)
         clear hr36 hC36 hroom36 hi036 hsz36
         have KY36 := Aside0.mk hy36
         clear hy36
         replace q36 := eq_true q36
         refine a4r (n := 12) (S := fun w' => True) (ds := []) #[Y,Y,Y,Y,Y,Y,Y,Y,Y,Y,Y,Y] (by kernel_rfl) rfl rfl trivial (fun hHeld => ?_); refine a3n a1q.tab6 a1q.b3u (fun HT_ HW_ => ?_)
         generalize w34.drew = w35 at HO779 HB HR783 hHeld ⊢
         refine qpu_ 0 (some 36) #[Z,Y,Y,Y,Y,Y,Y,Y,Y,Y,Y,Y] ?_
         refine qpu_ 1 (some 37) #[Z,Z,Y,Y,Y,Y,Y,Y,Y,Y,Y,Y] ?_
         refine qpu_ 2 (some 38) #[Z,Z,Z,Y,Y,Y,Y,Y,Y,Y,Y,Y] ?_
         refine qpu_ 3 (some 39) #[Z,Z,Z,Z,Y,Y,Y,Y,Y,Y,Y,Y] ?_
         refine qpu_ 4 (some 40) #[Z,Z,Z,Z,Z,Y,Y,Y,Y,Y,Y,Y] ?_
         refine one_ (i := 5) (N := some 41) #[Z,Z,Z,Z,Z,Z,Y,Y,Y,Y,Y,Y] rfl rfl (a4n HT_.out (by kernel_rfl)) (by decide) (fun K hK => ?_)
         refine a5f Try.func25 (by kernel_rfl) rfl #[.int .u16 a2] (by rfl) rfl rfl ql_ ?_
         with_reducible refine (a0k.calls a2 t784 _ A14.out).mono ?_
         rintro e w' ⟨rfl, ⟨nd, rfl⟩⟩
         refine ⟨_, rfl, ?_⟩
         refine hK.out _ _ trivial (fun hHeld => ?_)
         clear hK K
         refine a4p (a' := ?_) ?_ ?_
         rotate_left
         ·show Act.put _ (some 41) _ = _
          exact qp_
         refine one_ (i := 6) (N := some 42) #[Z,Z,Z,Z,Z,Z,Z,Y,Y,Y,Y,Y] rfl rfl (a4n HT_.out (by kernel_rfl)) (by decide) (fun K hK => ?_)
         refine a5f Try.func12 (by kernel_rfl) rfl #[.slice A0 y780.length c0, .slice A1 l1.length c1, .int .i64 t784] (by rfl) rfl rfl ql_ ?_
         with_reducible refine (a1e.calls k _ _ y780 _ _ l1 t784 t785 t786 _ ?s1 ?s2 ?s3 ?s4 A15.out).mono ?_
         (case s1 => repeat (first | exact (Kd.a1l HR783.out qb_) | (with_reducible refine Kd.a1b ?_ _) | (with_reducible refine Kd.a1c ?_ _) | (with_reducible refine Kd.a1k ?_)))
         (case s2 => exact HC783.out)
         (case s3 => repeat (first | exact (Kd.a1l HR1.out qb_) | (with_reducible refine Kd.a1b ?_ _) | (with_reducible refine Kd.a1c ?_ _) | (with_reducible refine Kd.a1k ?_)))
         (case s4 => exact HC1.out)
         rintro e w37 ⟨v787, rfl, ho0, hb⟩
         refine ⟨_, rfl, ?_⟩
         have HO788 := Aside0.mk (Kd.a3b (Kd.a4a ho0 (Kd.R_lt (qr_ HO779))) (a0r qb_))
         replace HO779 := qel_ HO779 ho0 hb
         replace HB := qbs_ hb
         (try clear hb)
         (try clear hb2)
         (try clear hk)
         (try clear hi)
         (try clear ho0)
         refine hK.out _ _ trivial (fun hHeld => ?_)
         clear hK K
         refine a4p (a' := ?_) ?_ ?_
         rotate_left
         ·show Act.put _ (some 42) _ = _
          exact qp_
         refine qpu_ 7 (some 35) #[Z,Z,Z,Z,Z,Z,Z,Z,Y,Y,Y,Y] ?_
         refine qpu_ 8 (some 43) #[Z,Z,Z,Z,Z,Z,Z,Z,Z,Y,Y,Y] ?_
         refine qpu_ 9 (some 44) #[Z,Z,Z,Z,Z,Z,Z,Z,Z,Z,Y,Y] ?_
         refine qpu_ 10 (some 13) #[Z,Z,Z,Z,Z,Z,Z,Z,Z,Z,Z,Y] ?_
         refine qpu_ 11 (some 14) #[Z,Z,Z,Z,Z,Z,Z,Z,Z,Z,Z,Z] ?_
         refine a5a (a4h HT_.out (by kernel_rfl)) ?_
         obtain ⟨Ao38, co38, eo38⟩ := Kd.a3c HO779.out
         subst eo38
         try go_wp2
         go_ret
         exact ⟨by first | rfl | (simp [a4j, a4k] <;> rfl) | (simp only [← hji11]; first | rfl | (simp [a4j, a4k] <;> rfl)) | (simp [*, a4j, a4k] <;> rfl), qb_⟩
       ·rw [if_neg c18] at H
        have c18b0 : (t786 == 0) = false := beq_eq_false_iff_ne.mpr c18
        have c18b1 : (t786 != 0) = true := bne_iff_ne.mpr c18
        obtain rfl := Option.some.inj H
        go_enter Try.func9, Try.ntmps9
        try go_wp2_with (first | ((with_reducible refine a0i (f := 10) rfl ?_); refine a1i (some 15) rfl rfl Try.func10 (by kernel_rfl) rfl #[] rfl ql_ ?_; (with_reducible refine (a0e.calls k  true _ A5.out).mono ?_); rintro e w39 ⟨rfl, hb⟩; refine ⟨_, rfl, ?_⟩; replace HB := qbs_ hb; (try clear hb); (try clear hb2); (try clear hk); (try clear hi)) | ((with_reducible refine a0i (f := 24) rfl ?_); refine a1i (some 18) rfl rfl Try.func24 (by kernel_rfl) rfl #[.slice A0 l0.length c0, .slice A1 l1.length c1] rfl ql_ ?_; (with_reducible refine (a0v.calls k _ _ l0 _ _ l1 true _ ?s1 ?s2 ?s3 ?s4 A6.out).mono ?_); (case s1 => exact qc_ HR0); (case s2 => exact HC0.out); (case s3 => exact qc_ HR1); (case s4 => exact HC1.out); rintro e w40 ⟨rfl, hb⟩; refine ⟨_, rfl, ?_⟩; replace HB := qbs_ hb; (try clear hb); (try clear hb2); (try clear hk); (try clear hi)) | ((with_reducible refine a0i (f := 25) rfl ?_); refine a1i (some 31) rfl rfl Try.func25 (by kernel_rfl) rfl #[.int .u16 a2] rfl ql_ ?_; (with_reducible refine (a0k.calls a2 t775 _ A9.out).mono ?_); rintro e w' ⟨rfl, ⟨nd, rfl⟩⟩; refine ⟨_, rfl, ?_⟩) | ((with_reducible refine a0i (f := 12) rfl ?_); refine a1i (some 32) rfl rfl Try.func12 (by kernel_rfl) rfl #[.slice A0 l0.length c0, .slice A1 l1.length c1, .int .i64 t775] rfl ql_ ?_; (with_reducible refine (a1e.calls k _ _ l0 _ _ l1 t775 t776 t777 _ ?s1 ?s2 ?s3 ?s4 A10.out).mono ?_); (case s1 => repeat (first | exact (Kd.a1l HR0.out qb_) | (with_reducible refine Kd.a1b ?_ _) | (with_reducible refine Kd.a1c ?_ _) | (with_reducible refine Kd.a1k ?_))); (case s2 => exact HC0.out); (case s3 => repeat (first | exact (Kd.a1l HR1.out qb_) | (with_reducible refine Kd.a1b ?_ _) | (with_reducible refine Kd.a1c ?_ _) | (with_reducible refine Kd.a1k ?_))); (case s4 => exact HC1.out); rintro e w41 ⟨v778, rfl, ho0, hb⟩; refine ⟨_, rfl, ?_⟩; have HO779 := Aside0.mk (Kd.a3b ho0 (a0r qb_)); replace HB := qbs_ hb; (try clear hb); (try clear hb2); (try clear hk); (try clear hi); (try clear ho0)))
        replace HO779 := Aside0.mk (Kd.a2f HO779.out)
        replace HB := Aside0.mk (ld_ HB.out)
        have q43 : ((ji11) : Int) ≤ ((l0.length : Int) : Int) := of_decide_eq_true qa_
        obtain ⟨i043, hi043, _, hsz43, _⟩ := info_parts b1t
        have hroom43 : l0.length ≤ c0 := HC0.out
        have hC43 : Kd.C k51 _ A0 l0.length l0 := HR0.out
        have hcut43 := a7l (P := Try.prog) 22 51 .i64 Try.underlying22 hi043 A0 l0.length c0 (ji11) (of_decide_eq_true qa_) q43 hroom43
        have hr43 := Kd.a7m (m := ((ji11) : Int).toNat) hC43 (by omega)
        have hy43 : y780.length = ((ji11) : Int).toNat := (by rw [Ny780.out, List.length_take]; omega)
        rw [← Ny780.out] at hr43
        rw [← hy43] at hcut43
        have HR783 := Aside0.mk hr43
        have HC783 := Aside0.mk (show y780.length ≤ c0 from by omega)
        clear hr43 hC43 hroom43 hi043 hsz43
        have KY43 := Aside0.mk hy43
        clear hy43
        replace q43 := eq_true q43
        refine a4r (n := 12) (S := fun w' => True) (ds := []) #[Y,Y,Y,Y,Y,Y,Y,Y,Y,Y,Y,Y] (by kernel_rfl) rfl rfl trivial (fun hHeld => ?_); refine a3n a1q.tab6 a1q.b3u (fun HT_ HW_ => ?_)
        generalize w41.drew = w42 at HO779 HB HR783 hHeld ⊢
        refine qpu_ 0 (some 36) #[Z,Y,Y,Y,Y,Y,Y,Y,Y,Y,Y,Y] ?_
        refine qpu_ 1 (some 37) #[Z,Z,Y,Y,Y,Y,Y,Y,Y,Y,Y,Y] ?_
        refine qpu_ 2 (some 38) #[Z,Z,Z,Y,Y,Y,Y,Y,Y,Y,Y,Y] ?_
        refine qpu_ 3 (some 39) #[Z,Z,Z,Z,Y,Y,Y,Y,Y,Y,Y,Y] ?_
        refine qpu_ 4 (some 40) #[Z,Z,Z,Z,Z,Y,Y,Y,Y,Y,Y,Y] ?_
        refine one_ (i := 5) (N := some 41) #[Z,Z,Z,Z,Z,Z,Y,Y,Y,Y,Y,Y] rfl rfl (a4n HT_.out (by kernel_rfl)) (by decide) (fun K hK => ?_)
        refine a5f Try.func25 (by kernel_rfl) rfl #[.int .u16 a2] (by rfl) rfl rfl ql_ ?_
        with_reducible refine (a0k.calls a2 t784 _ A14.out).mono ?_
        rintro e w' ⟨rfl, ⟨nd, rfl⟩⟩
        refine ⟨_, rfl, ?_⟩
        refine hK.out _ _ trivial (fun hHeld => ?_)
        clear hK K
        refine a4p (a' := ?_) ?_ ?_
        rotate_left
        ·show Act.put _ (some 41) _ = _
         exact qp_
        refine one_ (i := 6) (N := some 42) #[Z,Z,Z,Z,Z,Z,Z,Y,Y,Y,Y,Y] rfl rfl (a4n HT_.out (by kernel_rfl)) (by decide) (fun K hK => ?_)
        refine a5f Try.func12 (by kernel_rfl) rfl #[.slice A0 y780.length c0, .slice A1 l1.length c1, .int .i64 t784] (by rfl) rfl rfl ql_ ?_
        with_reducible refine (a1e.calls k _ _ y780 _ _ l1 t784 t785 t786 _ ?s1 ?s2 ?s3 ?s4 A15.out).mono ?_
        (case s1 => repeat (first | exact (Kd.a1l HR783.out qb_) | (with_reducible refine Kd.a1b ?_ _) | (with_reducible refine Kd.a1c ?_ _) | (with_reducible refine Kd.a1k ?_)))
        (case s2 => exact HC783.out)
        (case s3 => repeat (first | exact (Kd.a1l HR1.out qb_) | (with_reducible refine Kd.a1b ?_ _) | (with_reducible refine Kd.a1c ?_ _) | (with_reducible refine Kd.a1k ?_)))
        (case s4 => exact HC1.out)
        rintro e w44 ⟨v787, rfl, ho0, hb⟩
        refine ⟨_, rfl, ?_⟩
        have HO788 := Aside0.mk (Kd.a3b (Kd.a4a ho0 (Kd.R_lt (qr_ HO779))) (a0r qb_))
        replace HO779 := qel_ HO779 ho0 hb
        replace HB := qbs_ hb
        (try clear hb)
        (try clear hb2)
        (try clear hk)
        (try clear hi)
        (try clear ho0)
        refine hK.out _ _ trivial (fun hHeld => ?_)
        clear hK K
        refine a4p (a' := ?_) ?_ ?_
        rotate_left
        ·show Act.put _ (some 42) _ = _
         exact qp_
        refine qpu_ 7 (some 35) #[Z,Z,Z,Z,Z,Z,Z,Z,Y,Y,Y,Y] ?_
        refine qpu_ 8 (some 43) #[Z,Z,Z,Z,Z,Z,Z,Z,Z,Y,Y,Y] ?_
        refine qpu_ 9 (some 44) #[Z,Z,Z,Z,Z,Z,Z,Z,Z,Z,Y,Y] ?_
        refine qpu_ 10 (some 13) #[Z,Z,Z,Z,Z,Z,Z,Z,Z,Z,Z,Y] ?_
        refine qpu_ 11 (some 14) #[Z,Z,Z,Z,Z,Z,Z,Z,Z,Z,Z,Z] ?_
        refine a5a (a4h HT_.out (by kernel_rfl)) ?_
        try go_wp2
        go_ret
        exact ⟨by first | rfl | (simp [a4j, a4k] <;> rfl) | (simp only [← hji11]; first | rfl | (simp [a4j, a4k] <;> rfl)) | (simp [*, a4j, a4k] <;> rfl), qb_⟩
      ·replace c17 := Bool.eq_false_iff.mpr c17
       subst c17
       have H1 : (some false) = some r := by rw [if_neg (show ¬ (false = true) by decide)] at H; exact H
       clear H
       have H := H1
       clear H1
       obtain rfl := Option.some.inj H
       go_enter Try.func9, Try.ntmps9
       try go_wp2_with (first | ((with_reducible refine a0i (f := 10) rfl ?_); refine a1i (some 15) rfl rfl Try.func10 (by kernel_rfl) rfl #[] rfl ql_ ?_; (with_reducible refine (a0e.calls k  false _ A5.out).mono ?_); rintro e w45 ⟨rfl, hb⟩; refine ⟨_, rfl, ?_⟩; replace HB := qbs_ hb; (try clear hb); (try clear hb2); (try clear hk); (try clear hi)) | ((with_reducible refine a0i (f := 24) rfl ?_); refine a1i (some 18) rfl rfl Try.func24 (by kernel_rfl) rfl #[.slice A0 l0.length c0, .slice A1 l1.length c1] rfl ql_ ?_; (with_reducible refine (a0v.calls k _ _ l0 _ _ l1 true _ ?s1 ?s2 ?s3 ?s4 A6.out).mono ?_); (case s1 => exact qc_ HR0); (case s2 => exact HC0.out); (case s3 => exact qc_ HR1); (case s4 => exact HC1.out); rintro e w46 ⟨rfl, hb⟩; refine ⟨_, rfl, ?_⟩; replace HB := qbs_ hb; (try clear hb); (try clear hb2); (try clear hk); (try clear hi)) | ((with_reducible refine a0i (f := 25) rfl ?_); refine a1i (some 31) rfl rfl Try.func25 (by kernel_rfl) rfl #[.int .u16 a2] rfl ql_ ?_; (with_reducible refine (a0k.calls a2 t775 _ A9.out).mono ?_); rintro e w' ⟨rfl, ⟨nd, rfl⟩⟩; refine ⟨_, rfl, ?_⟩) | ((with_reducible refine a0i (f := 12) rfl ?_); refine a1i (some 32) rfl rfl Try.func12 (by kernel_rfl) rfl #[.slice A0 l0.length c0, .slice A1 l1.length c1, .int .i64 t775] rfl ql_ ?_; (with_reducible refine (a1e.calls k _ _ l0 _ _ l1 t775 t776 t777 _ ?s1 ?s2 ?s3 ?s4 A10.out).mono ?_); (case s1 => repeat (first | exact (Kd.a1l HR0.out qb_) | (with_reducible refine Kd.a1b ?_ _) | (with_reducible refine Kd.a1c ?_ _) | (with_reducible refine Kd.a1k ?_))); (case s2 => exact HC0.out); (case s3 => repeat (first | exact (Kd.a1l HR1.out qb_) | (with_reducible refine Kd.a1b ?_ _) | (with_reducible refine Kd.a1c ?_ _) | (with_reducible refine Kd.a1k ?_))); (case s4 => exact HC1.out); rintro e w47 ⟨v778, rfl, ho0, hb⟩; refine ⟨_, rfl, ?_⟩; have HO779 := Aside0.mk (Kd.a3b ho0 (a0r qb_)); replace HB := qbs_ hb; (try clear hb); (try clear hb2); (try clear hk); (try clear hi); (try clear ho0)))
       replace HO779 := Aside0.mk (Kd.a2f HO779.out)
       replace HB := Aside0.mk (ld_ HB.out)
       have q49 : ((ji11) : Int) ≤ ((l0.length : Int) : Int) := of_decide_eq_true qa_
       obtain ⟨i049, hi049, _, hsz49, _⟩ := info_parts b1t
       have hroom49 : l0.length ≤ c0 := HC0.out
       have hC49 : Kd.C k51 _ A0 l0.length l0 := HR0.out
       have hcut49 := a7l (P := Try.prog) 22 51 .i64 Try.underlying22 hi049 A0 l0.length c0 (ji11) (of_decide_eq_true qa_) q49 hroom49
       have hr49 := Kd.a7m (m := ((ji11) : Int).toNat) hC49 (by omega)
       have hy49 : y780.length = ((ji11) : Int).toNat := (by rw [Ny780.out, List.length_take]; omega)
       rw [← Ny780.out] at hr49
       rw [← hy49] at hcut49
       have HR783 := Aside0.mk hr49
       have HC783 := Aside0.mk (show y780.length ≤ c0 from by omega)
       clear hr49 hC49 hroom49 hi049 hsz49
       have KY49 := Aside0.mk hy49
       clear hy49
       replace q49 := eq_true q49
       refine a4r (n := 12) (S := fun w' => True) (ds := []) #[Y,Y,Y,Y,Y,Y,Y,Y,Y,Y,Y,Y] (by kernel_rfl) rfl rfl trivial (fun hHeld => ?_); refine a3n a1q.tab6 a1q.b3u (fun HT_ HW_ => ?_)
       generalize w47.drew = w48 at HO779 HB HR783 hHeld ⊢
       refine qpu_ 0 (some 36) #[Z,Y,Y,Y,Y,Y,Y,Y,Y,Y,Y,Y] ?_
       refine qpu_ 1 (some 37) #[Z,Z,Y,Y,Y,Y,Y,Y,Y,Y,Y,Y] ?_
       refine qpu_ 2 (some 38) #[Z,Z,Z,Y,Y,Y,Y,Y,Y,Y,Y,Y] ?_
       refine qpu_ 3 (some 39) #[Z,Z,Z,Z,Y,Y,Y,Y,Y,Y,Y,Y] ?_
       refine qpu_ 4 (some 40) #[Z,Z,Z,Z,Z,Y,Y,Y,Y,Y,Y,Y] ?_
       refine one_ (i := 5) (N := some 41) #[Z,Z,Z,Z,Z,Z,Y,Y,Y,Y,Y,Y] rfl rfl (a4n HT_.out (by kernel_rfl)) (by decide) (fun K hK => ?_)
       refine a5f Try.func25 (by kernel_rfl) rfl #[.int .u16 a2] (by rfl) rfl rfl ql_ ?_
       with_reducible refine (a0k.calls a2 t784 _ A14.out).mono ?_
       rintro e w' ⟨rfl, ⟨nd, rfl⟩⟩
       refine ⟨_, rfl, ?_⟩
       refine hK.out _ _ trivial (fun hHeld => ?_)
       clear hK K
       refine a4p (a' := ?_) ?_ ?_
       rotate_left
       ·show Act.put _ (some 41) _ = _
        exact qp_
       refine one_ (i := 6) (N := some 42) #[Z,Z,Z,Z,Z,Z,Z,Y,Y,Y,Y,Y] rfl rfl (a4n HT_.out (by kernel_rfl)) (by decide) (fun K hK => ?_)
       refine a5f Try.func12 (by kernel_rfl) rfl #[.slice A0 y780.length c0, .slice A1 l1.length c1, .int .i64 t784] (by rfl) rfl rfl ql_ ?_
       with_reducible refine (a1e.calls k _ _ y780 _ _ l1 t784 t785 t786 _ ?s1 ?s2 ?s3 ?s4 A15.out).mono ?_
       (case s1 => repeat (first | exact (Kd.a1l HR783.out qb_) | (with_reducible refine Kd.a1b ?_ _) | (with_reducible refine Kd.a1c ?_ _) | (with_reducible refine Kd.a1k ?_)))
       (case s2 => exact HC783.out)
       (case s3 => repeat (first | exact (Kd.a1l HR1.out qb_) | (with_reducible refine Kd.a1b ?_ _) | (with_reducible refine Kd.a1c ?_ _) | (with_reducible refine Kd.a1k ?_)))
       (case s4 => exact HC1.out)
       rintro e w50 ⟨v787, rfl, ho0, hb⟩
       refine ⟨_, rfl, ?_⟩
       have HO788 := Aside0.mk (Kd.a3b (Kd.a4a ho0 (Kd.R_lt (qr_ HO779))) (a0r qb_))
       replace HO779 := qel_ HO779 ho0 hb
       replace HB := qbs_ hb
       (try clear hb)
       (try clear hb2)
       (try clear hk)
       (try clear hi)
       (try clear ho0)
       refine hK.out _ _ trivial (fun hHeld => ?_)
       clear hK K
       refine a4p (a' := ?_) ?_ ?_
       rotate_left
       ·show Act.put _ (some 42) _ = _
        exact qp_
       refine qpu_ 7 (some 35) #[Z,Z,Z,Z,Z,Z,Z,Z,Y,Y,Y,Y] ?_
       refine qpu_ 8 (some 43) #[Z,Z,Z,Z,Z,Z,Z,Z,Z,Y,Y,Y] ?_
       refine qpu_ 9 (some 44) #[Z,Z,Z,Z,Z,Z,Z,Z,Z,Z,Y,Y] ?_
       refine qpu_ 10 (some 13) #[Z,Z,Z,Z,Z,Z,Z,Z,Z,Z,Z,Y] ?_
       refine qpu_ 11 (some 14) #[Z,Z,Z,Z,Z,Z,Z,Z,Z,Z,Z,Z] ?_
       refine a5a (a4h HT_.out (by kernel_rfl)) ?_
       try go_wp2
       go_ret
       exact ⟨by first | rfl | (simp [a4j, a4k] <;> rfl) | (simp only [← hji11]; first | rfl | (simp [a4j, a4k] <;> rfl)) | (simp [*, a4j, a4k] <;> rfl), qb_⟩
     ·rw [if_neg c16] at H
      have c16b0 : (t777 == 0) = false := beq_eq_false_iff_ne.mpr c16
      have c16b1 : (t777 != 0) = true := bne_iff_ne.mpr c16
      obtain rfl := Option.some.inj H
      go_enter Try.func9, Try.ntmps9
      try go_wp2_with (first | ((with_reducible refine a0i (f := 10) rfl ?_); refine a1i (some 15) rfl rfl Try.func10 (by kernel_rfl) rfl #[] rfl ql_ ?_; (with_reducible refine (a0e.calls k  t773 _ A5.out).mono ?_); rintro e w51 ⟨rfl, hb⟩; refine ⟨_, rfl, ?_⟩; replace HB := qbs_ hb; (try clear hb); (try clear hb2); (try clear hk); (try clear hi)) | ((with_reducible refine a0i (f := 24) rfl ?_); refine a1i (some 18) rfl rfl Try.func24 (by kernel_rfl) rfl #[.slice A0 l0.length c0, .slice A1 l1.length c1] rfl ql_ ?_; (with_reducible refine (a0v.calls k _ _ l0 _ _ l1 true _ ?s1 ?s2 ?s3 ?s4 A6.out).mono ?_); (case s1 => exact qc_ HR0); (case s2 => exact HC0.out); (case s3 => exact qc_ HR1); (case s4 => exact HC1.out); rintro e w52 ⟨rfl, hb⟩; refine ⟨_, rfl, ?_⟩; replace HB := qbs_ hb; (try clear hb); (try clear hb2); (try clear hk); (try clear hi)) | ((with_reducible refine a0i (f := 25) rfl ?_); refine a1i (some 31) rfl rfl Try.func25 (by kernel_rfl) rfl #[.int .u16 a2] rfl ql_ ?_; (with_reducible refine (a0k.calls a2 t775 _ A9.out).mono ?_); rintro e w' ⟨rfl, ⟨nd, rfl⟩⟩; refine ⟨_, rfl, ?_⟩) | ((with_reducible refine a0i (f := 12) rfl ?_); refine a1i (some 32) rfl rfl Try.func12 (by kernel_rfl) rfl #[.slice A0 l0.length c0, .slice A1 l1.length c1, .int .i64 t775] rfl ql_ ?_; (with_reducible refine (a1e.calls k _ _ l0 _ _ l1 t775 t776 t777 _ ?s1 ?s2 ?s3 ?s4 A10.out).mono ?_); (case s1 => repeat (first | exact (Kd.a1l HR0.out qb_) | (with_reducible refine Kd.a1b ?_ _) | (with_reducible refine Kd.a1c ?_ _) | (with_reducible refine Kd.a1k ?_))); (case s2 => exact HC0.out); (case s3 => repeat (first | exact (Kd.a1l HR1.out qb_) | (with_reducible refine Kd.a1b ?_ _) | (with_reducible refine Kd.a1c ?_ _) | (with_reducible refine Kd.a1k ?_))); (case s4 => exact HC1.out); rintro e w53 ⟨v778, rfl, ho0, hb⟩; refine ⟨_, rfl, ?_⟩; have HO779 := Aside0.mk (Kd.a3b ho0 (a0r qb_)); replace HB := qbs_ hb; (try clear hb); (try clear hb2); (try clear hk); (try clear hi); (try clear ho0)))
      replace HO779 := Aside0.mk (Kd.a2f HO779.out)
      replace HB := Aside0.mk (ld_ HB.out)
      have q55 : ((ji11) : Int) ≤ ((l0.length : Int) : Int) := of_decide_eq_true qa_
      obtain ⟨i055, hi055, _, hsz55, _⟩ := info_parts b1t
      have hroom55 : l0.length ≤ c0 := HC0.out
      have hC55 : Kd.C k51 _ A0 l0.length l0 := HR0.out
      have hcut55 := a7l (P := Try.prog) 22 51 .i64 Try.underlying22 hi055 A0 l0.length c0 (ji11) (of_decide_eq_true qa_) q55 hroom55
      have hr55 := Kd.a7m (m := ((ji11) : Int).toNat) hC55 (by omega)
      have hy55 : y780.length = ((ji11) : Int).toNat := (by rw [Ny780.out, List.length_take]; omega)
      rw [← Ny780.out] at hr55
      rw [← hy55] at hcut55
      have HR783 := Aside0.mk hr55
      have HC783 := Aside0.mk (show y780.length ≤ c0 from by omega)
      clear hr55 hC55 hroom55 hi055 hsz55
      have KY55 := Aside0.mk hy55
      clear hy55
      replace q55 := eq_true q55
      refine a4r (n := 12) (S := fun w' => True) (ds := []) #[Y,Y,Y,Y,Y,Y,Y,Y,Y,Y,Y,Y] (by kernel_rfl) rfl rfl trivial (fun hHeld => ?_); refine a3n a1q.tab6 a1q.b3u (fun HT_ HW_ => ?_)
      generalize w53.drew = w54 at HO779 HB HR783 hHeld ⊢
      refine qpu_ 0 (some 36) #[Z,Y,Y,Y,Y,Y,Y,Y,Y,Y,Y,Y] ?_
      refine qpu_ 1 (some 37) #[Z,Z,Y,Y,Y,Y,Y,Y,Y,Y,Y,Y] ?_
      refine qpu_ 2 (some 38) #[Z,Z,Z,Y,Y,Y,Y,Y,Y,Y,Y,Y] ?_
      refine qpu_ 3 (some 39) #[Z,Z,Z,Z,Y,Y,Y,Y,Y,Y,Y,Y] ?_
      refine qpu_ 4 (some 40) #[Z,Z,Z,Z,Z,Y,Y,Y,Y,Y,Y,Y] ?_
      refine one_ (i := 5) (N := some 41) #[Z,Z,Z,Z,Z,Z,Y,Y,Y,Y,Y,Y] rfl rfl (a4n HT_.out (by kernel_rfl)) (by decide) (fun K hK => ?_)
      refine a5f Try.func25 (by kernel_rfl) rfl #[.int .u16 a2] (by rfl) rfl rfl ql_ ?_
      with_reducible refine (a0k.calls a2 t784 _ A14.out).mono ?_
      rintro e w' ⟨rfl, ⟨nd, rfl⟩⟩
      refine ⟨_, rfl, ?_⟩
      refine hK.out _ _ trivial (fun hHeld => ?_)
      clear hK K
      refine a4p (a' := ?_) ?_ ?_
      rotate_left
      ·show Act.put _ (some 41) _ = _
       exact qp_
      refine one_ (i := 6) (N := some 42) #[Z,Z,Z,Z,Z,Z,Z,Y,Y,Y,Y,Y] rfl rfl (a4n HT_.out (by kernel_rfl)) (by decide) (fun K hK => ?_)
      refine a5f Try.func12 (by kernel_rfl) rfl #[.slice A0 y780.length c0, .slice A1 l1.length c1, .int .i64 t784] (by rfl) rfl rfl ql_ ?_
      with_reducible refine (a1e.calls k _ _ y780 _ _ l1 t784 t785 t786 _ ?s1 ?s2 ?s3 ?s4 A15.out).mono ?_
      (case s1 => repeat (first | exact (Kd.a1l HR783.out qb_) | (with_reducible refine Kd.a1b ?_ _) | (with_reducible refine Kd.a1c ?_ _) | (with_reducible refine Kd.a1k ?_)))
      (case s2 => exact HC783.out)
      (case s3 => repeat (first | exact (Kd.a1l HR1.out qb_) | (with_reducible refine Kd.a1b ?_ _) | (with_reducible refine Kd.a1c ?_ _) | (with_reducible refine Kd.a1k ?_)))
      (case s4 => exact HC1.out)
      rintro e w56 ⟨v787, rfl, ho0, hb⟩
      refine ⟨_, rfl, ?_⟩
      have HO788 := Aside0.mk (Kd.a3b (Kd.a4a ho0 (Kd.R_lt (qr_ HO779))) (a0r qb_))
      replace HO779 := qel_ HO779 ho0 hb
      replace HB := qbs_ hb
      (try clear hb)
      (try clear hb2)
      (try clear hk)
      (try clear hi)
      (try clear ho0)
      refine hK.out _ _ trivial (fun hHeld => ?_)
      clear hK K
      refine a4p (a' := ?_) ?_ ?_
      rotate_left
      ·show Act.put _ (some 42) _ = _
       exact qp_
      refine qpu_ 7 (some 35) #[Z,Z,Z,Z,Z,Z,Z,Z,Y,Y,Y,Y] ?_
      refine qpu_ 8 (some 43) #[Z,Z,Z,Z,Z,Z,Z,Z,Z,Y,Y,Y] ?_
      refine qpu_ 9 (some 44) #[Z,Z,Z,Z,Z,Z,Z,Z,Z,Z,Y,Y] ?_
      refine qpu_ 10 (some 13) #[Z,Z,Z,Z,Z,Z,Z,Z,Z,Z,Z,Y] ?_
      refine qpu_ 11 (some 14) #[Z,Z,Z,Z,Z,Z,Z,Z,Z,Z,Z,Z] ?_
      refine a5a (a4h HT_.out (by kernel_rfl)) ?_
      try go_wp2
      go_ret
      exact ⟨by first | rfl | (simp [a4j, a4k] <;> rfl) | (simp only [← hji11]; first | rfl | (simp [a4j, a4k] <;> rfl)) | (simp [*, a4j, a4k] <;> rfl), qb_⟩
    ·rw [if_neg c13] at H
     exact absurd H (by simp)
   ·rw [if_neg c12] at H
    exact absurd H (by simp)
 ·replace c7 := Bool.eq_false_iff.mpr c7
  subst c7
  have H1 : (some t773) = some r := by rw [if_neg (show ¬ (false = true) by decide)] at H; exact H
  clear H
  have H := H1
  clear H1
  obtain rfl := Option.some.inj H
  go_enter Try.func9, Try.ntmps9
  go_wp2_with (first | ((with_reducible refine a0i (f := 10) rfl ?_); refine a1i (some 15) rfl rfl Try.func10 (by kernel_rfl) rfl #[] rfl ql_ ?_; (with_reducible refine (a0e.calls k  t773 _ A5.out).mono ?_); rintro e w57 ⟨rfl, hb⟩; refine ⟨_, rfl, ?_⟩; replace HB := qbs_ hb; (try clear hb); (try clear hb2); (try clear hk); (try clear hi)) | ((with_reducible refine a0i (f := 24) rfl ?_); refine a1i (some 18) rfl rfl Try.func24 (by kernel_rfl) rfl #[.slice A0 l0.length c0, .slice A1 l1.length c1] rfl ql_ ?_; (with_reducible refine (a0v.calls k _ _ l0 _ _ l1 false _ ?s1 ?s2 ?s3 ?s4 A6.out).mono ?_); (case s1 => exact qc_ HR0); (case s2 => exact HC0.out); (case s3 => exact qc_ HR1); (case s4 => exact HC1.out); rintro e w58 ⟨rfl, hb⟩; refine ⟨_, rfl, ?_⟩; replace HB := qbs_ hb; (try clear hb); (try clear hb2); (try clear hk); (try clear hi)))
  go_ret
  exact ⟨qx_, qb_⟩
end Go.Proofs.Ytheibjkjmkanoaa.Px
/- The plan of the first jobs alone is the beginning of the plan of all. Conditions: the day lies within 0 and 65535, the number within 0 and 255. -/
namespace Go.Proofs.Ytheibjkjmkanoaa.Pure
open Go.RowKit Go.Proofs.YtheibjkjmkanoaaW.PrintWords Go.Proofs.YtheibjkjmkanoaaW.PrintMore Go.Proofs.Ytheibjkjmkanoaa.Given Go.Proofs.Ytheibjkjmkanoaa.Px Go.Proofs.Ytheibjkjmkanoaa.Wk
set_option linter.unusedVariables false
set_option linter.unusedSimpArgs false
theorem a7h (l : List S51) (n : Nat) {q : Int} (q0 : 0 ≤ q) (q1 : q < n) : a0a (l.take n) q = a0a l q := by
 unfold a0a
 rw [List.getD_eq_getElem?_getD, List.getD_eq_getElem?_getD, List.getElem?_take, if_pos (by omega)]
theorem b6w {j : List S51} {t : List S58} (hv : vaP j t) (n : Nat) : vaP (j.take n) t := by
 refine ⟨hv.1, by rw [List.length_take]; have := hv.2.1; omega, hv.2.2.1, fun i i0 i1 => ?_⟩
 rw [List.length_take] at i1
 have h := hv.2.2.2 i i0 (by omega)
 unfold joOk at h ⊢
 rw [a7h j n i0 (by omega)]
 refine ⟨h.1, h.2.1, fun p => ?_, h.2.2.2.1, h.2.2.2.2.1, h.2.2.2.2.2.1, h.2.2.2.2.2.2.1, h.2.2.2.2.2.2.2.1, h.2.2.2.2.2.2.2.2.1, fun a a0 a1 => ?_⟩
 ·rw [a7h j n (by omega) (by omega)]
  exact h.2.2.1 p
 ·obtain ⟨p, p0, p1, e⟩ := h.2.2.2.2.2.2.2.2.2 a a0 a1
  exact ⟨p, p0, p1, by rw [a7h j n p0 (by omega)]; exact e⟩
theorem c2a {j : List S51} {t : List S58} (hb : bdP j t) (n : Nat) : bdP (j.take n) t := by
 refine ⟨by rw [List.length_take]; have := hb.1; omega, hb.2.1, fun i i0 i1 => ?_, hb.2.2.2⟩
 rw [List.length_take] at i1
 rw [a7h j n i0 (by omega)]
 exact hb.2.2.1 i i0 (by omega)
theorem b6x (j : List S51) (n : Nat) {q : Int} (q0 : 0 ≤ q) (q1 : q < n) : jid (j.take n) q = jid j q := by
 unfold jid
 rw [a7h j n q0 q1]
theorem c2b {j : List S51} {n : Nat} {i : Int} (i0 : 0 ≤ i) (i1 : i < n) (hn : n ≤ j.length) {a b : Int} {m g : List S42} (hm : m.length = j.length) (hg : g.length = n)
  (h : ∀ q : Int, 0 ≤ q → q < i → a0b g q = a0b m q) (zm : ∀ q : Int, i ≤ q → ¬ 0 < (a0b m q).f2) (zg : ∀ q : Int, i ≤ q → ¬ 0 < (a0b g q).f2) : clP (j.take n) i a b g ↔ clP j i a b m := by
 constructor
 ·intro ⟨k, k0, k1, c1, c2, c3, c4, c5⟩
  have kl : k < i := by
   by_cases d : k < i
   ·exact d
   ·exact absurd c1 (zg k (by omega))
  rw [h k k0 kl] at c1 c2 c3
  rw [a7h j n i0 i1, a7h j n k0 (by omega)] at c5
  exact ⟨k, k0, by omega, c1, c2, c3, c4, c5⟩
 ·intro ⟨k, k0, k1, c1, c2, c3, c4, c5⟩
  have kl : k < i := by
   by_cases d : k < i
   ·exact d
   ·exact absurd c1 (zm k (by omega))
  rw [← h k k0 kl] at c1 c2 c3
  refine ⟨k, k0, by omega, c1, c2, c3, c4, ?_⟩
  rw [a7h j n i0 i1, a7h j n k0 (by omega)]
  exact c5
theorem c1b {j : List S51} {t : List S58} (hv : vaP j t) {n : Nat} (hn : n ≤ j.length) {i : Int} (i0 : 0 ≤ i) (i1 : i < n) {m g : List S42} (h : ∀ q : Int, 0 ≤ q → q < i → a0b g q = a0b m q) (day : Int) : lowF (j.take n) g i day = lowF j m i day := by
 unfold lowF
 rw [a7h j n i0 i1]
 have main : ∀ c : Nat, c ≤ (a0a j i).f3.length → lowN (j.take n) g (a0a j i).f3 day c = lowN j m (a0a j i).f3 day c := by
  intro c
  induction c with
  | zero => intro _; rfl
  | succ c ih =>
   intro hc
   rw [lowN, lowN, ih (by omega)]
   obtain ⟨p, p0, p1, e⟩ := (hv.2.2.2 i i0 (by omega)).2.2.2.2.2.2.2.2.2 (c : Int) (by omega) (by omega)
   have e1 : a2h (atM j) (jid j p) = p := b3r hv p0 (by omega)
   have e2 : a2h (atM (j.take n)) (jid (j.take n) p) = p := b3r (b6w hv n) p0 (by rw [List.length_take]; omega)
   rw [b6x j n p0 (by omega)] at e2
   have e' : jid j p = rd (a0a j i).f3 (c : Int) := e
   rw [e'] at e1 e2
   rw [e1, e2, h p p0 p1]
 exact main _ (Nat.le_refl _)
theorem c2c {j : List S51} {t : List S58} (hv : vaP j t) {n : Nat} (hn : n ≤ j.length) {F : List S56} {i : Int} (i0 : 0 ≤ i) (i1 : i < n) {d low s : Int} {m g : List S42} (hm : m.length = j.length) (hg : g.length = n)
  (h : ∀ q : Int, 0 ≤ q → q < i → a0b g q = a0b m q) (zm : ∀ q : Int, i ≤ q → ¬ 0 < (a0b m q).f2) (zg : ∀ q : Int, i ≤ q → ¬ 0 < (a0b g q).f2) (hp : plS j F i d low m (some s)) : plS (j.take n) F i d low g (some s) := by
 have e : ∀ a : Int, a9a (j.take n) F i d g a ↔ a9a j F i d m a := fun a => by
  unfold a9a
  rw [c2b i0 i1 hn hm hg h zm zg]
 exact ⟨hp.1, (e s).2 hp.2.1, fun q q0 q1 hq => hp.2.2 q q0 q1 ((e q).1 hq)⟩
theorem c1c {j : List S51} {t : List S58} (hv : vaP j t) {day : Int} (h1 : 0 ≤ day) (h2 : day ≤ 36525) {r : List S42} (hr : a6n j t day (List.replicate j.length z42) = some r) {n : Nat} (hn : n ≤ j.length) :
  ∀ (m : Nat) (i : Int) (g : List S42), 0 ≤ i → i + m = n → g.length = n → (∀ q : Int, 0 ≤ q → q < i → a0b g q = a0b r q) → (∀ q : Int, i ≤ q → a0b g q = z42) → a7k (j.take n) t day m i g = some (r.take n) := by
 unfold a6n at hr
 obtain ⟨⟨hl, _⟩, hat⟩ := b7w hv h1 h2 j.length 0 _ r (Int.le_refl _) (by omega) List.length_replicate (b4m j) hr
 rw [List.length_replicate] at hl
 intro m
 induction m with
 | zero =>
  intro i g i0 hi hg hq _
  rw [a7k]
  congr 1
  refine b9a (by rw [hg, List.length_take]; omega) fun q q0 q1 => ?_
  rw [b2a r n q0 (by omega)]
  exact hq q q0 (by omega)
 | succ m ih =>
  intro i g i0 hi hg hq hz
  have il : i < j.length := by omega
  obtain ⟨x, s, hmid, hfx, hpl, er⟩ := hat i (by omega) (by rw [List.length_replicate]; exact il) (by rw [a8m]; decide)
  have xl : x.length = j.length := by rw [hmid.1, List.length_replicate]
  have x1 : ∀ q : Int, 0 ≤ q → q < i → a0b x q = a0b r q := fun q q0 q1 => (hmid.2 q q0 (by rw [List.length_replicate]; omega)).1 (.inl q1)
  have x2 : ∀ q : Int, i ≤ q → ¬ 0 < (a0b x q).f2 := fun q q0 => by
   by_cases c : q < j.length
   ·rw [(hmid.2 q (by omega) (by rw [List.length_replicate]; exact c)).2 (by rw [a8m]; exact fun h => h.elim (fun h => by omega) (fun h => absurd h (by decide))), a8m]
    decide
   ·unfold a0b
    rw [List.getD_eq_getElem?_getD, List.getElem?_eq_none (by omega)]
    decide
  have hz' : ∀ q : Int, i ≤ q → ¬ 0 < (a0b g q).f2 := fun q q0 => by rw [hz q q0]; decide
  have hgx : ∀ q : Int, 0 ≤ q → q < i → a0b g q = a0b x q := fun q q0 q1 => by rw [hq q q0 q1, x1 q q0 q1]
  have pl := c2c hv hn i0 (by omega) xl hg hgx x2 hz' hpl
  rw [a7k, if_neg (hz' i (Int.le_refl _)), a7h j n i0 (by omega), c1b hv hn i0 (by omega) hgx day, b6i pl]
  dsimp only
  rw [b6x j n i0 (by omega), ← er]
  refine ih (i + 1) _ (by omega) (by omega) (by rw [List.length_set]; exact hg) (fun q q0 q1 => ?_) (fun q q0 => ?_)
  ·rw [b2j g i0 (by omega) _ q0]
   by_cases c : q = i
   ·rw [if_pos c, c]
   ·rw [if_neg c]; exact hq q q0 (by omega)
  ·rw [b2j g i0 (by omega) _ (by omega), if_neg (by omega)]
   exact hz q (by omega)
theorem b9e {j : List S51} {t : List S58} {day : Int} (h : (a5b j t day).2 = 0) {n : Nat} (hn : n ≤ j.length) : a5b (j.take n) t day = ((a5b j t day).1.take n, 0) := by
 obtain ⟨hv, d0, d1, hr⟩ := b6o h
 have e := c1c hv d0 (by omega) hr hn n 0 (List.replicate n z42) (Int.le_refl _) (by omega) List.length_replicate (fun q q0 q1 => by omega) (fun q _ => a8m)
 have hl : (j.take n).length = n := by rw [List.length_take]; omega
 generalize (a5b j t day).1 = P at e ⊢
 unfold a5b a6n
 rw [if_pos ⟨b6w hv n, d0, d1⟩, hl, e]
 rfl
theorem WorksBeginnings (j : List S51) (t : List S58) (a b : Int) (h0 : 0 ≤ a) (h1 : a ≤ 65535) (b0 : 0 ≤ b) (b1 : b ≤ 255) : Ev (fun k => a1q.f k j t a b) true := by
 obtain ⟨K0, g0⟩ := b0j
 obtain ⟨u, ⟨K1, g1⟩, hu⟩ := a9x j t
 dsimp only at g0 g1
 by_cases c : u = true
 ·obtain ⟨hf, hv⟩ := hu.1 c
  have hb := b0l hf
  have hj := hv.2.1
  obtain ⟨K2, g2⟩ := a9d j t hb (onF a)
  dsimp only at g2
  have w1 : wrap64 ((j.length : Int) + 1) = (j.length : Int) + 1 := w64 (by omega) (by omega)
  have m0 : 0 ≤ b % ((j.length : Int) + 1) := Int.emod_nonneg _ (by omega)
  have m1 : b % ((j.length : Int) + 1) < (j.length : Int) + 1 := Int.emod_lt_of_pos _ (by omega)
  obtain ⟨n, hn⟩ : ∃ n : Nat, (n : Int) = b % ((j.length : Int) + 1) := ⟨(b % ((j.length : Int) + 1)).toNat, Int.toNat_of_nonneg m0⟩
  have w2 : Int.tmod (wrap64 b) (wrap64 ((j.length : Int) + 1)) = (n : Int) := by rw [w1, w64 (by omega) (by omega), Int.tmod_eq_emod_of_nonneg b0, hn]
  have hnl : n ≤ j.length := by omega
  obtain ⟨K3, g3⟩ := a9d (j.take n) t (c2a hb n) (onF a)
  dsimp only at g3
  by_cases c2 : (a5b j t (onF a)).2 = 0
  ·obtain ⟨ok, len, low⟩ := a7z c2
   have e := b9e c2 hnl
   obtain ⟨s, ⟨K4, g4⟩, hs⟩ := b5b ((a5b j t (onF a)).1.take n) (a5b (j.take n) t (onF a)).1 (by rw [List.length_take]; omega)
   dsimp only at g4
   refine ⟨K0 + K1 + K2 + K3 + K4, fun k hk => ?_⟩
   dsimp only
   unfold a1q.f
   rw [w2, g0 _ (by omega), Option.bind_some, g1 _ (by omega), Option.bind_some, if_pos c, if_neg (by rw [w1]; omega), on_f, Option.bind_some, g2 _ (by omega), Option.bind_some, if_pos (by omega), if_pos (by omega), Option.bind_some, Int.toNat_natCast, g3 _ (by omega), Option.bind_some, if_pos c2, if_pos rfl, if_pos (by rw [e]), if_pos (by omega), if_pos (by omega), g4 _ (by omega), Option.bind_some, hs.2 (by rw [e])]
  ·refine ⟨K0 + K1 + K2 + K3, fun k hk => ?_⟩
   dsimp only
   unfold a1q.f
   rw [w2, g0 _ (by omega), Option.bind_some, g1 _ (by omega), Option.bind_some, if_pos c, if_neg (by rw [w1]; omega), on_f, Option.bind_some, g2 _ (by omega), Option.bind_some, if_pos (by omega), if_pos (by omega), Option.bind_some, Int.toNat_natCast, g3 _ (by omega), Option.bind_some, if_neg c2]
 ·refine ⟨K0 + K1, fun k hk => ?_⟩
  dsimp only
  unfold a1q.f
  rw [g0 _ (by omega), Option.bind_some, g1 _ (by omega), Option.bind_some, if_neg c]
end Go.Proofs.Ytheibjkjmkanoaa.Pure
