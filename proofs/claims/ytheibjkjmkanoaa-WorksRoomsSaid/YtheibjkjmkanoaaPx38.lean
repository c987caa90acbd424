/- Contracts of Go functions, printed. Conditions: as each theorem states. -/
import Derived.Test.YtheibjkjmkanoaaPx0
import Derived.Test.YtheibjkjmkanoaaPx11
import Derived.Test.YtheibjkjmkanoaaPx16
import Derived.Test.YtheibjkjmkanoaaPx20
import Derived.Test.YtheibjkjmkanoaaPx23
import Derived.Test.YtheibjkjmkanoaaPx34
import Derived.Test.YtheibjkjmkanoaaPx7
namespace Go.Proofs.Ytheibjkjmkanoaa.Px
open Go.Proofs.Ytheibjkjmkanoaa.Given
open Go.RowKit Go.Proofs.YtheibjkjmkanoaaW.PrintWords Go.Proofs.YtheibjkjmkanoaaW.PrintLast Go.Proofs.YtheibjkjmkanoaaW.PrintMore
attribute [local go_sem] a3r a3s a4e a4f a3k a3l a3t a3u
set_option linter.unusedVariables false
set_option linter.unusedSimpArgs false
def a3g.f (k : Nat) (l0 : List (S51)) (l1 : List (S58)) (a2 a3 : Int) : Option (Bool) := (a0e.f k).bind fun a => ((a0v.f k l0 l1).bind fun h => (if h = true then ((a0k.f a2).bind fun i => ((a1e.f k l0 l1 i).bind fun c => (if c.2 = 0 then ((a0k.f a2).bind fun g => ((a0k.f a2).bind fun b => (if (wrap64 (b + 1)) = 0 then (none) else ((a0t.f k l0 l1 c.1 (wrap64 (g - (Int.tmod (wrap64 (a3)) (wrap64 (b + 1))))) ([] : List Int)).bind fun d => ((a1e.f k l0 l1 (wrap64 (g - (Int.tmod (wrap64 (a3)) (wrap64 (b + 1)))))).bind fun e => (if a = true then (if d.2 = e.2 then ((a0q.f k d.1 e.1).bind fun j => (some j)) else (some false)) else (some false))))))) else (some a)))) else (some a)))
theorem a3g.mono : ∀ a0 a1 a2 a3 k,LeO (a3g.f k a0 a1 a2 a3) (a3g.f (k + 1) a0 a1 a2 a3) := by
 intro a0 a1 a2 a3 k
 unfold a3g.f
 with_reducible (repeat' first | apply a0e.mono | apply a0v.mono | apply a0q.mono | apply a0t.mono | apply a1e.mono | apply LeO.refl | apply LeO.none | apply LeO.ite | refine LeO.bind ?_ (fun _ => ?_))
set_option maxHeartbeats 8000000 in
set_option maxRecDepth 100000 in
theorem a3g.calls (k : Nat) (A0 : Option Addr) (c0 : Nat) (l0 : List (S51)) (A1 : Option Addr) (c1 : Nat) (l1 : List (S58)) (a2 a3 : Int) (r : Bool) (w : World) (a9 : Kd.C k51 w A0 l0.length l0) (aa : l0.length ≤ c0) (ab : Kd.C k58 w A1 l1.length l1) (ac : l1.length ≤ c1) (h : a3g.f k l0 l1 a2 a3 = some r) :
  Calls Try.prog 7 #[.slice A0 l0.length c0, .slice A1 l1.length c1, .int .u16 a2, .int .u16 a3] w fun e w' => e = .returned (.bool r) ∧ Below w.heap.size w w' := by
 have l := am_ a9
 have m := am_ aa
 clear a9 aa
 have n := am_ ab
 have o := am_ ac
 clear ab ac
 have HB := am_ (Below.refl w.heap.size w)
 have H : ((a0e.f k).bind fun p => ((a0v.f k l0 l1).bind fun E => (if E = true then ((a0k.f a2).bind fun i => ((a1e.f k l0 l1 i).bind fun I => (if I.2 = 0 then ((a0k.f a2).bind fun d => ((a0k.f a2).bind fun c => (if (wrap64 (c + 1)) = 0 then (none) else ((a0t.f k l0 l1 I.1 (wrap64 (d - (Int.tmod (wrap64 (a3)) (wrap64 (c + 1))))) ([] : List Int)).bind fun y => ((a1e.f k l0 l1 (wrap64 (d - (Int.tmod (wrap64 (a3)) (wrap64 (c + 1)))))).bind fun s => (if p = true then (if y.2 = s.2 then ((a0q.f k y.1 s.1).bind fun v => (some v)) else (some false)) else (some false))))))) else (some p)))) else (some p)))) = some r := h
 clear h
 replace H := bm_ H
 obtain ⟨p,ad,H⟩ := H
 have A5 := am_ ad
 clear ad
 replace H := bm_ H
 obtain ⟨E,ae,H⟩ := H
 have A6 := am_ ae
 clear ae
 by_cases c7 : E = true
 rotate_left
 ·replace c7 := be_ c7
  subst c7
  replace H := qin_ H
  obtain rfl := si_ H
  go_enter Try.func7,Try.ntmps7
  go_wp2_with (first | ((with_reducible refine a0i (f := 10) rfl ?_);refine a1i (some 17) rfl rfl Try.func10 (by kernel_rfl) rfl #[] rfl ql_ ?_;(with_reducible refine (a0e.calls k  p _ A5.out).mono ?_);rintro e aB ⟨rfl,hb⟩;refine ⟨_,rfl,?_⟩;replace HB := qbs_ hb;(try clear hb);(try clear j);(try clear hk);(try clear hi)) | ((with_reducible refine a0i (f := 24) rfl ?_);refine a1i (some 20) rfl rfl Try.func24 (by kernel_rfl) rfl #[.slice A0 l0.length c0, .slice A1 l1.length c1] rfl ql_ ?_;(with_reducible refine (a0v.calls k _ _ l0 _ _ l1 false _ ?s1 m.out ?s3 o.out A6.out).mono ?_);(case s1 => exact qc_ l);(case s3 => exact qc_ n);rintro e aC ⟨rfl,hb⟩;refine ⟨_,rfl,?_⟩;replace HB := qbs_ hb;(try clear hb);(try clear j);(try clear hk);(try clear hi)))
  go_ret
  exact ⟨qx_,qb_⟩
 subst c7
 replace H := qip_ H
 replace H := bm_ H
 obtain ⟨i,af,H⟩ := H
 have A8 := am_ af
 clear af
 replace H := bm_ H
 obtain ⟨⟨q,t⟩,ag,H⟩ := H
 replace H : (if t = 0 then ((a0k.f a2).bind fun d => ((a0k.f a2).bind fun c => (if (wrap64 (c + 1)) = 0 then (none) else ((a0t.f k l0 l1 q (wrap64 (d - (Int.tmod (wrap64 (a3)) (wrap64 (c + 1))))) ([] : List Int)).bind fun y => ((a1e.f k l0 l1 (wrap64 (d - (Int.tmod (wrap64 (a3)) (wrap64 (c + 1)))))).bind fun s => (if p = true then (if y.2 = s.2 then ((a0q.f k y.1 s.1).bind fun v => (some v)) else (some false)) else (some false))))))) else (some p)) = some r := H
 have A9 := am_ ag
 clear ag
 by_cases c10 : t = 0
 rotate_left
 ·rw [if_neg c10] at H
  have a5 : (t == 0) = false := beq_eq_false_iff_ne.mpr c10
  have a6 : (t != 0) = true := bne_iff_ne.mpr c10
  obtain rfl := si_ H
  go_enter Try.func7,Try.ntmps7
  go_wp2_with (first | ((with_reducible refine a0i (f := 10) rfl ?_);refine a1i (some 17) rfl rfl Try.func10 (by kernel_rfl) rfl #[] rfl ql_ ?_;(with_reducible refine (a0e.calls k  p _ A5.out).mono ?_);rintro e aD ⟨rfl,hb⟩;refine ⟨_,rfl,?_⟩;replace HB := qbs_ hb;(try clear hb);(try clear j);(try clear hk);(try clear hi)) | ((with_reducible refine a0i (f := 24) rfl ?_);refine a1i (some 20) rfl rfl Try.func24 (by kernel_rfl) rfl #[.slice A0 l0.length c0, .slice A1 l1.length c1] rfl ql_ ?_;(with_reducible refine (a0v.calls k _ _ l0 _ _ l1 true _ ?s1 m.out ?s3 o.out A6.out).mono ?_);(case s1 => exact qc_ l);(case s3 => exact qc_ n);rintro e aE ⟨rfl,hb⟩;refine ⟨_,rfl,?_⟩;replace HB := qbs_ hb;(try clear hb);(try clear j);(try clear hk);(try clear hi)) | ((with_reducible refine a0i (f := 25) rfl ?_);refine a1i (some 27) rfl rfl Try.func25 (by kernel_rfl) rfl #[.int .u16 a2] rfl ql_ ?_;(with_reducible refine (a0k.calls a2 i _ A8.out).mono ?_);rintro e w' ⟨rfl,⟨nd,rfl⟩⟩;refine ⟨_,rfl,?_⟩) | ((with_reducible refine a0i (f := 12) rfl ?_);refine a1i (some 28) rfl rfl Try.func12 (by kernel_rfl) rfl #[.slice A0 l0.length c0, .slice A1 l1.length c1, .int .i64 i] rfl ql_ ?_;(with_reducible refine (a1e.calls k _ _ l0 _ _ l1 i q t _ ?s1 m.out ?s3 o.out A9.out).mono ?_);(case s1 => repeat (first | exact (Kd.a1l l.out qb_) | (with_reducible refine Kd.a1b ?_ _) | (with_reducible refine Kd.a1c ?_ _) | (with_reducible refine Kd.a1k ?_)));(case s3 => repeat (first | exact (Kd.a1l n.out qb_) | (with_reducible refine Kd.a1b ?_ _) | (with_reducible refine Kd.a1c ?_ _) | (with_reducible refine Kd.a1k ?_)));rintro e aF ⟨G,rfl,b,hb⟩;refine ⟨_,rfl,?_⟩;have a := am_ (Kd.a3b b (a0r qb_));replace HB := qbs_ hb;(try clear hb);(try clear j);(try clear hk);(try clear hi);(try clear b)))
  go_ret
  exact ⟨qx_,qb_⟩
 rw [if_pos c10] at H
 have a5 : (t == 0) = true := beq_iff_eq.mpr c10
 have a6 : (t != 0) = false := bne_eq_false_iff_eq.mpr c10
 clear c10
 replace H := bm_ H
 obtain ⟨d,L,H⟩ := H
 have M := am_ L
 clear L
 replace H := bm_ H
 obtain ⟨c,O,H⟩ := H
 have P := am_ O
 clear O
 by_cases J : (wrap64 (c + 1)) = 0
 ·rw [if_pos J] at H
  exact absurd H (by simp)
 rw [if_neg J] at H
 have av : ((wrap64 (c + 1)) == 0) = false := beq_eq_false_iff_ne.mpr J
 have aw : ((wrap64 (c + 1)) != 0) = true := bne_iff_ne.mpr J
 replace H := bm_ H
 obtain ⟨⟨A,u⟩,T,H⟩ := H
 replace H : ((a1e.f k l0 l1 (wrap64 (d - (Int.tmod (wrap64 (a3)) (wrap64 (c + 1)))))).bind fun s => (if p = true then (if u = s.2 then ((a0q.f k A s.1).bind fun v => (some v)) else (some false)) else (some false))) = some r := H
 have U := am_ T
 clear T
 replace H := bm_ H
 obtain ⟨⟨B,x⟩,W,H⟩ := H
 replace H : (if p = true then (if u = x then ((a0q.f k A B).bind fun v => (some v)) else (some false)) else (some false)) = some r := H
 have X := am_ W
 clear W
 by_cases K : p = true
 rotate_left
 ·replace K := be_ K
  subst K
  replace H := qin_ H
  obtain rfl := si_ H
  go_enter Try.func7,Try.ntmps7
  go_wp2_with (first | ((with_reducible refine a0i (f := 10) rfl ?_);refine a1i (some 17) rfl rfl Try.func10 (by kernel_rfl) rfl #[] rfl ql_ ?_;(with_reducible refine (a0e.calls k  false _ A5.out).mono ?_);rintro e aG ⟨rfl,hb⟩;refine ⟨_,rfl,?_⟩;replace HB := qbs_ hb;(try clear hb);(try clear j);(try clear hk);(try clear hi)) | ((with_reducible refine a0i (f := 24) rfl ?_);refine a1i (some 20) rfl rfl Try.func24 (by kernel_rfl) rfl #[.slice A0 l0.length c0, .slice A1 l1.length c1] rfl ql_ ?_;(with_reducible refine (a0v.calls k _ _ l0 _ _ l1 true _ ?s1 m.out ?s3 o.out A6.out).mono ?_);(case s1 => exact qc_ l);(case s3 => exact qc_ n);rintro e aH ⟨rfl,hb⟩;refine ⟨_,rfl,?_⟩;replace HB := qbs_ hb;(try clear hb);(try clear j);(try clear hk);(try clear hi)) | ((with_reducible refine a0i (f := 25) rfl ?_);refine a1i (some 27) rfl rfl Try.func25 (by kernel_rfl) rfl #[.int .u16 a2] rfl ql_ ?_;(with_reducible refine (a0k.calls a2 i _ A8.out).mono ?_);rintro e w' ⟨rfl,⟨nd,rfl⟩⟩;refine ⟨_,rfl,?_⟩) | ((with_reducible refine a0i (f := 12) rfl ?_);refine a1i (some 28) rfl rfl Try.func12 (by kernel_rfl) rfl #[.slice A0 l0.length c0, .slice A1 l1.length c1, .int .i64 i] rfl ql_ ?_;(with_reducible refine (a1e.calls k _ _ l0 _ _ l1 i q t _ ?s1 m.out ?s3 o.out A9.out).mono ?_);(case s1 => repeat (first | exact (Kd.a1l l.out qb_) | (with_reducible refine Kd.a1b ?_ _) | (with_reducible refine Kd.a1c ?_ _) | (with_reducible refine Kd.a1k ?_)));(case s3 => repeat (first | exact (Kd.a1l n.out qb_) | (with_reducible refine Kd.a1b ?_ _) | (with_reducible refine Kd.a1c ?_ _) | (with_reducible refine Kd.a1k ?_)));rintro e aI ⟨G,rfl,b,hb⟩;refine ⟨_,rfl,?_⟩;have a := am_ (Kd.a3b b (a0r qb_));replace HB := qbs_ hb;(try clear hb);(try clear j);(try clear hk);(try clear hi);(try clear b)) | ((with_reducible refine a0i (f := 25) rfl ?_);refine a1i (some 35) rfl rfl Try.func25 (by kernel_rfl) rfl #[.int .u16 a2] rfl ql_ ?_;(with_reducible refine (a0k.calls a2 d _ M.out).mono ?_);rintro e w' ⟨rfl,⟨nd,rfl⟩⟩;refine ⟨_,rfl,?_⟩) | ((with_reducible refine a0i (f := 25) rfl ?_);refine a1i (some 39) rfl rfl Try.func25 (by kernel_rfl) rfl #[.int .u16 a2] rfl ql_ ?_;(with_reducible refine (a0k.calls a2 c _ P.out).mono ?_);rintro e w' ⟨rfl,⟨nd,rfl⟩⟩;refine ⟨_,rfl,?_⟩;obtain ⟨ah,ai,aj⟩ := Kd.a3c a.out;subst aj) | ((with_reducible refine a0i (f := 19) rfl ?_);refine a1i (some 48) rfl rfl Try.func19 (by kernel_rfl) rfl #[.slice A0 l0.length c0, .slice A1 l1.length c1, .slice ah q.length ai, .int .i64 (wrap64 (d - (Int.tmod (wrap64 (a3)) (wrap64 (c + 1))))), .slice none 0 0] rfl ql_ ?_;(refine (a0t.calls k _ _ l0 _ _ l1 _ _ q (wrap64 (d - (Int.tmod (wrap64 (a3)) (wrap64 (c + 1))))) _ _ ([] : List Int) A u _ ?s1 m.out ?s3 o.out ?s5 ?s6 ?s7 ?s8 U.out).mono ?_);(case s1 => repeat (first | exact (Kd.a1l l.out qb_) | (with_reducible refine Kd.a1b ?_ _) | (with_reducible refine Kd.a1c ?_ _) | (with_reducible refine Kd.a1k ?_)));(case s3 => repeat (first | exact (Kd.a1l n.out qb_) | (with_reducible refine Kd.a1b ?_ _) | (with_reducible refine Kd.a1c ?_ _) | (with_reducible refine Kd.a1k ?_)));(case s5 => exact qv_ (Kd.a1g a.out).2.2);(case s6 => exact (Kd.a1g a.out).2.1);(case s7 => exact Kd.a8g _ _);(case s8 => exact Nat.le_refl _);rintro e aJ ⟨a0,rfl,b,hb⟩;refine ⟨_,rfl,?_⟩;have g := am_ (Kd.a3b (Kd.a4a b (Kd.R_lt (qr_ a))) (a0r qb_));replace a := qel_ a b hb;replace HB := qbs_ hb;(try clear hb);(try clear j);(try clear hk);(try clear hi);(try clear b)) | ((with_reducible refine a0i (f := 12) rfl ?_);refine a1i (some 55) rfl rfl Try.func12 (by kernel_rfl) rfl #[.slice A0 l0.length c0, .slice A1 l1.length c1, .int .i64 (wrap64 (d - (Int.tmod (wrap64 (a3)) (wrap64 (c + 1)))))] rfl ql_ ?_;(with_reducible refine (a1e.calls k _ _ l0 _ _ l1 (wrap64 (d - (Int.tmod (wrap64 (a3)) (wrap64 (c + 1))))) B x _ ?s1 m.out ?s3 o.out X.out).mono ?_);(case s1 => exact qc_ l);(case s3 => exact qc_ n);rintro e aK ⟨a1,rfl,b,hb⟩;refine ⟨_,rfl,?_⟩;have z := am_ (Kd.a3b (Kd.a4a (Kd.a4a b (Kd.R_lt (qr_ a))) (Kd.R_lt (qr_ g))) (a0r qb_));replace a := qel_ a b hb;replace g := qel_ g b hb;replace HB := qbs_ hb;(try clear hb);(try clear j);(try clear hk);(try clear hi);(try clear b)))
  go_ret
  exact ⟨qx_,qb_⟩
 subst K
 replace H := qip_ H
 by_cases D : u = x
 rotate_left
 ·rw [if_neg D] at H
  have a7 : (u == x) = false := beq_eq_false_iff_ne.mpr D
  have a8 : (u != x) = true := bne_iff_ne.mpr D
  obtain rfl := si_ H
  go_enter Try.func7,Try.ntmps7
  go_wp2_with (first | ((with_reducible refine a0i (f := 10) rfl ?_);refine a1i (some 17) rfl rfl Try.func10 (by kernel_rfl) rfl #[] rfl ql_ ?_;(with_reducible refine (a0e.calls k  true _ A5.out).mono ?_);rintro e aL ⟨rfl,hb⟩;refine ⟨_,rfl,?_⟩;replace HB := qbs_ hb;(try clear hb);(try clear j);(try clear hk);(try clear hi)) | ((with_reducible refine a0i (f := 24) rfl ?_);refine a1i (some 20) rfl rfl Try.func24 (by kernel_rfl) rfl #[.slice A0 l0.length c0, .slice A1 l1.length c1] rfl ql_ ?_;(with_reducible refine (a0v.calls k _ _ l0 _ _ l1 true _ ?s1 m.out ?s3 o.out A6.out).mono ?_);(case s1 => exact qc_ l);(case s3 => exact qc_ n);rintro e aM ⟨rfl,hb⟩;refine ⟨_,rfl,?_⟩;replace HB := qbs_ hb;(try clear hb);(try clear j);(try clear hk);(try clear hi)) | ((with_reducible refine a0i (f := 25) rfl ?_);refine a1i (some 27) rfl rfl Try.func25 (by kernel_rfl) rfl #[.int .u16 a2] rfl ql_ ?_;(with_reducible refine (a0k.calls a2 i _ A8.out).mono ?_);rintro e w' ⟨rfl,⟨nd,rfl⟩⟩;refine ⟨_,rfl,?_⟩) | ((with_reducible refine a0i (f := 12) rfl ?_);refine a1i (some 28) rfl rfl Try.func12 (by kernel_rfl) rfl #[.slice A0 l0.length c0, .slice A1 l1.length c1, .int .i64 i] rfl ql_ ?_;(with_reducible refine (a1e.calls k _ _ l0 _ _ l1 i q t _ ?s1 m.out ?s3 o.out A9.out).mono ?_);(case s1 => repeat (first | exact (Kd.a1l l.out qb_) | (with_reducible refine Kd.a1b ?_ _) | (with_reducible refine Kd.a1c ?_ _) | (with_reducible refine Kd.a1k ?_)));(case s3 => repeat (first | exact (Kd.a1l n.out qb_) | (with_reducible refine Kd.a1b ?_ _) | (with_reducible refine Kd.a1c ?_ _) | (with_reducible refine Kd.a1k ?_)));rintro e aN ⟨G,rfl,b,hb⟩;refine ⟨_,rfl,?_⟩;have a := am_ (Kd.a3b b (a0r qb_));replace HB := qbs_ hb;(try clear hb);(try clear j);(try clear hk);(try clear hi);(try clear b)) | ((with_reducible refine a0i (f := 25) rfl ?_);refine a1i (some 35) rfl rfl Try.func25 (by kernel_rfl) rfl #[.int .u16 a2] rfl ql_ ?_;(with_reducible refine (a0k.calls a2 d _ M.out).mono ?_);rintro e w' ⟨rfl,⟨nd,rfl⟩⟩;refine ⟨_,rfl,?_⟩) | ((with_reducible refine a0i (f := 25) rfl ?_);refine a1i (some 39) rfl rfl Try.func25 (by kernel_rfl) rfl #[.int .u16 a2] rfl ql_ ?_;(with_reducible refine (a0k.calls a2 c _ P.out).mono ?_);rintro e w' ⟨rfl,⟨nd,rfl⟩⟩;refine ⟨_,rfl,?_⟩;obtain ⟨ak,al,am⟩ := Kd.a3c a.out;subst am) | ((with_reducible refine a0i (f := 19) rfl ?_);refine a1i (some 48) rfl rfl Try.func19 (by kernel_rfl) rfl #[.slice A0 l0.length c0, .slice A1 l1.length c1, .slice ak q.length al, .int .i64 (wrap64 (d - (Int.tmod (wrap64 (a3)) (wrap64 (c + 1))))), .slice none 0 0] rfl ql_ ?_;(refine (a0t.calls k _ _ l0 _ _ l1 _ _ q (wrap64 (d - (Int.tmod (wrap64 (a3)) (wrap64 (c + 1))))) _ _ ([] : List Int) A u _ ?s1 m.out ?s3 o.out ?s5 ?s6 ?s7 ?s8 U.out).mono ?_);(case s1 => repeat (first | exact (Kd.a1l l.out qb_) | (with_reducible refine Kd.a1b ?_ _) | (with_reducible refine Kd.a1c ?_ _) | (with_reducible refine Kd.a1k ?_)));(case s3 => repeat (first | exact (Kd.a1l n.out qb_) | (with_reducible refine Kd.a1b ?_ _) | (with_reducible refine Kd.a1c ?_ _) | (with_reducible refine Kd.a1k ?_)));(case s5 => exact qv_ (Kd.a1g a.out).2.2);(case s6 => exact (Kd.a1g a.out).2.1);(case s7 => exact Kd.a8g _ _);(case s8 => exact Nat.le_refl _);rintro e aO ⟨a0,rfl,b,hb⟩;refine ⟨_,rfl,?_⟩;have g := am_ (Kd.a3b (Kd.a4a b (Kd.R_lt (qr_ a))) (a0r qb_));replace a := qel_ a b hb;replace HB := qbs_ hb;(try clear hb);(try clear j);(try clear hk);(try clear hi);(try clear b)) | ((with_reducible refine a0i (f := 12) rfl ?_);refine a1i (some 55) rfl rfl Try.func12 (by kernel_rfl) rfl #[.slice A0 l0.length c0, .slice A1 l1.length c1, .int .i64 (wrap64 (d - (Int.tmod (wrap64 (a3)) (wrap64 (c + 1)))))] rfl ql_ ?_;(with_reducible refine (a1e.calls k _ _ l0 _ _ l1 (wrap64 (d - (Int.tmod (wrap64 (a3)) (wrap64 (c + 1))))) B x _ ?s1 m.out ?s3 o.out X.out).mono ?_);(case s1 => exact qc_ l);(case s3 => exact qc_ n);rintro e aP ⟨a1,rfl,b,hb⟩;refine ⟨_,rfl,?_⟩;have z := am_ (Kd.a3b (Kd.a4a (Kd.a4a b (Kd.R_lt (qr_ a))) (Kd.R_lt (qr_ g))) (a0r qb_));replace a := qel_ a b hb;replace g := qel_ g b hb;replace HB := qbs_ hb;(try clear hb);(try clear j);(try clear hk);(try clear hi);(try clear b)))
  go_ret
  exact ⟨qx_,qb_⟩
 rw [if_pos D] at H
 have a7 : (u == x) = true := beq_iff_eq.mpr D
 have a8 : (u != x) = false := bne_eq_false_iff_eq.mpr D
 clear D
 replace H := bm_ H
 obtain ⟨v,a4,H⟩ := H
 have au := am_ a4
 clear a4
 obtain rfl := si_ H
 go_enter Try.func7,Try.ntmps7
 go_wp2_with (first | ((with_reducible refine a0i (f := 10) rfl ?_);refine a1i (some 17) rfl rfl Try.func10 (by kernel_rfl) rfl #[] rfl ql_ ?_;(with_reducible refine (a0e.calls k  true _ A5.out).mono ?_);rintro e aQ ⟨rfl,hb⟩;refine ⟨_,rfl,?_⟩;replace HB := qbs_ hb;(try clear hb);(try clear j);(try clear hk);(try clear hi)) | ((with_reducible refine a0i (f := 24) rfl ?_);refine a1i (some 20) rfl rfl Try.func24 (by kernel_rfl) rfl #[.slice A0 l0.length c0, .slice A1 l1.length c1] rfl ql_ ?_;(with_reducible refine (a0v.calls k _ _ l0 _ _ l1 true _ ?s1 m.out ?s3 o.out A6.out).mono ?_);(case s1 => exact qc_ l);(case s3 => exact qc_ n);rintro e aR ⟨rfl,hb⟩;refine ⟨_,rfl,?_⟩;replace HB := qbs_ hb;(try clear hb);(try clear j);(try clear hk);(try clear hi)) | ((with_reducible refine a0i (f := 25) rfl ?_);refine a1i (some 27) rfl rfl Try.func25 (by kernel_rfl) rfl #[.int .u16 a2] rfl ql_ ?_;(with_reducible refine (a0k.calls a2 i _ A8.out).mono ?_);rintro e w' ⟨rfl,⟨nd,rfl⟩⟩;refine ⟨_,rfl,?_⟩) | ((with_reducible refine a0i (f := 12) rfl ?_);refine a1i (some 28) rfl rfl Try.func12 (by kernel_rfl) rfl #[.slice A0 l0.length c0, .slice A1 l1.length c1, .int .i64 i] rfl ql_ ?_;(with_reducible refine (a1e.calls k _ _ l0 _ _ l1 i q t _ ?s1 m.out ?s3 o.out A9.out).mono ?_);(case s1 => repeat (first | exact (Kd.a1l l.out qb_) | (with_reducible refine Kd.a1b ?_ _) | (with_reducible refine Kd.a1c ?_ _) | (with_reducible refine Kd.a1k ?_)));(case s3 => repeat (first | exact (Kd.a1l n.out qb_) | (with_reducible refine Kd.a1b ?_ _) | (with_reducible refine Kd.a1c ?_ _) | (with_reducible refine Kd.a1k ?_)));rintro e aS ⟨G,rfl,b,hb⟩;refine ⟨_,rfl,?_⟩;have a := am_ (Kd.a3b b (a0r qb_));replace HB := qbs_ hb;(try clear hb);(try clear j);(try clear hk);(try clear hi);(try clear b)) | ((with_reducible refine a0i (f := 25) rfl ?_);refine a1i (some 35) rfl rfl Try.func25 (by kernel_rfl) rfl #[.int .u16 a2] rfl ql_ ?_;(with_reducible refine (a0k.calls a2 d _ M.out).mono ?_);rintro e w' ⟨rfl,⟨nd,rfl⟩⟩;refine ⟨_,rfl,?_⟩) | ((with_reducible refine a0i (f := 25) rfl ?_);refine a1i (some 39) rfl rfl Try.func25 (by kernel_rfl) rfl #[.int .u16 a2] rfl ql_ ?_;(with_reducible refine (a0k.calls a2 c _ P.out).mono ?_);rintro e w' ⟨rfl,⟨nd,rfl⟩⟩;refine ⟨_,rfl,?_⟩;obtain ⟨an,ao,ap⟩ := Kd.a3c a.out;subst ap) | ((with_reducible refine a0i (f := 19) rfl ?_);refine a1i (some 48) rfl rfl Try.func19 (by kernel_rfl) rfl #[.slice A0 l0.length c0, .slice A1 l1.length c1, .slice an q.length ao, .int .i64 (wrap64 (d - (Int.tmod (wrap64 (a3)) (wrap64 (c + 1))))), .slice none 0 0] rfl ql_ ?_;(refine (a0t.calls k _ _ l0 _ _ l1 _ _ q (wrap64 (d - (Int.tmod (wrap64 (a3)) (wrap64 (c + 1))))) _ _ ([] : List Int) A u _ ?s1 m.out ?s3 o.out ?s5 ?s6 ?s7 ?s8 U.out).mono ?_);(case s1 => repeat (first | exact (Kd.a1l l.out qb_) | (with_reducible refine Kd.a1b ?_ _) | (with_reducible refine Kd.a1c ?_ _) | (with_reducible refine Kd.a1k ?_)));(case s3 => repeat (first | exact (Kd.a1l n.out qb_) | (with_reducible refine Kd.a1b ?_ _) | (with_reducible refine Kd.a1c ?_ _) | (with_reducible refine Kd.a1k ?_)));(case s5 => exact qv_ (Kd.a1g a.out).2.2);(case s6 => exact (Kd.a1g a.out).2.1);(case s7 => exact Kd.a8g _ _);(case s8 => exact Nat.le_refl _);rintro e aT ⟨a0,rfl,b,hb⟩;refine ⟨_,rfl,?_⟩;have g := am_ (Kd.a3b (Kd.a4a b (Kd.R_lt (qr_ a))) (a0r qb_));replace a := qel_ a b hb;replace HB := qbs_ hb;(try clear hb);(try clear j);(try clear hk);(try clear hi);(try clear b)) | ((with_reducible refine a0i (f := 12) rfl ?_);refine a1i (some 55) rfl rfl Try.func12 (by kernel_rfl) rfl #[.slice A0 l0.length c0, .slice A1 l1.length c1, .int .i64 (wrap64 (d - (Int.tmod (wrap64 (a3)) (wrap64 (c + 1)))))] rfl ql_ ?_;(with_reducible refine (a1e.calls k _ _ l0 _ _ l1 (wrap64 (d - (Int.tmod (wrap64 (a3)) (wrap64 (c + 1))))) B x _ ?s1 m.out ?s3 o.out X.out).mono ?_);(case s1 => exact qc_ l);(case s3 => exact qc_ n);rintro e aU ⟨a1,rfl,b,hb⟩;refine ⟨_,rfl,?_⟩;have z := am_ (Kd.a3b (Kd.a4a (Kd.a4a b (Kd.R_lt (qr_ a))) (Kd.R_lt (qr_ g))) (a0r qb_));replace a := qel_ a b hb;replace g := qel_ g b hb;replace HB := qbs_ hb;(try clear hb);(try clear j);(try clear hk);(try clear hi);(try clear b);obtain ⟨ax,ay,aq⟩ := Kd.a3c g.out;subst aq;obtain ⟨az,aA,ar⟩ := Kd.a3c z.out;subst ar) | (go_at_call 16;(with_reducible refine (a0q.calls k _ _ A _ _ B v _ ?s1 ?s2 ?s3 ?s4 au.out).mono ?_);(case s1 => exact qv_ (Kd.a1g g.out).2.2);(case s2 => exact (Kd.a1g g.out).2.1);(case s3 => exact qv_ (Kd.a1g z.out).2.2);(case s4 => exact (Kd.a1g z.out).2.1);rintro e w' ⟨rfl,⟨nd,rfl⟩⟩))
 go_ret
 exact ⟨qx_,qb_⟩
def a1z.l0 : Nat → List (S56) → Int → Int → Option (Int × Int)
 | 0,_,_,_ => none
 | k + 1,x0,x4,x5 => if x5 < (x0.length : Int) then (if 0 ≤ x5 then (a1z.l0 k x0 (wrap64 ((wrap64 (x4 + ((a0h x0 x5).f1))) - ((a0h x0 x5).f0))) (wrap64 (x5 + 1))) else (none)) else (some (x4,0))
def a1z.f (k : Nat) (l0 : List (S56)) : Option (Int × Int) := (a0y.f k l0).bind fun a => (if a = true then (a1z.l0 k l0 0 0) else (some (0,1)))
theorem a1z.a1t : ∀ k,(∀ y0 y1 y2,LeO (a1z.l0 k y0 y1 y2) (a1z.l0 (k + 1) y0 y1 y2))
 | 0 => fun _ _ _ r h => by simp [a1z.l0] at h
 | k + 1 => by
  have a := a1z.a1t k
  intro y0 y1 y2
  unfold a1z.l0
  with_reducible (repeat' first | apply a | apply a0y.mono | apply LeO.refl | apply LeO.none | apply LeO.ite | refine LeO.bind ?_ (fun _ => ?_))
theorem a1z.mono : ∀ a0 k,LeO (a1z.f k a0) (a1z.f (k + 1) a0) := by
 intro a0 k
 have a := a1z.a1t k
 unfold a1z.f
 with_reducible (repeat' first | apply a | apply a0y.mono | apply LeO.refl | apply LeO.none | apply LeO.ite | refine LeO.bind ?_ (fun _ => ?_))
set_option maxHeartbeats 8000000 in
set_option maxRecDepth 100000 in
theorem a1z.calls (k : Nat) (A0 : Option Addr) (c0 : Nat) (l0 : List (S56)) (r1 r2 : Int) (w : World) (u : Kd.C k56 w A0 l0.length l0) (v : l0.length ≤ c0) (h : a1z.f k l0 = some (r1,r2)) :
  Calls Try.prog 27 #[.slice A0 l0.length c0] w fun e w' => e = .returned (.tuple #[.int .i64 r1, .int .i64 r2]) ∧ Below w.heap.size w w' := by
 have b := am_ u
 have c := am_ v
 clear u v
 have HB := am_ (Below.refl w.heap.size w)
 have H : ((a0y.f k l0).bind fun n => (if n = true then (a1z.l0 k l0 0 0) else (some (0,1)))) = some (r1,r2) := h
 clear h
 replace H := bm_ H
 obtain ⟨n,x,H⟩ := H
 have A2 := am_ x
 clear x
 by_cases c3 : n = true
 rotate_left
 ·replace c3 := be_ c3
  subst c3
  replace H := qin_ H
  simp only [Option.some.injEq,Prod.mk.injEq] at H
  obtain ⟨rfl,rfl⟩ := H
  go_enter Try.func27,Try.ntmps27
  go_wp2_with (first | (go_at_call 33;(with_reducible refine (a0y.calls k _ _ l0 false _ ?s1 c.out A2.out).mono ?_);(case s1 => repeat (first | exact b.out | (with_reducible refine Kd.a1b ?_ _) | (with_reducible refine Kd.a1c ?_ _) | (with_reducible refine Kd.a1k ?_)));rintro e w7 ⟨rfl,hb⟩;replace HB := qbs_ hb;(try clear hb);(try clear m);(try clear hk);(try clear hi)))
  repeat (go_quiet (first | (go_at_call 33;(with_reducible refine (a0y.calls k _ _ l0 false _ ?s1 c.out A2.out).mono ?_);(case s1 => repeat (first | exact b.out | (with_reducible refine Kd.a1b ?_ _) | (with_reducible refine Kd.a1c ?_ _) | (with_reducible refine Kd.a1k ?_)));rintro e w7 ⟨rfl,hb⟩;replace HB := qbs_ hb;(try clear hb);(try clear m);(try clear hk);(try clear hi)));try go_wp2_with (first | (go_at_call 33;(with_reducible refine (a0y.calls k _ _ l0 false _ ?s1 c.out A2.out).mono ?_);(case s1 => repeat (first | exact b.out | (with_reducible refine Kd.a1b ?_ _) | (with_reducible refine Kd.a1c ?_ _) | (with_reducible refine Kd.a1k ?_)));rintro e w7 ⟨rfl,hb⟩;replace HB := qbs_ hb;(try clear hb);(try clear m);(try clear hk);(try clear hi))))
  go_ret2
  exact ⟨qx_,qb_⟩
 subst c3
 replace H := qip_ H
 have H' := am_ H
 clear H
 go_enter Try.func27,Try.ntmps27
 go_wp2_with (first | (go_at_call 33;(with_reducible refine (a0y.calls k _ _ l0 true _ ?s1 c.out A2.out).mono ?_);(case s1 => repeat (first | exact b.out | (with_reducible refine Kd.a1b ?_ _) | (with_reducible refine Kd.a1c ?_ _) | (with_reducible refine Kd.a1k ?_)));rintro e w4 ⟨rfl,hb⟩;replace HB := qbs_ hb;(try clear hb);(try clear m);(try clear hk);(try clear hi)))
 repeat (go_quiet (first | (go_at_call 33;(with_reducible refine (a0y.calls k _ _ l0 true _ ?s1 c.out A2.out).mono ?_);(case s1 => repeat (first | exact b.out | (with_reducible refine Kd.a1b ?_ _) | (with_reducible refine Kd.a1c ?_ _) | (with_reducible refine Kd.a1k ?_)));rintro e w4 ⟨rfl,hb⟩;replace HB := qbs_ hb;(try clear hb);(try clear m);(try clear hk);(try clear hi)));try go_wp2_with (first | (go_at_call 33;(with_reducible refine (a0y.calls k _ _ l0 true _ ?s1 c.out A2.out).mono ?_);(case s1 => repeat (first | exact b.out | (with_reducible refine Kd.a1b ?_ _) | (with_reducible refine Kd.a1c ?_ _) | (with_reducible refine Kd.a1k ?_)));rintro e w4 ⟨rfl,hb⟩;replace HB := qbs_ hb;(try clear hb);(try clear m);(try clear hk);(try clear hi))))
 go_loopg [4,5] k (fun kq v4 v5 w' => ∃ (l : Int) (a : Int),v4 = .int .i64 l ∧ v5 = .int .i64 a ∧ Aside0 (a1z.l0 kq l0 l a = some (r1,r2)) ∧ Aside0 (kq ≤ k) ∧ Aside0 (Below w.heap.size w w'))
 case atStart => exact ⟨(0),(0),qs_,qs_,H',⟨Nat.le_refl _⟩,⟨qb_⟩⟩
 case round =>
 clear H'
 try clear c3
 obtain ⟨l,a,rfl,rfl,HA,y,HB⟩ := hrel
 cases gk with
 | zero => exact absurd HA.out (by simp [a1z.l0])
 | succ k1 =>
 have H := HA.out
 clear HA
 simp only [a1z.l0] at H
 by_cases c5 : a < (l0.length : Int)
 rotate_left
 ·rw [if_neg c5] at H
  have z : decide (a < (l0.length : Int)) = false := decide_eq_false c5
  clear c5
  simp only [Option.some.injEq,Prod.mk.injEq] at H
  obtain ⟨rfl,rfl⟩ := H
  go_wp2
  repeat (go_quiet (fail);try go_wp2)
  go_ret2
  exact ⟨qx_,qb_⟩
 rw [if_pos c5] at H
 have z : decide (a < (l0.length : Int)) = true := decide_eq_true c5
 clear c5
 obtain ⟨D,H⟩ := qid_ H
 have H' := am_ H
 clear H
 have o : 0 ≤ (a : Int) := ot_
 have p : a < (l0.length : Int) := ot_
 obtain ⟨s,A,d,g⟩ := a5d b.out a o p
 cases A
 replace d := qh_ HB d
 replace g := qh_ HB g
 replace o := eq_true o
 replace p := eq_true p
 have q : 0 ≤ (a : Int) := ot_
 have r : a < (l0.length : Int) := ot_
 obtain ⟨t,B,i,j⟩ := a5d b.out a q r
 obtain rfl : s = t := (by injection B)
 replace i := qh_ HB i
 replace j := qh_ HB j
 replace q := eq_true q
 replace r := eq_true r
 go_wp2
 repeat (go_quiet (fail);try go_wp2)
 go_roundg k1
 case measure => have := y.out;omega
 case rel => exact ⟨(wrap64 ((wrap64 (l + ((a0h l0 a).f1))) - ((a0h l0 a).f0))),(wrap64 (a + 1)),qs_,qs_,H',⟨by have := y.out;omega⟩,⟨qb_⟩⟩
end Go.Proofs.Ytheibjkjmkanoaa.Px
