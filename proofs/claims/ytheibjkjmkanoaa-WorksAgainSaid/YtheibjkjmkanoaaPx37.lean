/- Contracts of Go functions, printed. Conditions: as each theorem states. -/
import Derived.Test.YtheibjkjmkanoaaPx0
import Derived.Test.YtheibjkjmkanoaaPx15
import Derived.Test.YtheibjkjmkanoaaPx14
import Derived.Test.YtheibjkjmkanoaaPx16
import Derived.Test.YtheibjkjmkanoaaPx20
import Derived.Test.YtheibjkjmkanoaaPx23
import Derived.Test.YtheibjkjmkanoaaPx29
import Derived.Test.YtheibjkjmkanoaaPx30
import Derived.Test.YtheibjkjmkanoaaPx34
namespace Go.Proofs.Ytheibjkjmkanoaa.Px
open Go.Proofs.Ytheibjkjmkanoaa.Given
open Go.RowKit Go.Proofs.YtheibjkjmkanoaaW.PrintWords Go.Proofs.YtheibjkjmkanoaaW.PrintLast Go.Proofs.YtheibjkjmkanoaaW.PrintMore
attribute [local go_sem] a3r a3s a4e a4f a3k a3l a3t a3u
set_option linter.unusedVariables false
set_option linter.unusedSimpArgs false
attribute [local go_sem high] c2l
mutual
def a0f.j0 : Nat → List (S51) → List (S58) → List (S42) → Int → List Int → Bool → Bool → Option (Bool)
 | 0,_,_,_,_,_,_,_ => none
 | k + 1,x0,x1,x2,x3,x4,b,e => if e = true then (some b) else ((a0k.f x3).bind fun c => ((a0t.f k x0 x1 x2 c x4).bind fun a => (if a.2 = 0 then ((a0z.f k x0 x1 a.1).bind fun d => (if d = 0 then (a0f.j1 k x0 x2 x3 x4 b a.1 ((a.1.length : Int) != (x0.length : Int))) else (a0f.j1 k x0 x2 x3 x4 b a.1 true))) else (if b = true then (some ((a.1.length : Int) == 0)) else (some false)))))
def a0f.j1 : Nat → List (S51) → List (S42) → Int → List Int → Bool → List (S42) → Bool → Option (Bool)
 | 0,_,_,_,_,_,_,_ => none
 | k + 1,x0,x2,x3,x4,c,d,e => if e = true then (some false) else ((a0k.f x3).bind fun a => ((a0u.f k x0 x2 a x4).bind fun b => (a0f.l0 k x2 x3 c d b 0)))
def a0f.l0 : Nat → List (S42) → Int → Bool → List (S42) → List (S42) → Int → Option (Bool)
 | 0,_,_,_,_,_,_ => none
 | k + 1,x2,x3,d,b,c,a => if a < (b.length : Int) then (if 0 ≤ a then (if a < (c.length : Int) then (if ((a0b c a).f2) > 0 then (if a < (x2.length : Int) then (if (!(((a0b b a).f0) == ((a0b x2 a).f0)) || (!(((a0b b a).f1) == ((a0b x2 a).f1)) || (!(((a0b b a).f2) == ((a0b x2 a).f2))))) = true then (a0f.j3 k x2 x3 d b c a true) else (if ((a0b c a).f2) = 0 then ((a0k.f x3).bind fun e => (a0f.j3 k x2 x3 d b c a (decide (((a0b b a).f1) < e)))) else (a0f.j3 k x2 x3 d b c a false))) else (none)) else (if ((a0b c a).f2) = 0 then ((a0k.f x3).bind fun g => (a0f.j3 k x2 x3 d b c a (decide (((a0b b a).f1) < g)))) else (a0f.j3 k x2 x3 d b c a false))) else (none)) else (none)) else (some d)
def a0f.j3 : Nat → List (S42) → Int → Bool → List (S42) → List (S42) → Int → Bool → Option (Bool)
 | 0,_,_,_,_,_,_,_ => none
 | k + 1,x2,x3,b,c,d,e,a => if a = true then (some false) else (a0f.l0 k x2 x3 b c d (wrap64 (e + 1)))
end
def a0f.f (k : Nat) (l0 : List (S51)) (l1 : List (S58)) (l2 : List (S42)) (a3 : Int) (l4 : List Int) : Option (Bool) := (a0e.f k).bind fun a => ((a0n.f k l0 l1).bind fun b => (if b = true then (if (l2.length : Int) > 20 then (a0f.j0 k l0 l1 l2 a3 l4 a true) else (if (l4.length : Int) > 20 then (a0f.j0 k l0 l1 l2 a3 l4 a true) else ((a0d.f k l0 l1 l2).bind fun c => (a0f.j0 k l0 l1 l2 a3 l4 a (c != 0))))) else (a0f.j0 k l0 l1 l2 a3 l4 a true)))
theorem a0f.a1t : ∀ k,(∀ y0 y1 y2 y3 y4 y5 y6,LeO (a0f.j0 k y0 y1 y2 y3 y4 y5 y6) (a0f.j0 (k + 1) y0 y1 y2 y3 y4 y5 y6)) ∧ (∀ y0 y1 y2 y3 y4 y5 y6,LeO (a0f.j1 k y0 y1 y2 y3 y4 y5 y6) (a0f.j1 (k + 1) y0 y1 y2 y3 y4 y5 y6)) ∧ (∀ y0 y1 y2 y3 y4 y5,LeO (a0f.l0 k y0 y1 y2 y3 y4 y5) (a0f.l0 (k + 1) y0 y1 y2 y3 y4 y5)) ∧ (∀ y0 y1 y2 y3 y4 y5 y6,LeO (a0f.j3 k y0 y1 y2 y3 y4 y5 y6) (a0f.j3 (k + 1) y0 y1 y2 y3 y4 y5 y6))
 | 0 => ⟨fun _ _ _ _ _ _ _ r h => by simp [a0f.j0] at h,fun _ _ _ _ _ _ _ r h => by simp [a0f.j1] at h,fun _ _ _ _ _ _ r h => by simp [a0f.l0] at h,fun _ _ _ _ _ _ _ r h => by simp [a0f.j3] at h⟩
 | k + 1 => by
  obtain ⟨a,b,c,d⟩ := a0f.a1t k
  refine ⟨?_,?_,?_,?_⟩ <;> intros <;> (first | unfold a0f.j0 | unfold a0f.j1 | unfold a0f.l0 | unfold a0f.j3) <;> with_reducible (repeat' first | apply a | apply b | apply c | apply d | apply a0e.mono | apply a0d.mono | apply a0n.mono | apply a0u.mono | apply a0t.mono | apply a0z.mono | apply LeO.refl | apply LeO.none | apply LeO.ite | refine LeO.bind ?_ (fun _ => ?_))
theorem a0f.mono : ∀ a0 a1 a2 a3 a4 k,LeO (a0f.f k a0 a1 a2 a3 a4) (a0f.f (k + 1) a0 a1 a2 a3 a4) := by
 intro a0 a1 a2 a3 a4 k
 obtain ⟨a,b,c,d⟩ := a0f.a1t k
 unfold a0f.f
 with_reducible (repeat' first | apply a | apply b | apply c | apply d | apply a0e.mono | apply a0d.mono | apply a0n.mono | apply a0u.mono | apply a0t.mono | apply a0z.mono | apply LeO.refl | apply LeO.none | apply LeO.ite | refine LeO.bind ?_ (fun _ => ?_))
def a0f.T13 : Bool × List (List Nat × List Nat) := (true,[([],[]),([],[]),([0,1],[0,1]),([2],[2]),([3],[3]),([4],[4]),([5],[5]),([6],[6]),([6],[6]),([7,8,6],[6,7,8]),([9,6],[6,9]),([6],[6]),([6],[6]),([11,12,6],[6,11,12]),([13,6],[6,13]),([10,14,6],[6,10,14]),([6,15],[6,15]),([16,6],[16]),([17],[17]),([17],[17]),([18,19,17],[17,18,19]),([20,17],[17,20]),([21,17],[17,21]),([22,17],[17,22]),([23,17,17],[17,23]),([24],[24]),([24],[24]),([25,26,24],[24,25,26]),([27,24],[24,27]),([28,24],[24,28]),([24],[24]),([30,24,24],[24,30]),([29,31,24],[24,29,31]),([24,32,17],[17,24,32]),([17,33],[17,33])])
def a0f.B13 : List Nat := [0,0,3,7,15,31,63,127,127,511,1023,127,127,6271,14463,32767,65535,131071,262143,262143,1048575,2097151,4194303,8388607,16777215,33554431,33554431,134217727,268435455,536870911,33554431,1107296255,4294967295,8589934591,17179869183]
theorem a0f.b3t : rtab .any (opsOf Try.f6 13) = a0f.T13 := by kernel_rfl
theorem a0f.b2c : a5l a0f.T13.2 a0f.B13 = true := by kernel_rfl
set_option maxHeartbeats 8000000 in
set_option maxRecDepth 100000 in
theorem a0f.calls (k : Nat) (A0 : Option Addr) (c0 : Nat) (l0 : List (S51)) (A1 : Option Addr) (c1 : Nat) (l1 : List (S58)) (A2 : Option Addr) (c2 : Nat) (l2 : List (S42)) (a3 : Int) (A4 : Option Addr) (c4 : Nat) (l4 : List Int) (r : Bool) (w : World) (bM : Kd.C k51 w A0 l0.length l0) (bN : l0.length ≤ c0) (bO : Kd.C k58 w A1 l1.length l1) (bP : l1.length ≤ c1) (bQ : Kd.C k42 w A2 l2.length l2) (bR : l2.length ≤ c2) (bS : Kd.C (Kd.int .i64) w A4 l4.length l4) (bT : l4.length ≤ c4) (h : a0f.f k l0 l1 l2 a3 l4 = some r) :
  Calls Try.prog 6 #[.slice A0 l0.length c0, .slice A1 l1.length c1, .slice A2 l2.length c2, .int .u16 a3, .slice A4 l4.length c4] w fun e w' => e = .returned (.bool r) ∧ Below w.heap.size w w' := by
 have cu := Try.underlying42
 have a9 := am_ bM
 have aa := am_ bN
 clear bM bN
 have ae := am_ bO
 have af := am_ bP
 clear bO bP
 have av := am_ bQ
 have b1 := am_ bR
 clear bQ bR
 have bc := am_ bS
 have bd := am_ bT
 clear bS bT
 have HB := am_ (Below.refl w.heap.size w)
 have H : ((a0e.f k).bind fun E => ((a0n.f k l0 l1).bind fun b3 => (if b3 = true then (if (l2.length : Int) > 20 then (a0f.j0 k l0 l1 l2 a3 l4 E true) else (if (l4.length : Int) > 20 then (a0f.j0 k l0 l1 l2 a3 l4 E true) else ((a0d.f k l0 l1 l2).bind fun aS => (a0f.j0 k l0 l1 l2 a3 l4 E (aS != 0))))) else (a0f.j0 k l0 l1 l2 a3 l4 E true)))) = some r := h
 clear h
 replace H := bm_ H
 obtain ⟨E,bU,H⟩ := H
 have A6 := am_ bU
 clear bU
 have bk := am_ H
 clear H
 go_enter Try.func6,Try.ntmps6
 go_upto_region 2 with (first | ((with_reducible refine a0i (f := 10) rfl ?_);refine a1i (some 16) rfl rfl Try.func10 (by kernel_rfl) rfl #[] rfl ql_ ?_;(with_reducible refine (a0e.calls k  E _ A6.out).mono ?_);rintro e w8 ⟨rfl,hb⟩;refine ⟨_,rfl,?_⟩;replace HB := qbs_ hb;(try clear hb);(try clear aA);(try clear hk);(try clear hi)))
 (try simp only [Act.put,List.setIfInBounds_toArray,List.set_cons_zero,List.set_cons_succ])
 go_cut [37] (fun ck wc => ∃ (kq : Nat) (aw : Bool),ck = .bool aw ∧ Aside0 (a0f.j0 kq l0 l1 l2 a3 l4 E aw = some r) ∧ Aside0 (kq ≤ k) ∧ Aside0 (Below w.heap.size w wc))
 case first =>
  have H := bk.out
  clear bk
  replace H := bm_ H
  obtain ⟨b3,bV,H⟩ := H
  have A9 := am_ bV
  clear bV
  by_cases c10 : b3 = true
  rotate_left
  ·replace c10 := be_ c10
   subst c10
   replace H := qin_ H
   have H' := am_ H
   clear H
   go_wp2_with (first | ((with_reducible refine a0i (f := 11) rfl ?_);refine a1i (some 19) rfl rfl Try.func11 (by kernel_rfl) rfl #[.slice A0 l0.length c0, .slice A1 l1.length c1] rfl ql_ ?_;(with_reducible refine (a0n.calls k _ _ l0 _ _ l1 false _ ?s1 aa.out ?s3 af.out A9.out).mono ?_);(case s1 => exact qc_ a9);(case s3 => exact qc_ ae);rintro e w' ⟨rfl,⟨nd,rfl⟩⟩;refine ⟨_,rfl,?_⟩))
   go_meet
   case rel => exact ⟨_,(true),qs_,H',⟨qo_⟩,⟨qb_⟩⟩
  subst c10
  replace H := qip_ H
  by_cases aJ : (l2.length : Int) > 20
  ·rw [if_pos aJ] at H
   have T : decide (20 < (l2.length : Int)) = true := decide_eq_true aJ
   have ax : decide (20 < l2.length) = true := decide_eq_true (by omega)
   clear aJ
   (first | rw [T] | (simp only [a4m,a4v];rw [T]) | skip)
   have H' := am_ H
   clear H
   go_wp2_with (first | ((with_reducible refine a0i (f := 11) rfl ?_);refine a1i (some 19) rfl rfl Try.func11 (by kernel_rfl) rfl #[.slice A0 l0.length c0, .slice A1 l1.length c1] rfl ql_ ?_;(with_reducible refine (a0n.calls k _ _ l0 _ _ l1 true _ ?s1 aa.out ?s3 af.out A9.out).mono ?_);(case s1 => exact qc_ a9);(case s3 => exact qc_ ae);rintro e w' ⟨rfl,⟨nd,rfl⟩⟩;refine ⟨_,rfl,?_⟩))
   go_meet
   case rel => exact ⟨_,(true),qs_,H',⟨qo_⟩,⟨qb_⟩⟩
  rw [if_neg aJ] at H
  have T : decide (20 < (l2.length : Int)) = false := decide_eq_false aJ
  have ax : decide (20 < l2.length) = false := decide_eq_false (by omega)
  clear aJ
  (first | rw [T] | (simp only [a4m,a4v];rw [T]) | skip)
  by_cases aK : (l4.length : Int) > 20
  ·rw [if_pos aK] at H
   have ay : decide (20 < (l4.length : Int)) = true := decide_eq_true aK
   have az : decide (20 < l4.length) = true := decide_eq_true (by omega)
   clear aK
   have H' := am_ H
   clear H
   go_wp2_with (first | ((with_reducible refine a0i (f := 11) rfl ?_);refine a1i (some 19) rfl rfl Try.func11 (by kernel_rfl) rfl #[.slice A0 l0.length c0, .slice A1 l1.length c1] rfl ql_ ?_;(with_reducible refine (a0n.calls k _ _ l0 _ _ l1 true _ ?s1 aa.out ?s3 af.out A9.out).mono ?_);(case s1 => exact qc_ a9);(case s3 => exact qc_ ae);rintro e w' ⟨rfl,⟨nd,rfl⟩⟩;refine ⟨_,rfl,?_⟩))
   go_meet
   case rel => exact ⟨_,(true),qs_,H',⟨qo_⟩,⟨qb_⟩⟩
  rw [if_neg aK] at H
  have ay : decide (20 < (l4.length : Int)) = false := decide_eq_false aK
  have az : decide (20 < l4.length) = false := decide_eq_false (by omega)
  clear aK
  replace H := bm_ H
  obtain ⟨aS,bl,H⟩ := H
  have cl := am_ bl
  clear bl
  have H' := am_ H
  clear H
  go_wp2_with (first | ((with_reducible refine a0i (f := 11) rfl ?_);refine a1i (some 19) rfl rfl Try.func11 (by kernel_rfl) rfl #[.slice A0 l0.length c0, .slice A1 l1.length c1] rfl ql_ ?_;(with_reducible refine (a0n.calls k _ _ l0 _ _ l1 true _ ?s1 aa.out ?s3 af.out A9.out).mono ?_);(case s1 => exact qc_ a9);(case s3 => exact qc_ ae);rintro e w' ⟨rfl,⟨nd,rfl⟩⟩;refine ⟨_,rfl,?_⟩) | (go_at_call 18;(with_reducible refine (a0d.calls k _ _ l0 _ _ l1 _ _ l2 aS _ ?s1 aa.out ?s3 af.out ?s5 b1.out cl.out).mono ?_);(case s1 => repeat (first | exact (Kd.a1l a9.out qb_) | (with_reducible refine Kd.a1b ?_ _) | (with_reducible refine Kd.a1c ?_ _) | (with_reducible refine Kd.a1k ?_)));(case s3 => repeat (first | exact (Kd.a1l ae.out qb_) | (with_reducible refine Kd.a1b ?_ _) | (with_reducible refine Kd.a1c ?_ _) | (with_reducible refine Kd.a1k ?_)));(case s5 => repeat (first | exact (Kd.a1l av.out qb_) | (with_reducible refine Kd.a1b ?_ _) | (with_reducible refine Kd.a1c ?_ _) | (with_reducible refine Kd.a1k ?_)));rintro e cJ ⟨rfl,hb⟩;replace HB := qbs_ hb;(try clear hb);(try clear aA);(try clear hk);(try clear hi)))
  go_meet
  case rel => exact ⟨_,((aS != 0)),qs_,H',⟨qo_⟩,⟨qb_⟩⟩
 case rest =>
 clear bk
 try clear c1
 try clear c2
 try clear c4
 try clear c10
 try clear T
 try clear ax
 try clear ay
 try clear az
 obtain ⟨kq,aw,rfl,HA,aj,HB⟩ := hcut
 cases kq with
 | zero => exact absurd HA.out (by simp [a0f.j0])
 | succ ak =>
 have H := HA.out
 clear HA
 simp only [a0f.j0] at H
 by_cases aL : aw = true
 ·subst aL
  replace H := qip_ H
  obtain rfl := si_ H
  go_wp2
  go_ret
  exact ⟨qx_,qb_⟩
 replace aL := be_ aL
 subst aL
 replace H := qin_ H
 replace H := bm_ H
 obtain ⟨a2,bm,H⟩ := H
 have bn := am_ bm
 clear bm
 replace H := bm_ H
 obtain ⟨⟨c,a4⟩,bo,H⟩ := H
 replace H : (if a4 = 0 then ((a0z.f ak l0 l1 c).bind fun a5 => (if a5 = 0 then (a0f.j1 ak l0 l2 a3 l4 E c ((c.length : Int) != (l0.length : Int))) else (a0f.j1 ak l0 l2 a3 l4 E c true))) else (if E = true then (some ((c.length : Int) == 0)) else (some false))) = some r := H
 have bp := am_ bo
 clear bo
 by_cases aB : a4 = 0
 rotate_left
 ·rw [if_neg aB] at H
  have aT : (a4 == 0) = false := beq_eq_false_iff_ne.mpr aB
  have aU : (a4 != 0) = true := bne_iff_ne.mpr aB
  by_cases be : E = true
  rotate_left
  ·replace be := be_ be
   subst be
   replace H := qin_ H
   obtain rfl := si_ H
   go_wp2_with (first | ((with_reducible refine a0i (f := 25) rfl ?_);refine a1i (some 44) rfl rfl Try.func25 (by kernel_rfl) rfl #[.int .u16 a3] rfl ql_ ?_;(with_reducible refine (a0k.calls a3 a2 _ bn.out).mono ?_);rintro e w' ⟨rfl,⟨nd,rfl⟩⟩;refine ⟨_,rfl,?_⟩) | ((with_reducible refine a0i (f := 19) rfl ?_);refine a1i (some 46) rfl rfl Try.func19 (by kernel_rfl) rfl #[.slice A0 l0.length c0, .slice A1 l1.length c1, .slice A2 l2.length c2, .int .i64 a2, .slice A4 l4.length c4] rfl ql_ ?_;(with_reducible refine (a0t.calls ak _ _ l0 _ _ l1 _ _ l2 a2 _ _ l4 c a4 _ ?s1 aa.out ?s3 af.out ?s5 b1.out ?s7 bd.out bp.out).mono ?_);(case s1 => repeat (first | exact (Kd.a1l a9.out qb_) | (with_reducible refine Kd.a1b ?_ _) | (with_reducible refine Kd.a1c ?_ _) | (with_reducible refine Kd.a1k ?_)));(case s3 => repeat (first | exact (Kd.a1l ae.out qb_) | (with_reducible refine Kd.a1b ?_ _) | (with_reducible refine Kd.a1c ?_ _) | (with_reducible refine Kd.a1k ?_)));(case s5 => repeat (first | exact (Kd.a1l av.out qb_) | (with_reducible refine Kd.a1b ?_ _) | (with_reducible refine Kd.a1c ?_ _) | (with_reducible refine Kd.a1k ?_)));(case s7 => repeat (first | exact (Kd.a1l bc.out qb_) | (with_reducible refine Kd.a1b ?_ _) | (with_reducible refine Kd.a1c ?_ _) | (with_reducible refine Kd.a1k ?_)));rintro e cK ⟨aC,rfl,a8,hb⟩;refine ⟨_,rfl,?_⟩;have v := am_ (Kd.a3b a8 (a0r qb_));replace HB := qbs_ hb;(try clear hb);(try clear aA);(try clear hk);(try clear hi);(try clear a8)))
   go_ret
   exact ⟨qx_,qb_⟩
  subst be
  replace H := qip_ H
  obtain rfl := si_ H
  go_wp2_with (first | ((with_reducible refine a0i (f := 25) rfl ?_);refine a1i (some 44) rfl rfl Try.func25 (by kernel_rfl) rfl #[.int .u16 a3] rfl ql_ ?_;(with_reducible refine (a0k.calls a3 a2 _ bn.out).mono ?_);rintro e w' ⟨rfl,⟨nd,rfl⟩⟩;refine ⟨_,rfl,?_⟩) | ((with_reducible refine a0i (f := 19) rfl ?_);refine a1i (some 46) rfl rfl Try.func19 (by kernel_rfl) rfl #[.slice A0 l0.length c0, .slice A1 l1.length c1, .slice A2 l2.length c2, .int .i64 a2, .slice A4 l4.length c4] rfl ql_ ?_;(with_reducible refine (a0t.calls ak _ _ l0 _ _ l1 _ _ l2 a2 _ _ l4 c a4 _ ?s1 aa.out ?s3 af.out ?s5 b1.out ?s7 bd.out bp.out).mono ?_);(case s1 => repeat (first | exact (Kd.a1l a9.out qb_) | (with_reducible refine Kd.a1b ?_ _) | (with_reducible refine Kd.a1c ?_ _) | (with_reducible refine Kd.a1k ?_)));(case s3 => repeat (first | exact (Kd.a1l ae.out qb_) | (with_reducible refine Kd.a1b ?_ _) | (with_reducible refine Kd.a1c ?_ _) | (with_reducible refine Kd.a1k ?_)));(case s5 => repeat (first | exact (Kd.a1l av.out qb_) | (with_reducible refine Kd.a1b ?_ _) | (with_reducible refine Kd.a1c ?_ _) | (with_reducible refine Kd.a1k ?_)));(case s7 => repeat (first | exact (Kd.a1l bc.out qb_) | (with_reducible refine Kd.a1b ?_ _) | (with_reducible refine Kd.a1c ?_ _) | (with_reducible refine Kd.a1k ?_)));rintro e cL ⟨aC,rfl,a8,hb⟩;refine ⟨_,rfl,?_⟩;have v := am_ (Kd.a3b a8 (a0r qb_));replace HB := qbs_ hb;(try clear hb);(try clear aA);(try clear hk);(try clear hi);(try clear a8);obtain ⟨cv,cw,bX⟩ := Kd.a3c v.out;subst bX))
  go_ret
  exact ⟨qx_,qb_⟩
 rw [if_pos aB] at H
 have aT : (a4 == 0) = true := beq_iff_eq.mpr aB
 have aU : (a4 != 0) = false := bne_eq_false_iff_eq.mpr aB
 clear aB
 have b4 := am_ H
 clear H
 go_upto_region 7 with (first | ((with_reducible refine a0i (f := 25) rfl ?_);refine a1i (some 44) rfl rfl Try.func25 (by kernel_rfl) rfl #[.int .u16 a3] rfl ql_ ?_;(with_reducible refine (a0k.calls a3 a2 _ bn.out).mono ?_);rintro e w' ⟨rfl,⟨nd,rfl⟩⟩;refine ⟨_,rfl,?_⟩) | ((with_reducible refine a0i (f := 19) rfl ?_);refine a1i (some 46) rfl rfl Try.func19 (by kernel_rfl) rfl #[.slice A0 l0.length c0, .slice A1 l1.length c1, .slice A2 l2.length c2, .int .i64 a2, .slice A4 l4.length c4] rfl ql_ ?_;(with_reducible refine (a0t.calls ak _ _ l0 _ _ l1 _ _ l2 a2 _ _ l4 c a4 _ ?s1 aa.out ?s3 af.out ?s5 b1.out ?s7 bd.out bp.out).mono ?_);(case s1 => repeat (first | exact (Kd.a1l a9.out qb_) | (with_reducible refine Kd.a1b ?_ _) | (with_reducible refine Kd.a1c ?_ _) | (with_reducible refine Kd.a1k ?_)));(case s3 => repeat (first | exact (Kd.a1l ae.out qb_) | (with_reducible refine Kd.a1b ?_ _) | (with_reducible refine Kd.a1c ?_ _) | (with_reducible refine Kd.a1k ?_)));(case s5 => repeat (first | exact (Kd.a1l av.out qb_) | (with_reducible refine Kd.a1b ?_ _) | (with_reducible refine Kd.a1c ?_ _) | (with_reducible refine Kd.a1k ?_)));(case s7 => repeat (first | exact (Kd.a1l bc.out qb_) | (with_reducible refine Kd.a1b ?_ _) | (with_reducible refine Kd.a1c ?_ _) | (with_reducible refine Kd.a1k ?_)));rintro e cM ⟨aC,rfl,a8,hb⟩;refine ⟨_,rfl,?_⟩;have v := am_ (Kd.a3b a8 (a0r qb_));replace HB := qbs_ hb;(try clear hb);(try clear aA);(try clear hk);(try clear hi);(try clear a8)))
 (try simp only [Act.put,List.setIfInBounds_toArray,List.set_cons_zero,List.set_cons_succ])
 go_cut [68] (fun cm wc => ∃ (kq : Nat) (al : Bool),cm = .bool al ∧ Aside0 (a0f.j1 kq l0 l2 a3 l4 E c al = some r) ∧ Aside0 (kq ≤ ak) ∧ Aside0 (Kd.R k42 42 wc w.heap.size (fun _ => True) aC c) ∧ Aside0 (Below w.heap.size w wc))
 case first =>
  have H := b4.out
  clear b4
  replace H := bm_ H
  obtain ⟨a5,bq,H⟩ := H
  have bW := am_ bq
  clear bq
  by_cases aD : a5 = 0
  rotate_left
  ·rw [if_neg aD] at H
   have a6 : (a5 == 0) = false := beq_eq_false_iff_ne.mpr aD
   have aV : (a5 != 0) = true := bne_iff_ne.mpr aD
   (first | rw [a6] | (simp only [a4m,a4v];rw [a6]) | skip)
   have H' := am_ H
   clear H
   obtain ⟨bY,bZ,ca⟩ := Kd.a3c v.out
   subst ca
   go_wp2_with (first | ((with_reducible refine a0i (f := 17) rfl ?_);refine a1i (some 60) rfl rfl Try.func17 (by kernel_rfl) rfl #[.slice A0 l0.length c0, .slice A1 l1.length c1, .slice bY c.length bZ] rfl ql_ ?_;(with_reducible refine (a0z.calls ak _ _ l0 _ _ l1 _ _ c a5 _ ?s1 aa.out ?s3 af.out ?s5 ?s6 bW.out).mono ?_);(case s1 => exact qc_ a9);(case s3 => exact qc_ ae);(case s5 => exact qv_ (Kd.a1g v.out).2.2);(case s6 => exact (Kd.a1g v.out).2.1);rintro e cN ⟨rfl,hb⟩;refine ⟨_,rfl,?_⟩;replace v := qrb_ v hb;replace HB := qbs_ hb;(try clear hb);(try clear aA);(try clear hk);(try clear hi)))
   go_meet
   case rel => exact ⟨_,(true),qs_,H',⟨by have := aj.out;first | omega | exact Nat.le_refl _⟩,⟨by (with_reducible repeat (first | apply Kd.a2k | apply Kd.a2l | apply Kd.a2f));exact v.out⟩,⟨qb_⟩⟩
  rw [if_pos aD] at H
  have a6 : (a5 == 0) = true := beq_iff_eq.mpr aD
  have aV : (a5 != 0) = false := bne_eq_false_iff_eq.mpr aD
  clear aD
  (first | rw [a6] | (simp only [a4m,a4v];rw [a6]) | skip)
  have H' := am_ H
  clear H
  obtain ⟨cb,cc,cd⟩ := Kd.a3c v.out
  subst cd
  go_wp2_with (first | ((with_reducible refine a0i (f := 17) rfl ?_);refine a1i (some 60) rfl rfl Try.func17 (by kernel_rfl) rfl #[.slice A0 l0.length c0, .slice A1 l1.length c1, .slice cb c.length cc] rfl ql_ ?_;(with_reducible refine (a0z.calls ak _ _ l0 _ _ l1 _ _ c a5 _ ?s1 aa.out ?s3 af.out ?s5 ?s6 bW.out).mono ?_);(case s1 => exact qc_ a9);(case s3 => exact qc_ ae);(case s5 => exact qv_ (Kd.a1g v.out).2.2);(case s6 => exact (Kd.a1g v.out).2.1);rintro e cO ⟨rfl,hb⟩;refine ⟨_,rfl,?_⟩;replace v := qrb_ v hb;replace HB := qbs_ hb;(try clear hb);(try clear aA);(try clear hk);(try clear hi)))
  go_meet
  case rel => exact ⟨_,(((c.length : Int) != (l0.length : Int))),qs_,H',⟨by have := aj.out;first | omega | exact Nat.le_refl _⟩,⟨by (with_reducible repeat (first | apply Kd.a2k | apply Kd.a2l | apply Kd.a2f));exact v.out⟩,⟨qb_⟩⟩
 case rest =>
 clear b4
 try clear c1
 try clear c2
 try clear c4
 try clear c10
 try clear T
 try clear ax
 try clear ay
 try clear az
 try clear aL
 try clear aT
 try clear aU
 try clear a6
 try clear aV
 obtain ⟨kq,al,rfl,HA,ag,HO_12,HB⟩ := hcut
 cases kq with
 | zero => exact absurd HA.out (by simp [a0f.j1])
 | succ b5 =>
 have H := HA.out
 clear HA
 simp only [a0f.j1] at H
 by_cases b2 : al = true
 ·subst b2
  replace H := qip_ H
  obtain rfl := si_ H
  go_wp2
  go_ret
  exact ⟨qx_,qb_⟩
 replace b2 := be_ b2
 subst b2
 replace H := qin_ H
 replace H := bm_ H
 obtain ⟨b6,br,H⟩ := H
 have cn := am_ br
 clear br
 replace H := bm_ H
 obtain ⟨d,bs,H⟩ := H
 have co := am_ bs
 clear bs
 have H' := am_ H
 clear H
 go_wp2_with (first | ((with_reducible refine a0i (f := 25) rfl ?_);refine a1i (some 72) rfl rfl Try.func25 (by kernel_rfl) rfl #[.int .u16 a3] rfl ql_ ?_;(with_reducible refine (a0k.calls a3 b6 _ cn.out).mono ?_);rintro e w' ⟨rfl,⟨nd,rfl⟩⟩;refine ⟨_,rfl,?_⟩) | ((with_reducible refine a0i (f := 26) rfl ?_);refine a1i (some 74) rfl rfl Try.func26 (by kernel_rfl) rfl #[.slice A0 l0.length c0, .slice A2 l2.length c2, .int .i64 b6, .slice A4 l4.length c4] rfl ql_ ?_;(with_reducible refine (a0u.calls b5 _ _ l0 _ _ l2 b6 _ _ l4 d _ ?s1 aa.out ?s3 b1.out ?s5 bd.out co.out).mono ?_);(case s1 => repeat (first | exact (Kd.a1l a9.out qb_) | (with_reducible refine Kd.a1b ?_ _) | (with_reducible refine Kd.a1c ?_ _) | (with_reducible refine Kd.a1k ?_)));(case s3 => repeat (first | exact (Kd.a1l av.out qb_) | (with_reducible refine Kd.a1b ?_ _) | (with_reducible refine Kd.a1c ?_ _) | (with_reducible refine Kd.a1k ?_)));(case s5 => repeat (first | exact (Kd.a1l bc.out qb_) | (with_reducible refine Kd.a1b ?_ _) | (with_reducible refine Kd.a1c ?_ _) | (with_reducible refine Kd.a1k ?_)));rintro e cP ⟨aW,rfl,a8,hb⟩;refine ⟨_,rfl,?_⟩;have bG := am_ (Kd.a3b (Kd.a4a a8 (Kd.R_lt (qr_ HO_12))) (a0r qb_));replace HO_12 := qel_ HO_12 a8 hb;replace HB := qbs_ hb;(try clear hb);(try clear aA);(try clear hk);(try clear hi);(try clear a8)))
 go_loopg [15] b5 (fun kq cp w' => ∃ (a : Int),cp = .int .i64 a ∧ Aside0 (a0f.l0 kq l2 a3 E c d a = some r) ∧ Aside0 (kq ≤ b5) ∧ Aside0 (Kd.R k42 42 w' w.heap.size (fun k_ => some k_ ≠ (aW : Value).ownBlock) aC c) ∧ Aside0 (Kd.R k42 42 w' w.heap.size (fun k_ => some k_ ≠ (aC : Value).ownBlock) aW d) ∧ Aside0 (Below w.heap.size w w'))
 case atStart => exact ⟨(0),qs_,H',⟨Nat.le_refl _⟩,⟨by (with_reducible repeat (first | apply Kd.a2k | apply Kd.a2l | apply Kd.a2f));exact Kd.a2x HO_12.out (fun _ hk => hk.2)⟩,⟨by (with_reducible repeat (first | apply Kd.a2k | apply Kd.a2l | apply Kd.a2f));exact Kd.a2x bG.out (fun _ hk => hk.2)⟩,⟨qb_⟩⟩
 case round =>
 clear H'
 try clear c1
 try clear c2
 try clear c4
 try clear c10
 try clear T
 try clear ax
 try clear ay
 try clear az
 try clear aL
 try clear aT
 try clear aU
 try clear a6
 try clear aV
 try clear b2
 obtain ⟨a,rfl,HA,aE,HO_12,HO_14,HB⟩ := hrel
 cases gk with
 | zero => exact absurd HA.out (by simp [a0f.l0])
 | succ k3 =>
 have H := HA.out
 clear HA
 simp only [a0f.l0] at H
 by_cases aM : a < (c.length : Int)
 rotate_left
 ·rw [if_neg aM] at H
  have bH : decide (a < (c.length : Int)) = false := decide_eq_false aM
  clear aM
  obtain rfl := si_ H
  obtain ⟨cx,cy,ce⟩ := Kd.a3c HO_12.out
  subst ce
  go_wp2
  go_ret
  exact ⟨qx_,qb_⟩
 rw [if_pos aM] at H
 have bH : decide (a < (c.length : Int)) = true := decide_eq_true aM
 clear aM
 have b7 := am_ H
 clear H
 obtain ⟨bt,bu,cf⟩ := Kd.a3c HO_12.out
 subst cf
 go_upto_region 13 with (fail)
 go_cut [115] (fun cg wc => ∃ (kq : Nat) (ad : Bool),cg = .bool ad ∧ Aside0 (a0f.j3 kq l2 a3 E c d a ad = some r) ∧ Aside0 (kq ≤ k3) ∧ Aside0 (Kd.R k42 42 wc w.heap.size (fun k_ => some k_ ≠ (aW : Value).ownBlock) (.slice bt c.length bu) c) ∧ Aside0 (Kd.R k42 42 wc w.heap.size (fun k_ => some k_ ≠ ((.slice bt c.length bu) : Value).ownBlock) aW d) ∧ Aside0 (Below w.heap.size w wc))
 case first =>
  have H := b7.out
  clear b7
  obtain ⟨bf,H⟩ := qid_ H
  (first | rw [bf] | (simp only [a4m,a4v];rw [bf]) | skip)
  obtain ⟨cs,H⟩ := qid_ H
  by_cases aN : ((a0b d a).f2) > 0
  rotate_left
  ·rw [if_neg aN] at H
   have bg : decide (0 < ((a0b d a).f2)) = false := decide_eq_false aN
   clear aN
   by_cases aF : ((a0b d a).f2) = 0
   rotate_left
   ·rw [if_neg aF] at H
    have bh : (((a0b d a).f2) == 0) = false := beq_eq_false_iff_ne.mpr aF
    have bi : (((a0b d a).f2) != 0) = true := bne_iff_ne.mpr aF
    have H' := am_ H
    clear H
    try go_wp2
    replace HO_12 := am_ (Kd.a2f HO_12.out)
    replace HO_14 := am_ (Kd.a2f HO_14.out)
    replace HB := am_ (ld_ HB.out)
    obtain ⟨cz,cA,bv⟩ := Kd.a3c HO_14.out
    (first | subst bv | (injection bv with U am W;have an := U.symm;have ao := W.symm;clear U am W;subst an;subst ao))
    have t : 0 ≤ (a : Int) := ot_
    have u : a < (d.length : Int) := ot_
    obtain ⟨b,a7,j,l,m⟩ := a3o (Kd.a1g HO_14.out).2.2 a t u
    cases a7
    replace t := eq_true t
    replace u := eq_true u
    have ab : 0 ≤ (a : Int) := ot_
    have ac : a < (d.length : Int) := ot_
    obtain ⟨aX,b8,G,I,J⟩ := a3o (Kd.a1g HO_14.out).2.2 a ab ac
    obtain rfl : b = aX := (by injection b8)
    replace ab := eq_true ab
    replace ac := eq_true ac
    refine a4r (n := 35) (S := fun w' => w'.cell? (b.add ((a).toNat * 3)) = some (.int .i64 ((a0b d a).f0)) ∧ w'.cell? ⟨(b.add ((a).toNat * 3)).block,(b.add ((a).toNat * 3)).off + 1,none⟩ = some (.int .i64 ((a0b d a).f1)) ∧ w'.cell? ⟨(b.add ((a).toNat * 3)).block,(b.add ((a).toNat * 3)).off + 2,none⟩ = some (.int .i64 ((a0b d a).f2)) ∧ w'.cell? (b.add ((a).toNat * 3)) = some (.int .i64 ((a0b d a).f0)) ∧ w'.cell? ⟨(b.add ((a).toNat * 3)).block,(b.add ((a).toNat * 3)).off + 1,none⟩ = some (.int .i64 ((a0b d a).f1)) ∧ w'.cell? ⟨(b.add ((a).toNat * 3)).block,(b.add ((a).toNat * 3)).off + 2,none⟩ = some (.int .i64 ((a0b d a).f2))) (ds := []) #[Y,Y,Y,Y,Y,Y,Y,Y,Y,Y,Y,Y,Y,Y,Y,Y,Y,Y,Y,Y,Y,Y,Y,Y,Y,Y,Y,Y,Y,Y,Y,Y,Y,Y,Y] (by kernel_rfl) rfl rfl ⟨j,l,m,G,I,J⟩ (fun hHeld => ?_);refine a3n a0f.b3t a0f.b2c (fun HT_ HW_ => ?_)
    generalize wr.drew = cQ at HO_12 HO_14 HB j l m G I J hHeld ⊢
    refine qpu_ 0 (some 81) #[Z,Y,Y,Y,Y,Y,Y,Y,Y,Y,Y,Y,Y,Y,Y,Y,Y,Y,Y,Y,Y,Y,Y,Y,Y,Y,Y,Y,Y,Y,Y,Y,Y,Y,Y] ?_
    refine qpu_ 1 (some 82) #[Z,Z,Y,Y,Y,Y,Y,Y,Y,Y,Y,Y,Y,Y,Y,Y,Y,Y,Y,Y,Y,Y,Y,Y,Y,Y,Y,Y,Y,Y,Y,Y,Y,Y,Y] ?_
    refine qpu_ 2 (some 83) #[Z,Z,Z,Y,Y,Y,Y,Y,Y,Y,Y,Y,Y,Y,Y,Y,Y,Y,Y,Y,Y,Y,Y,Y,Y,Y,Y,Y,Y,Y,Y,Y,Y,Y,Y] ?_
    refine qpu_ 3 (some 84) #[Z,Z,Z,Z,Y,Y,Y,Y,Y,Y,Y,Y,Y,Y,Y,Y,Y,Y,Y,Y,Y,Y,Y,Y,Y,Y,Y,Y,Y,Y,Y,Y,Y,Y,Y] ?_
    refine a6d 4 (some 85) #[Z,Z,Z,Z,Z,Y,Y,Y,Y,Y,Y,Y,Y,Y,Y,Y,Y,Y,Y,Y,Y,Y,Y,Y,Y,Y,Y,Y,Y,Y,Y,Y,Y,Y,Y] hHeld ?_
    refine qpu_ 5 (some 86) #[Z,Z,Z,Z,Z,Z,Y,Y,Y,Y,Y,Y,Y,Y,Y,Y,Y,Y,Y,Y,Y,Y,Y,Y,Y,Y,Y,Y,Y,Y,Y,Y,Y,Y,Y] ?_
    refine qpu_ 6 (some 87) #[Z,Z,Z,Z,Z,Z,Z,Y,Y,Y,Y,Y,Y,Y,Y,Y,Y,Y,Y,Y,Y,Y,Y,Y,Y,Y,Y,Y,Y,Y,Y,Y,Y,Y,Y] ?_
    refine qpv_ 7 (some 88) #[Z,Z,Z,Z,Z,Z,Z,Z,Y,Y,Y,Y,Y,Y,Y,Y,Y,Y,Y,Y,Y,Y,Y,Y,Y,Y,Y,Y,Y,Y,Y,Y,Y,Y,Y] ?_
    refine qpv_ 8 (some 89) #[Z,Z,Z,Z,Z,Z,Z,Z,Z,Y,Y,Y,Y,Y,Y,Y,Y,Y,Y,Y,Y,Y,Y,Y,Y,Y,Y,Y,Y,Y,Y,Y,Y,Y,Y] ?_
    refine qpv_ 9 (some 90) #[Z,Z,Z,Z,Z,Z,Z,Z,Z,Z,Y,Y,Y,Y,Y,Y,Y,Y,Y,Y,Y,Y,Y,Y,Y,Y,Y,Y,Y,Y,Y,Y,Y,Y,Y] ?_
    refine qpv_ 10 (some 91) #[Z,Z,Z,Z,Z,Z,Z,Z,Z,Z,Z,Y,Y,Y,Y,Y,Y,Y,Y,Y,Y,Y,Y,Y,Y,Y,Y,Y,Y,Y,Y,Y,Y,Y,Y] ?_
    refine qpv_ 11 (some 92) #[Z,Z,Z,Z,Z,Z,Z,Z,Z,Z,Z,Z,Y,Y,Y,Y,Y,Y,Y,Y,Y,Y,Y,Y,Y,Y,Y,Y,Y,Y,Y,Y,Y,Y,Y] ?_
    refine qpv_ 12 (some 93) #[Z,Z,Z,Z,Z,Z,Z,Z,Z,Z,Z,Z,Z,Y,Y,Y,Y,Y,Y,Y,Y,Y,Y,Y,Y,Y,Y,Y,Y,Y,Y,Y,Y,Y,Y] ?_
    refine qpv_ 13 (some 94) #[Z,Z,Z,Z,Z,Z,Z,Z,Z,Z,Z,Z,Z,Z,Y,Y,Y,Y,Y,Y,Y,Y,Y,Y,Y,Y,Y,Y,Y,Y,Y,Y,Y,Y,Y] ?_
    refine qpv_ 14 (some 95) #[Z,Z,Z,Z,Z,Z,Z,Z,Z,Z,Z,Z,Z,Z,Z,Y,Y,Y,Y,Y,Y,Y,Y,Y,Y,Y,Y,Y,Y,Y,Y,Y,Y,Y,Y] ?_
    refine qpv_ 15 (some 96) #[Z,Z,Z,Z,Z,Z,Z,Z,Z,Z,Z,Z,Z,Z,Z,Z,Y,Y,Y,Y,Y,Y,Y,Y,Y,Y,Y,Y,Y,Y,Y,Y,Y,Y,Y] ?_
    refine qpu_ 16 (some 97) #[Z,Z,Z,Z,Z,Z,Z,Z,Z,Z,Z,Z,Z,Z,Z,Z,Z,Y,Y,Y,Y,Y,Y,Y,Y,Y,Y,Y,Y,Y,Y,Y,Y,Y,Y] ?_
    refine qpu_ 17 (some 98) #[Z,Z,Z,Z,Z,Z,Z,Z,Z,Z,Z,Z,Z,Z,Z,Z,Z,Z,Y,Y,Y,Y,Y,Y,Y,Y,Y,Y,Y,Y,Y,Y,Y,Y,Y] ?_
    refine qpu_ 18 (some 99) #[Z,Z,Z,Z,Z,Z,Z,Z,Z,Z,Z,Z,Z,Z,Z,Z,Z,Z,Z,Y,Y,Y,Y,Y,Y,Y,Y,Y,Y,Y,Y,Y,Y,Y,Y] ?_
    refine qpu_ 19 (some 100) #[Z,Z,Z,Z,Z,Z,Z,Z,Z,Z,Z,Z,Z,Z,Z,Z,Z,Z,Z,Z,Y,Y,Y,Y,Y,Y,Y,Y,Y,Y,Y,Y,Y,Y,Y] ?_
    refine qpu_ 20 (some 101) #[Z,Z,Z,Z,Z,Z,Z,Z,Z,Z,Z,Z,Z,Z,Z,Z,Z,Z,Z,Z,Z,Y,Y,Y,Y,Y,Y,Y,Y,Y,Y,Y,Y,Y,Y] ?_
    refine qpu_ 21 (some 102) #[Z,Z,Z,Z,Z,Z,Z,Z,Z,Z,Z,Z,Z,Z,Z,Z,Z,Z,Z,Z,Z,Z,Y,Y,Y,Y,Y,Y,Y,Y,Y,Y,Y,Y,Y] ?_
    refine a6d 22 (some 103) #[Z,Z,Z,Z,Z,Z,Z,Z,Z,Z,Z,Z,Z,Z,Z,Z,Z,Z,Z,Z,Z,Z,Z,Y,Y,Y,Y,Y,Y,Y,Y,Y,Y,Y,Y] hHeld ?_
    refine qpu_ 23 (some 104) #[Z,Z,Z,Z,Z,Z,Z,Z,Z,Z,Z,Z,Z,Z,Z,Z,Z,Z,Z,Z,Z,Z,Z,Z,Y,Y,Y,Y,Y,Y,Y,Y,Y,Y,Y] ?_
    refine qpu_ 24 (some 105) #[Z,Z,Z,Z,Z,Z,Z,Z,Z,Z,Z,Z,Z,Z,Z,Z,Z,Z,Z,Z,Z,Z,Z,Z,Z,Y,Y,Y,Y,Y,Y,Y,Y,Y,Y] ?_
    refine qpv_ 25 (some 106) #[Z,Z,Z,Z,Z,Z,Z,Z,Z,Z,Z,Z,Z,Z,Z,Z,Z,Z,Z,Z,Z,Z,Z,Z,Z,Z,Y,Y,Y,Y,Y,Y,Y,Y,Y] ?_
    refine qpv_ 26 (some 107) #[Z,Z,Z,Z,Z,Z,Z,Z,Z,Z,Z,Z,Z,Z,Z,Z,Z,Z,Z,Z,Z,Z,Z,Z,Z,Z,Z,Y,Y,Y,Y,Y,Y,Y,Y] ?_
    refine qpv_ 27 (some 108) #[Z,Z,Z,Z,Z,Z,Z,Z,Z,Z,Z,Z,Z,Z,Z,Z,Z,Z,Z,Z,Z,Z,Z,Z,Z,Z,Z,Z,Y,Y,Y,Y,Y,Y,Y] ?_
    refine qpv_ 28 (some 109) #[Z,Z,Z,Z,Z,Z,Z,Z,Z,Z,Z,Z,Z,Z,Z,Z,Z,Z,Z,Z,Z,Z,Z,Z,Z,Z,Z,Z,Z,Y,Y,Y,Y,Y,Y] ?_
    refine qpv_ 29 (some 110) #[Z,Z,Z,Z,Z,Z,Z,Z,Z,Z,Z,Z,Z,Z,Z,Z,Z,Z,Z,Z,Z,Z,Z,Z,Z,Z,Z,Z,Z,Z,Y,Y,Y,Y,Y] ?_
    refine qpv_ 30 (some 111) #[Z,Z,Z,Z,Z,Z,Z,Z,Z,Z,Z,Z,Z,Z,Z,Z,Z,Z,Z,Z,Z,Z,Z,Z,Z,Z,Z,Z,Z,Z,Z,Y,Y,Y,Y] ?_
    refine qpv_ 31 (some 112) #[Z,Z,Z,Z,Z,Z,Z,Z,Z,Z,Z,Z,Z,Z,Z,Z,Z,Z,Z,Z,Z,Z,Z,Z,Z,Z,Z,Z,Z,Z,Z,Z,Y,Y,Y] ?_
    refine qpv_ 32 (some 113) #[Z,Z,Z,Z,Z,Z,Z,Z,Z,Z,Z,Z,Z,Z,Z,Z,Z,Z,Z,Z,Z,Z,Z,Z,Z,Z,Z,Z,Z,Z,Z,Z,Z,Y,Y] ?_
    refine qpu_ 33 (some 114) #[Z,Z,Z,Z,Z,Z,Z,Z,Z,Z,Z,Z,Z,Z,Z,Z,Z,Z,Z,Z,Z,Z,Z,Z,Z,Z,Z,Z,Z,Z,Z,Z,Z,Z,Y] ?_
    refine qpu_ 34 (some 115) #[Z,Z,Z,Z,Z,Z,Z,Z,Z,Z,Z,Z,Z,Z,Z,Z,Z,Z,Z,Z,Z,Z,Z,Z,Z,Z,Z,Z,Z,Z,Z,Z,Z,Z,Z] ?_
    refine a5a (a4h HT_.out (by kernel_rfl)) ?_
    try go_wp2
    go_meet
    case rel => exact ⟨_,(false),qs_,H',⟨by have := aj.out;have := ag.out;have := aE.out;first | omega | exact Nat.le_refl _⟩,⟨by (with_reducible repeat (first | apply Kd.a2k | apply Kd.a2l | apply Kd.a2f));exact HO_12.out⟩,⟨by (with_reducible repeat (first | apply Kd.a2k | apply Kd.a2l | apply Kd.a2f));exact HO_14.out⟩,⟨qb_⟩⟩
   rw [if_pos aF] at H
   have bh : (((a0b d a).f2) == 0) = true := beq_iff_eq.mpr aF
   have bi : (((a0b d a).f2) != 0) = false := bne_eq_false_iff_eq.mpr aF
   clear aF
   replace H := bm_ H
   obtain ⟨bw,bx,H⟩ := H
   have cq := am_ bx
   clear bx
   have H' := am_ H
   clear H
   try go_wp2
   replace HO_12 := am_ (Kd.a2f HO_12.out)
   replace HO_14 := am_ (Kd.a2f HO_14.out)
   replace HB := am_ (ld_ HB.out)
   obtain ⟨cB,cC,bz⟩ := Kd.a3c HO_14.out
   (first | subst bz | (injection bz with U am W;have an := U.symm;have ao := W.symm;clear U am W;subst an;subst ao))
   have t : 0 ≤ (a : Int) := ot_
   have u : a < (d.length : Int) := ot_
   obtain ⟨b,a7,j,l,m⟩ := a3o (Kd.a1g HO_14.out).2.2 a t u
   cases a7
   replace t := eq_true t
   replace u := eq_true u
   have ab : 0 ≤ (a : Int) := ot_
   have ac : a < (d.length : Int) := ot_
   obtain ⟨aX,b8,G,I,J⟩ := a3o (Kd.a1g HO_14.out).2.2 a ab ac
   obtain rfl : b = aX := (by injection b8)
   replace ab := eq_true ab
   replace ac := eq_true ac
   have aY : 0 ≤ (a : Int) := ot_
   have aZ : a < (c.length : Int) := ot_
   obtain ⟨ap,ch,aq,ar,au⟩ := a3o (Kd.a1g HO_12.out).2.2 a aY aZ
   cases ch
   replace aY := eq_true aY
   replace aZ := eq_true aZ
   refine a4r (n := 35) (S := fun w' => w'.cell? (b.add ((a).toNat * 3)) = some (.int .i64 ((a0b d a).f0)) ∧ w'.cell? ⟨(b.add ((a).toNat * 3)).block,(b.add ((a).toNat * 3)).off + 1,none⟩ = some (.int .i64 ((a0b d a).f1)) ∧ w'.cell? ⟨(b.add ((a).toNat * 3)).block,(b.add ((a).toNat * 3)).off + 2,none⟩ = some (.int .i64 ((a0b d a).f2)) ∧ w'.cell? (b.add ((a).toNat * 3)) = some (.int .i64 ((a0b d a).f0)) ∧ w'.cell? ⟨(b.add ((a).toNat * 3)).block,(b.add ((a).toNat * 3)).off + 1,none⟩ = some (.int .i64 ((a0b d a).f1)) ∧ w'.cell? ⟨(b.add ((a).toNat * 3)).block,(b.add ((a).toNat * 3)).off + 2,none⟩ = some (.int .i64 ((a0b d a).f2)) ∧ w'.cell? (ap.add ((a).toNat * 3)) = some (.int .i64 ((a0b c a).f0)) ∧ w'.cell? ⟨(ap.add ((a).toNat * 3)).block,(ap.add ((a).toNat * 3)).off + 1,none⟩ = some (.int .i64 ((a0b c a).f1)) ∧ w'.cell? ⟨(ap.add ((a).toNat * 3)).block,(ap.add ((a).toNat * 3)).off + 2,none⟩ = some (.int .i64 ((a0b c a).f2))) (ds := []) #[Y,Y,Y,Y,Y,Y,Y,Y,Y,Y,Y,Y,Y,Y,Y,Y,Y,Y,Y,Y,Y,Y,Y,Y,Y,Y,Y,Y,Y,Y,Y,Y,Y,Y,Y] (by kernel_rfl) rfl rfl ⟨j,l,m,G,I,J,aq,ar,au⟩ (fun hHeld => ?_);refine a3n a0f.b3t a0f.b2c (fun HT_ HW_ => ?_)
   generalize wr.drew = cR at HO_12 HO_14 HB j l m G I J aq ar au hHeld ⊢
   refine qpu_ 0 (some 81) #[Z,Y,Y,Y,Y,Y,Y,Y,Y,Y,Y,Y,Y,Y,Y,Y,Y,Y,Y,Y,Y,Y,Y,Y,Y,Y,Y,Y,Y,Y,Y,Y,Y,Y,Y] ?_
   refine qpu_ 1 (some 82) #[Z,Z,Y,Y,Y,Y,Y,Y,Y,Y,Y,Y,Y,Y,Y,Y,Y,Y,Y,Y,Y,Y,Y,Y,Y,Y,Y,Y,Y,Y,Y,Y,Y,Y,Y] ?_
   refine qpu_ 2 (some 83) #[Z,Z,Z,Y,Y,Y,Y,Y,Y,Y,Y,Y,Y,Y,Y,Y,Y,Y,Y,Y,Y,Y,Y,Y,Y,Y,Y,Y,Y,Y,Y,Y,Y,Y,Y] ?_
   refine qpu_ 3 (some 84) #[Z,Z,Z,Z,Y,Y,Y,Y,Y,Y,Y,Y,Y,Y,Y,Y,Y,Y,Y,Y,Y,Y,Y,Y,Y,Y,Y,Y,Y,Y,Y,Y,Y,Y,Y] ?_
   refine b2i 4 (some 85) #[Z,Z,Z,Z,Z,Y,Y,Y,Y,Y,Y,Y,Y,Y,Y,Y,Y,Y,Y,Y,Y,Y,Y,Y,Y,Y,Y,Y,Y,Y,Y,Y,Y,Y,Y] hHeld ?_
   refine qpu_ 5 (some 86) #[Z,Z,Z,Z,Z,Z,Y,Y,Y,Y,Y,Y,Y,Y,Y,Y,Y,Y,Y,Y,Y,Y,Y,Y,Y,Y,Y,Y,Y,Y,Y,Y,Y,Y,Y] ?_
   refine qpu_ 6 (some 87) #[Z,Z,Z,Z,Z,Z,Z,Y,Y,Y,Y,Y,Y,Y,Y,Y,Y,Y,Y,Y,Y,Y,Y,Y,Y,Y,Y,Y,Y,Y,Y,Y,Y,Y,Y] ?_
   refine qpv_ 7 (some 88) #[Z,Z,Z,Z,Z,Z,Z,Z,Y,Y,Y,Y,Y,Y,Y,Y,Y,Y,Y,Y,Y,Y,Y,Y,Y,Y,Y,Y,Y,Y,Y,Y,Y,Y,Y] ?_
   refine qpv_ 8 (some 89) #[Z,Z,Z,Z,Z,Z,Z,Z,Z,Y,Y,Y,Y,Y,Y,Y,Y,Y,Y,Y,Y,Y,Y,Y,Y,Y,Y,Y,Y,Y,Y,Y,Y,Y,Y] ?_
   refine qpv_ 9 (some 90) #[Z,Z,Z,Z,Z,Z,Z,Z,Z,Z,Y,Y,Y,Y,Y,Y,Y,Y,Y,Y,Y,Y,Y,Y,Y,Y,Y,Y,Y,Y,Y,Y,Y,Y,Y] ?_
   refine qpv_ 10 (some 91) #[Z,Z,Z,Z,Z,Z,Z,Z,Z,Z,Z,Y,Y,Y,Y,Y,Y,Y,Y,Y,Y,Y,Y,Y,Y,Y,Y,Y,Y,Y,Y,Y,Y,Y,Y] ?_
   refine qpv_ 11 (some 92) #[Z,Z,Z,Z,Z,Z,Z,Z,Z,Z,Z,Z,Y,Y,Y,Y,Y,Y,Y,Y,Y,Y,Y,Y,Y,Y,Y,Y,Y,Y,Y,Y,Y,Y,Y] ?_
   refine qpv_ 12 (some 93) #[Z,Z,Z,Z,Z,Z,Z,Z,Z,Z,Z,Z,Z,Y,Y,Y,Y,Y,Y,Y,Y,Y,Y,Y,Y,Y,Y,Y,Y,Y,Y,Y,Y,Y,Y] ?_
   refine qpv_ 13 (some 94) #[Z,Z,Z,Z,Z,Z,Z,Z,Z,Z,Z,Z,Z,Z,Y,Y,Y,Y,Y,Y,Y,Y,Y,Y,Y,Y,Y,Y,Y,Y,Y,Y,Y,Y,Y] ?_
   refine qpv_ 14 (some 95) #[Z,Z,Z,Z,Z,Z,Z,Z,Z,Z,Z,Z,Z,Z,Z,Y,Y,Y,Y,Y,Y,Y,Y,Y,Y,Y,Y,Y,Y,Y,Y,Y,Y,Y,Y] ?_
   refine qpv_ 15 (some 96) #[Z,Z,Z,Z,Z,Z,Z,Z,Z,Z,Z,Z,Z,Z,Z,Z,Y,Y,Y,Y,Y,Y,Y,Y,Y,Y,Y,Y,Y,Y,Y,Y,Y,Y,Y] ?_
   refine qpu_ 16 (some 97) #[Z,Z,Z,Z,Z,Z,Z,Z,Z,Z,Z,Z,Z,Z,Z,Z,Z,Y,Y,Y,Y,Y,Y,Y,Y,Y,Y,Y,Y,Y,Y,Y,Y,Y,Y] ?_
   refine qpu_ 17 (some 98) #[Z,Z,Z,Z,Z,Z,Z,Z,Z,Z,Z,Z,Z,Z,Z,Z,Z,Z,Y,Y,Y,Y,Y,Y,Y,Y,Y,Y,Y,Y,Y,Y,Y,Y,Y] ?_
   refine qpu_ 18 (some 99) #[Z,Z,Z,Z,Z,Z,Z,Z,Z,Z,Z,Z,Z,Z,Z,Z,Z,Z,Z,Y,Y,Y,Y,Y,Y,Y,Y,Y,Y,Y,Y,Y,Y,Y,Y] ?_
   refine qpu_ 19 (some 100) #[Z,Z,Z,Z,Z,Z,Z,Z,Z,Z,Z,Z,Z,Z,Z,Z,Z,Z,Z,Z,Y,Y,Y,Y,Y,Y,Y,Y,Y,Y,Y,Y,Y,Y,Y] ?_
   refine qpu_ 20 (some 101) #[Z,Z,Z,Z,Z,Z,Z,Z,Z,Z,Z,Z,Z,Z,Z,Z,Z,Z,Z,Z,Z,Y,Y,Y,Y,Y,Y,Y,Y,Y,Y,Y,Y,Y,Y] ?_
   refine qpu_ 21 (some 102) #[Z,Z,Z,Z,Z,Z,Z,Z,Z,Z,Z,Z,Z,Z,Z,Z,Z,Z,Z,Z,Z,Z,Y,Y,Y,Y,Y,Y,Y,Y,Y,Y,Y,Y,Y] ?_
   refine b2i 22 (some 103) #[Z,Z,Z,Z,Z,Z,Z,Z,Z,Z,Z,Z,Z,Z,Z,Z,Z,Z,Z,Z,Z,Z,Z,Y,Y,Y,Y,Y,Y,Y,Y,Y,Y,Y,Y] hHeld ?_
   refine qpu_ 23 (some 104) #[Z,Z,Z,Z,Z,Z,Z,Z,Z,Z,Z,Z,Z,Z,Z,Z,Z,Z,Z,Z,Z,Z,Z,Z,Y,Y,Y,Y,Y,Y,Y,Y,Y,Y,Y] ?_
   refine qpu_ 24 (some 105) #[Z,Z,Z,Z,Z,Z,Z,Z,Z,Z,Z,Z,Z,Z,Z,Z,Z,Z,Z,Z,Z,Z,Z,Z,Z,Y,Y,Y,Y,Y,Y,Y,Y,Y,Y] ?_
   refine qpu_ 25 (some 106) #[Z,Z,Z,Z,Z,Z,Z,Z,Z,Z,Z,Z,Z,Z,Z,Z,Z,Z,Z,Z,Z,Z,Z,Z,Z,Z,Y,Y,Y,Y,Y,Y,Y,Y,Y] ?_
   refine qpu_ 26 (some 107) #[Z,Z,Z,Z,Z,Z,Z,Z,Z,Z,Z,Z,Z,Z,Z,Z,Z,Z,Z,Z,Z,Z,Z,Z,Z,Z,Z,Y,Y,Y,Y,Y,Y,Y,Y] ?_
   refine qpu_ 27 (some 108) #[Z,Z,Z,Z,Z,Z,Z,Z,Z,Z,Z,Z,Z,Z,Z,Z,Z,Z,Z,Z,Z,Z,Z,Z,Z,Z,Z,Z,Y,Y,Y,Y,Y,Y,Y] ?_
   refine qpu_ 28 (some 109) #[Z,Z,Z,Z,Z,Z,Z,Z,Z,Z,Z,Z,Z,Z,Z,Z,Z,Z,Z,Z,Z,Z,Z,Z,Z,Z,Z,Z,Z,Y,Y,Y,Y,Y,Y] ?_
   refine qpu_ 30 (some 111) #[Z,Z,Z,Z,Z,Z,Z,Z,Z,Z,Z,Z,Z,Z,Z,Z,Z,Z,Z,Z,Z,Z,Z,Z,Z,Z,Z,Z,Z,Y,Z,Y,Y,Y,Y] ?_
   refine b2i 29 (some 110) #[Z,Z,Z,Z,Z,Z,Z,Z,Z,Z,Z,Z,Z,Z,Z,Z,Z,Z,Z,Z,Z,Z,Z,Z,Z,Z,Z,Z,Z,Z,Z,Y,Y,Y,Y] hHeld ?_
   refine one_ (i := 31) (N := some 112) #[Z,Z,Z,Z,Z,Z,Z,Z,Z,Z,Z,Z,Z,Z,Z,Z,Z,Z,Z,Z,Z,Z,Z,Z,Z,Z,Z,Z,Z,Z,Z,Z,Y,Y,Y] rfl rfl (a4n HT_.out (by kernel_rfl)) (by decide) (fun K hK => ?_)
   refine a5f Try.func25 (by kernel_rfl) rfl #[.int .u16 a3] (by rfl) rfl rfl ql_ ?_
   with_reducible refine (a0k.calls a3 bw _ cq.out).mono ?_
   rintro e w' ⟨rfl,⟨nd,rfl⟩⟩
   refine ⟨_,rfl,?_⟩
   refine hK.out _ _ ⟨hHeld.1,hHeld.2.1,hHeld.2.2.1,hHeld.2.2.2.1,hHeld.2.2.2.2.1,hHeld.2.2.2.2.2.1,hHeld.2.2.2.2.2.2.1,hHeld.2.2.2.2.2.2.2.1,hHeld.2.2.2.2.2.2.2.2⟩ (fun hHeld => ?_)
   clear hK K
   refine a4p (a' := ?_) ?_ ?_
   rotate_left
   ·show Act.put _ (some 112) _ = _
    exact qp_
   refine qpu_ 32 (some 113) #[Z,Z,Z,Z,Z,Z,Z,Z,Z,Z,Z,Z,Z,Z,Z,Z,Z,Z,Z,Z,Z,Z,Z,Z,Z,Z,Z,Z,Z,Z,Z,Z,Z,Y,Y] ?_
   refine qpu_ 33 (some 114) #[Z,Z,Z,Z,Z,Z,Z,Z,Z,Z,Z,Z,Z,Z,Z,Z,Z,Z,Z,Z,Z,Z,Z,Z,Z,Z,Z,Z,Z,Z,Z,Z,Z,Z,Y] ?_
   refine qpu_ 34 (some 115) #[Z,Z,Z,Z,Z,Z,Z,Z,Z,Z,Z,Z,Z,Z,Z,Z,Z,Z,Z,Z,Z,Z,Z,Z,Z,Z,Z,Z,Z,Z,Z,Z,Z,Z,Z] ?_
   refine a5a (a4h HT_.out (by kernel_rfl)) ?_
   try go_wp2
   go_meet
   case rel => exact ⟨_,(decide (((a0b c a).f1) < bw)),qs_,H',⟨by have := aj.out;have := ag.out;have := aE.out;first | omega | exact Nat.le_refl _⟩,⟨by (with_reducible repeat (first | apply Kd.a2k | apply Kd.a2l | apply Kd.a2f));exact HO_12.out⟩,⟨by (with_reducible repeat (first | apply Kd.a2k | apply Kd.a2l | apply Kd.a2f));exact HO_14.out⟩,⟨qb_⟩⟩
  rw [if_pos aN] at H
  have bg : decide (0 < ((a0b d a).f2)) = true := decide_eq_true aN
  clear aN
  obtain ⟨ct,H⟩ := qid_ H
  by_cases aO : (!(((a0b c a).f0) == ((a0b l2 a).f0)) || (!(((a0b c a).f1) == ((a0b l2 a).f1)) || (!(((a0b c a).f2) == ((a0b l2 a).f2))))) = true
  ·rw [if_pos aO] at H
   have bI : (!(((a0b c a).f0) == ((a0b l2 a).f0)) || (!(((a0b c a).f1) == ((a0b l2 a).f1)) || (!(((a0b c a).f2) == ((a0b l2 a).f2))))) = true := aO
   clear aO
   have H' := am_ H
   clear H
   try go_wp2
   replace HO_12 := am_ (Kd.a2f HO_12.out)
   replace HO_14 := am_ (Kd.a2f HO_14.out)
   replace HB := am_ (ld_ HB.out)
   obtain ⟨cD,cE,bA⟩ := Kd.a3c HO_14.out
   (first | subst bA | (injection bA with U am W;have an := U.symm;have ao := W.symm;clear U am W;subst an;subst ao))
   have t : 0 ≤ (a : Int) := ot_
   have u : a < (d.length : Int) := ot_
   obtain ⟨b,a7,j,l,m⟩ := a3o (Kd.a1g HO_14.out).2.2 a t u
   cases a7
   replace t := eq_true t
   replace u := eq_true u
   have L : 0 ≤ (a : Int) := ot_
   have M : a < (c.length : Int) := ot_
   obtain ⟨g,aG,A,B,D⟩ := a3o (Kd.a1g HO_12.out).2.2 a L M
   cases aG
   replace L := eq_true L
   replace M := eq_true M
   have O : 0 ≤ (a : Int) := ot_
   have P : a < (l2.length : Int) := ot_
   obtain ⟨s,aH,o,p,q⟩ := a3o av.out a O P
   have x := q
   have y := p
   have z := o
   cases aH
   replace o := qh_ HB o
   replace p := qh_ HB p
   replace q := qh_ HB q
   replace O := eq_true O
   replace P := eq_true P
   refine a4r (n := 35) (S := fun w' => w'.cell? (b.add ((a).toNat * 3)) = some (.int .i64 ((a0b d a).f0)) ∧ w'.cell? ⟨(b.add ((a).toNat * 3)).block,(b.add ((a).toNat * 3)).off + 1,none⟩ = some (.int .i64 ((a0b d a).f1)) ∧ w'.cell? ⟨(b.add ((a).toNat * 3)).block,(b.add ((a).toNat * 3)).off + 2,none⟩ = some (.int .i64 ((a0b d a).f2)) ∧ w'.cell? (g.add ((a).toNat * 3)) = some (.int .i64 ((a0b c a).f0)) ∧ w'.cell? ⟨(g.add ((a).toNat * 3)).block,(g.add ((a).toNat * 3)).off + 1,none⟩ = some (.int .i64 ((a0b c a).f1)) ∧ w'.cell? ⟨(g.add ((a).toNat * 3)).block,(g.add ((a).toNat * 3)).off + 2,none⟩ = some (.int .i64 ((a0b c a).f2)) ∧ w'.cell? (s.add ((a).toNat * 3)) = some (.int .i64 ((a0b l2 a).f0)) ∧ w'.cell? ⟨(s.add ((a).toNat * 3)).block,(s.add ((a).toNat * 3)).off + 1,none⟩ = some (.int .i64 ((a0b l2 a).f1)) ∧ w'.cell? ⟨(s.add ((a).toNat * 3)).block,(s.add ((a).toNat * 3)).off + 2,none⟩ = some (.int .i64 ((a0b l2 a).f2))) (ds := []) #[Y,Y,Y,Y,Y,Y,Y,Y,Y,Y,Y,Y,Y,Y,Y,Y,Y,Y,Y,Y,Y,Y,Y,Y,Y,Y,Y,Y,Y,Y,Y,Y,Y,Y,Y] (by kernel_rfl) rfl rfl ⟨j,l,m,A,B,D,((HB.out.cell (World.block_lt_of_cell? w _ z)).trans z),((HB.out.cell (World.block_lt_of_cell? w _ y)).trans y),((HB.out.cell (World.block_lt_of_cell? w _ x)).trans x)⟩ (fun hHeld => ?_);refine a3n a0f.b3t a0f.b2c (fun HT_ HW_ => ?_)
   generalize wr.drew = cS at HO_12 HO_14 HB j l m A B D o p q hHeld ⊢
   refine qpu_ 0 (some 81) #[Z,Y,Y,Y,Y,Y,Y,Y,Y,Y,Y,Y,Y,Y,Y,Y,Y,Y,Y,Y,Y,Y,Y,Y,Y,Y,Y,Y,Y,Y,Y,Y,Y,Y,Y] ?_
   refine qpu_ 1 (some 82) #[Z,Z,Y,Y,Y,Y,Y,Y,Y,Y,Y,Y,Y,Y,Y,Y,Y,Y,Y,Y,Y,Y,Y,Y,Y,Y,Y,Y,Y,Y,Y,Y,Y,Y,Y] ?_
   refine qpu_ 2 (some 83) #[Z,Z,Z,Y,Y,Y,Y,Y,Y,Y,Y,Y,Y,Y,Y,Y,Y,Y,Y,Y,Y,Y,Y,Y,Y,Y,Y,Y,Y,Y,Y,Y,Y,Y,Y] ?_
   refine qpu_ 3 (some 84) #[Z,Z,Z,Z,Y,Y,Y,Y,Y,Y,Y,Y,Y,Y,Y,Y,Y,Y,Y,Y,Y,Y,Y,Y,Y,Y,Y,Y,Y,Y,Y,Y,Y,Y,Y] ?_
   refine b2i 4 (some 85) #[Z,Z,Z,Z,Z,Y,Y,Y,Y,Y,Y,Y,Y,Y,Y,Y,Y,Y,Y,Y,Y,Y,Y,Y,Y,Y,Y,Y,Y,Y,Y,Y,Y,Y,Y] hHeld ?_
   refine qpu_ 5 (some 86) #[Z,Z,Z,Z,Z,Z,Y,Y,Y,Y,Y,Y,Y,Y,Y,Y,Y,Y,Y,Y,Y,Y,Y,Y,Y,Y,Y,Y,Y,Y,Y,Y,Y,Y,Y] ?_
   refine qpu_ 6 (some 87) #[Z,Z,Z,Z,Z,Z,Z,Y,Y,Y,Y,Y,Y,Y,Y,Y,Y,Y,Y,Y,Y,Y,Y,Y,Y,Y,Y,Y,Y,Y,Y,Y,Y,Y,Y] ?_
   refine qpu_ 7 (some 88) #[Z,Z,Z,Z,Z,Z,Z,Z,Y,Y,Y,Y,Y,Y,Y,Y,Y,Y,Y,Y,Y,Y,Y,Y,Y,Y,Y,Y,Y,Y,Y,Y,Y,Y,Y] ?_
   refine qpu_ 8 (some 89) #[Z,Z,Z,Z,Z,Z,Z,Z,Z,Y,Y,Y,Y,Y,Y,Y,Y,Y,Y,Y,Y,Y,Y,Y,Y,Y,Y,Y,Y,Y,Y,Y,Y,Y,Y] ?_
   refine qpu_ 9 (some 90) #[Z,Z,Z,Z,Z,Z,Z,Z,Z,Z,Y,Y,Y,Y,Y,Y,Y,Y,Y,Y,Y,Y,Y,Y,Y,Y,Y,Y,Y,Y,Y,Y,Y,Y,Y] ?_
   refine qpu_ 11 (some 92) #[Z,Z,Z,Z,Z,Z,Z,Z,Z,Z,Y,Z,Y,Y,Y,Y,Y,Y,Y,Y,Y,Y,Y,Y,Y,Y,Y,Y,Y,Y,Y,Y,Y,Y,Y] ?_
   refine qpu_ 12 (some 93) #[Z,Z,Z,Z,Z,Z,Z,Z,Z,Z,Y,Z,Z,Y,Y,Y,Y,Y,Y,Y,Y,Y,Y,Y,Y,Y,Y,Y,Y,Y,Y,Y,Y,Y,Y] ?_
   refine qpu_ 13 (some 94) #[Z,Z,Z,Z,Z,Z,Z,Z,Z,Z,Y,Z,Z,Z,Y,Y,Y,Y,Y,Y,Y,Y,Y,Y,Y,Y,Y,Y,Y,Y,Y,Y,Y,Y,Y] ?_
   refine b2i 10 (some 91) #[Z,Z,Z,Z,Z,Z,Z,Z,Z,Z,Z,Z,Z,Z,Y,Y,Y,Y,Y,Y,Y,Y,Y,Y,Y,Y,Y,Y,Y,Y,Y,Y,Y,Y,Y] hHeld ?_
   refine b2i 14 (some 95) #[Z,Z,Z,Z,Z,Z,Z,Z,Z,Z,Z,Z,Z,Z,Z,Y,Y,Y,Y,Y,Y,Y,Y,Y,Y,Y,Y,Y,Y,Y,Y,Y,Y,Y,Y] hHeld ?_
   refine qpu_ 15 (some 96) #[Z,Z,Z,Z,Z,Z,Z,Z,Z,Z,Z,Z,Z,Z,Z,Z,Y,Y,Y,Y,Y,Y,Y,Y,Y,Y,Y,Y,Y,Y,Y,Y,Y,Y,Y] ?_
   refine qpu_ 16 (some 97) #[Z,Z,Z,Z,Z,Z,Z,Z,Z,Z,Z,Z,Z,Z,Z,Z,Z,Y,Y,Y,Y,Y,Y,Y,Y,Y,Y,Y,Y,Y,Y,Y,Y,Y,Y] ?_
   refine qpu_ 17 (some 98) #[Z,Z,Z,Z,Z,Z,Z,Z,Z,Z,Z,Z,Z,Z,Z,Z,Z,Z,Y,Y,Y,Y,Y,Y,Y,Y,Y,Y,Y,Y,Y,Y,Y,Y,Y] ?_
   refine qpv_ 18 (some 99) #[Z,Z,Z,Z,Z,Z,Z,Z,Z,Z,Z,Z,Z,Z,Z,Z,Z,Z,Z,Y,Y,Y,Y,Y,Y,Y,Y,Y,Y,Y,Y,Y,Y,Y,Y] ?_
   refine qpv_ 19 (some 100) #[Z,Z,Z,Z,Z,Z,Z,Z,Z,Z,Z,Z,Z,Z,Z,Z,Z,Z,Z,Z,Y,Y,Y,Y,Y,Y,Y,Y,Y,Y,Y,Y,Y,Y,Y] ?_
   refine qpv_ 20 (some 101) #[Z,Z,Z,Z,Z,Z,Z,Z,Z,Z,Z,Z,Z,Z,Z,Z,Z,Z,Z,Z,Z,Y,Y,Y,Y,Y,Y,Y,Y,Y,Y,Y,Y,Y,Y] ?_
   refine qpv_ 21 (some 102) #[Z,Z,Z,Z,Z,Z,Z,Z,Z,Z,Z,Z,Z,Z,Z,Z,Z,Z,Z,Z,Z,Z,Y,Y,Y,Y,Y,Y,Y,Y,Y,Y,Y,Y,Y] ?_
   refine qpv_ 22 (some 103) #[Z,Z,Z,Z,Z,Z,Z,Z,Z,Z,Z,Z,Z,Z,Z,Z,Z,Z,Z,Z,Z,Z,Z,Y,Y,Y,Y,Y,Y,Y,Y,Y,Y,Y,Y] ?_
   refine qpv_ 23 (some 104) #[Z,Z,Z,Z,Z,Z,Z,Z,Z,Z,Z,Z,Z,Z,Z,Z,Z,Z,Z,Z,Z,Z,Z,Z,Y,Y,Y,Y,Y,Y,Y,Y,Y,Y,Y] ?_
   refine qpv_ 24 (some 105) #[Z,Z,Z,Z,Z,Z,Z,Z,Z,Z,Z,Z,Z,Z,Z,Z,Z,Z,Z,Z,Z,Z,Z,Z,Z,Y,Y,Y,Y,Y,Y,Y,Y,Y,Y] ?_
   refine qpv_ 25 (some 106) #[Z,Z,Z,Z,Z,Z,Z,Z,Z,Z,Z,Z,Z,Z,Z,Z,Z,Z,Z,Z,Z,Z,Z,Z,Z,Z,Y,Y,Y,Y,Y,Y,Y,Y,Y] ?_
   refine qpv_ 26 (some 107) #[Z,Z,Z,Z,Z,Z,Z,Z,Z,Z,Z,Z,Z,Z,Z,Z,Z,Z,Z,Z,Z,Z,Z,Z,Z,Z,Z,Y,Y,Y,Y,Y,Y,Y,Y] ?_
   refine qpv_ 27 (some 108) #[Z,Z,Z,Z,Z,Z,Z,Z,Z,Z,Z,Z,Z,Z,Z,Z,Z,Z,Z,Z,Z,Z,Z,Z,Z,Z,Z,Z,Y,Y,Y,Y,Y,Y,Y] ?_
   refine qpv_ 28 (some 109) #[Z,Z,Z,Z,Z,Z,Z,Z,Z,Z,Z,Z,Z,Z,Z,Z,Z,Z,Z,Z,Z,Z,Z,Z,Z,Z,Z,Z,Z,Y,Y,Y,Y,Y,Y] ?_
   refine qpv_ 29 (some 110) #[Z,Z,Z,Z,Z,Z,Z,Z,Z,Z,Z,Z,Z,Z,Z,Z,Z,Z,Z,Z,Z,Z,Z,Z,Z,Z,Z,Z,Z,Z,Y,Y,Y,Y,Y] ?_
   refine qpv_ 30 (some 111) #[Z,Z,Z,Z,Z,Z,Z,Z,Z,Z,Z,Z,Z,Z,Z,Z,Z,Z,Z,Z,Z,Z,Z,Z,Z,Z,Z,Z,Z,Z,Z,Y,Y,Y,Y] ?_
   refine qpv_ 31 (some 112) #[Z,Z,Z,Z,Z,Z,Z,Z,Z,Z,Z,Z,Z,Z,Z,Z,Z,Z,Z,Z,Z,Z,Z,Z,Z,Z,Z,Z,Z,Z,Z,Z,Y,Y,Y] ?_
   refine qpv_ 32 (some 113) #[Z,Z,Z,Z,Z,Z,Z,Z,Z,Z,Z,Z,Z,Z,Z,Z,Z,Z,Z,Z,Z,Z,Z,Z,Z,Z,Z,Z,Z,Z,Z,Z,Z,Y,Y] ?_
   refine qpv_ 33 (some 114) #[Z,Z,Z,Z,Z,Z,Z,Z,Z,Z,Z,Z,Z,Z,Z,Z,Z,Z,Z,Z,Z,Z,Z,Z,Z,Z,Z,Z,Z,Z,Z,Z,Z,Z,Y] ?_
   refine qpu_ 34 (some 115) #[Z,Z,Z,Z,Z,Z,Z,Z,Z,Z,Z,Z,Z,Z,Z,Z,Z,Z,Z,Z,Z,Z,Z,Z,Z,Z,Z,Z,Z,Z,Z,Z,Z,Z,Z] ?_
   refine a5a (a4h HT_.out (by kernel_rfl)) ?_
   try go_wp2
   go_meet
   case rel => exact ⟨_,(true),qs_,H',⟨by have := aj.out;have := ag.out;have := aE.out;first | omega | exact Nat.le_refl _⟩,⟨by (with_reducible repeat (first | apply Kd.a2k | apply Kd.a2l | apply Kd.a2f));exact HO_12.out⟩,⟨by (with_reducible repeat (first | apply Kd.a2k | apply Kd.a2l | apply Kd.a2f));exact HO_14.out⟩,⟨qb_⟩⟩
  rw [if_neg aO] at H
  have bI : (!(((a0b c a).f0) == ((a0b l2 a).f0)) || (!(((a0b c a).f1) == ((a0b l2 a).f1)) || (!(((a0b c a).f2) == ((a0b l2 a).f2))))) = false := by simpa using aO
  clear aO
  by_cases aI : ((a0b d a).f2) = 0
  rotate_left
  ·rw [if_neg aI] at H
   have bJ : (((a0b d a).f2) == 0) = false := beq_eq_false_iff_ne.mpr aI
   have bK : (((a0b d a).f2) != 0) = true := bne_iff_ne.mpr aI
   have H' := am_ H
   clear H
   try go_wp2
   replace HO_12 := am_ (Kd.a2f HO_12.out)
   replace HO_14 := am_ (Kd.a2f HO_14.out)
   replace HB := am_ (ld_ HB.out)
   obtain ⟨cF,cG,bB⟩ := Kd.a3c HO_14.out
   (first | subst bB | (injection bB with U am W;have an := U.symm;have ao := W.symm;clear U am W;subst an;subst ao))
   have t : 0 ≤ (a : Int) := ot_
   have u : a < (d.length : Int) := ot_
   obtain ⟨b,a7,j,l,m⟩ := a3o (Kd.a1g HO_14.out).2.2 a t u
   cases a7
   replace t := eq_true t
   replace u := eq_true u
   have L : 0 ≤ (a : Int) := ot_
   have M : a < (c.length : Int) := ot_
   obtain ⟨g,aG,A,B,D⟩ := a3o (Kd.a1g HO_12.out).2.2 a L M
   cases aG
   replace L := eq_true L
   replace M := eq_true M
   have O : 0 ≤ (a : Int) := ot_
   have P : a < (l2.length : Int) := ot_
   obtain ⟨s,aH,o,p,q⟩ := a3o av.out a O P
   have x := q
   have y := p
   have z := o
   cases aH
   replace o := qh_ HB o
   replace p := qh_ HB p
   replace q := qh_ HB q
   replace O := eq_true O
   replace P := eq_true P
   have ah : 0 ≤ (a : Int) := ot_
   have ai : a < (d.length : Int) := ot_
   obtain ⟨b0,b9,X,a0,a1⟩ := a3o (Kd.a1g HO_14.out).2.2 a ah ai
   obtain rfl : b = b0 := (by injection b9)
   replace ah := eq_true ah
   replace ai := eq_true ai
   refine a4r (n := 35) (S := fun w' => w'.cell? (b.add ((a).toNat * 3)) = some (.int .i64 ((a0b d a).f0)) ∧ w'.cell? ⟨(b.add ((a).toNat * 3)).block,(b.add ((a).toNat * 3)).off + 1,none⟩ = some (.int .i64 ((a0b d a).f1)) ∧ w'.cell? ⟨(b.add ((a).toNat * 3)).block,(b.add ((a).toNat * 3)).off + 2,none⟩ = some (.int .i64 ((a0b d a).f2)) ∧ w'.cell? (g.add ((a).toNat * 3)) = some (.int .i64 ((a0b c a).f0)) ∧ w'.cell? ⟨(g.add ((a).toNat * 3)).block,(g.add ((a).toNat * 3)).off + 1,none⟩ = some (.int .i64 ((a0b c a).f1)) ∧ w'.cell? ⟨(g.add ((a).toNat * 3)).block,(g.add ((a).toNat * 3)).off + 2,none⟩ = some (.int .i64 ((a0b c a).f2)) ∧ w'.cell? (s.add ((a).toNat * 3)) = some (.int .i64 ((a0b l2 a).f0)) ∧ w'.cell? ⟨(s.add ((a).toNat * 3)).block,(s.add ((a).toNat * 3)).off + 1,none⟩ = some (.int .i64 ((a0b l2 a).f1)) ∧ w'.cell? ⟨(s.add ((a).toNat * 3)).block,(s.add ((a).toNat * 3)).off + 2,none⟩ = some (.int .i64 ((a0b l2 a).f2)) ∧ w'.cell? (b.add ((a).toNat * 3)) = some (.int .i64 ((a0b d a).f0)) ∧ w'.cell? ⟨(b.add ((a).toNat * 3)).block,(b.add ((a).toNat * 3)).off + 1,none⟩ = some (.int .i64 ((a0b d a).f1)) ∧ w'.cell? ⟨(b.add ((a).toNat * 3)).block,(b.add ((a).toNat * 3)).off + 2,none⟩ = some (.int .i64 ((a0b d a).f2))) (ds := []) #[Y,Y,Y,Y,Y,Y,Y,Y,Y,Y,Y,Y,Y,Y,Y,Y,Y,Y,Y,Y,Y,Y,Y,Y,Y,Y,Y,Y,Y,Y,Y,Y,Y,Y,Y] (by kernel_rfl) rfl rfl ⟨j,l,m,A,B,D,((HB.out.cell (World.block_lt_of_cell? w _ z)).trans z),((HB.out.cell (World.block_lt_of_cell? w _ y)).trans y),((HB.out.cell (World.block_lt_of_cell? w _ x)).trans x),X,a0,a1⟩ (fun hHeld => ?_);refine a3n a0f.b3t a0f.b2c (fun HT_ HW_ => ?_)
   generalize wr.drew = cT at HO_12 HO_14 HB j l m A B D o p q X a0 a1 hHeld ⊢
   refine qpu_ 0 (some 81) #[Z,Y,Y,Y,Y,Y,Y,Y,Y,Y,Y,Y,Y,Y,Y,Y,Y,Y,Y,Y,Y,Y,Y,Y,Y,Y,Y,Y,Y,Y,Y,Y,Y,Y,Y] ?_
   refine qpu_ 1 (some 82) #[Z,Z,Y,Y,Y,Y,Y,Y,Y,Y,Y,Y,Y,Y,Y,Y,Y,Y,Y,Y,Y,Y,Y,Y,Y,Y,Y,Y,Y,Y,Y,Y,Y,Y,Y] ?_
   refine qpu_ 2 (some 83) #[Z,Z,Z,Y,Y,Y,Y,Y,Y,Y,Y,Y,Y,Y,Y,Y,Y,Y,Y,Y,Y,Y,Y,Y,Y,Y,Y,Y,Y,Y,Y,Y,Y,Y,Y] ?_
   refine qpu_ 3 (some 84) #[Z,Z,Z,Z,Y,Y,Y,Y,Y,Y,Y,Y,Y,Y,Y,Y,Y,Y,Y,Y,Y,Y,Y,Y,Y,Y,Y,Y,Y,Y,Y,Y,Y,Y,Y] ?_
   refine a7n 4 (some 85) #[Z,Z,Z,Z,Z,Y,Y,Y,Y,Y,Y,Y,Y,Y,Y,Y,Y,Y,Y,Y,Y,Y,Y,Y,Y,Y,Y,Y,Y,Y,Y,Y,Y,Y,Y] hHeld ?_
   refine qpu_ 5 (some 86) #[Z,Z,Z,Z,Z,Z,Y,Y,Y,Y,Y,Y,Y,Y,Y,Y,Y,Y,Y,Y,Y,Y,Y,Y,Y,Y,Y,Y,Y,Y,Y,Y,Y,Y,Y] ?_
   refine qpu_ 6 (some 87) #[Z,Z,Z,Z,Z,Z,Z,Y,Y,Y,Y,Y,Y,Y,Y,Y,Y,Y,Y,Y,Y,Y,Y,Y,Y,Y,Y,Y,Y,Y,Y,Y,Y,Y,Y] ?_
   refine qpu_ 7 (some 88) #[Z,Z,Z,Z,Z,Z,Z,Z,Y,Y,Y,Y,Y,Y,Y,Y,Y,Y,Y,Y,Y,Y,Y,Y,Y,Y,Y,Y,Y,Y,Y,Y,Y,Y,Y] ?_
   refine qpu_ 8 (some 89) #[Z,Z,Z,Z,Z,Z,Z,Z,Z,Y,Y,Y,Y,Y,Y,Y,Y,Y,Y,Y,Y,Y,Y,Y,Y,Y,Y,Y,Y,Y,Y,Y,Y,Y,Y] ?_
   refine qpu_ 9 (some 90) #[Z,Z,Z,Z,Z,Z,Z,Z,Z,Z,Y,Y,Y,Y,Y,Y,Y,Y,Y,Y,Y,Y,Y,Y,Y,Y,Y,Y,Y,Y,Y,Y,Y,Y,Y] ?_
   refine qpu_ 11 (some 92) #[Z,Z,Z,Z,Z,Z,Z,Z,Z,Z,Y,Z,Y,Y,Y,Y,Y,Y,Y,Y,Y,Y,Y,Y,Y,Y,Y,Y,Y,Y,Y,Y,Y,Y,Y] ?_
   refine qpu_ 12 (some 93) #[Z,Z,Z,Z,Z,Z,Z,Z,Z,Z,Y,Z,Z,Y,Y,Y,Y,Y,Y,Y,Y,Y,Y,Y,Y,Y,Y,Y,Y,Y,Y,Y,Y,Y,Y] ?_
   refine qpu_ 13 (some 94) #[Z,Z,Z,Z,Z,Z,Z,Z,Z,Z,Y,Z,Z,Z,Y,Y,Y,Y,Y,Y,Y,Y,Y,Y,Y,Y,Y,Y,Y,Y,Y,Y,Y,Y,Y] ?_
   refine a7n 10 (some 91) #[Z,Z,Z,Z,Z,Z,Z,Z,Z,Z,Z,Z,Z,Z,Y,Y,Y,Y,Y,Y,Y,Y,Y,Y,Y,Y,Y,Y,Y,Y,Y,Y,Y,Y,Y] hHeld ?_
   refine a7n 14 (some 95) #[Z,Z,Z,Z,Z,Z,Z,Z,Z,Z,Z,Z,Z,Z,Z,Y,Y,Y,Y,Y,Y,Y,Y,Y,Y,Y,Y,Y,Y,Y,Y,Y,Y,Y,Y] hHeld ?_
   refine qpu_ 15 (some 96) #[Z,Z,Z,Z,Z,Z,Z,Z,Z,Z,Z,Z,Z,Z,Z,Z,Y,Y,Y,Y,Y,Y,Y,Y,Y,Y,Y,Y,Y,Y,Y,Y,Y,Y,Y] ?_
   refine qpu_ 16 (some 97) #[Z,Z,Z,Z,Z,Z,Z,Z,Z,Z,Z,Z,Z,Z,Z,Z,Z,Y,Y,Y,Y,Y,Y,Y,Y,Y,Y,Y,Y,Y,Y,Y,Y,Y,Y] ?_
   refine qpu_ 17 (some 98) #[Z,Z,Z,Z,Z,Z,Z,Z,Z,Z,Z,Z,Z,Z,Z,Z,Z,Z,Y,Y,Y,Y,Y,Y,Y,Y,Y,Y,Y,Y,Y,Y,Y,Y,Y] ?_
   refine qpu_ 18 (some 99) #[Z,Z,Z,Z,Z,Z,Z,Z,Z,Z,Z,Z,Z,Z,Z,Z,Z,Z,Z,Y,Y,Y,Y,Y,Y,Y,Y,Y,Y,Y,Y,Y,Y,Y,Y] ?_
   refine qpu_ 19 (some 100) #[Z,Z,Z,Z,Z,Z,Z,Z,Z,Z,Z,Z,Z,Z,Z,Z,Z,Z,Z,Z,Y,Y,Y,Y,Y,Y,Y,Y,Y,Y,Y,Y,Y,Y,Y] ?_
   refine qpu_ 20 (some 101) #[Z,Z,Z,Z,Z,Z,Z,Z,Z,Z,Z,Z,Z,Z,Z,Z,Z,Z,Z,Z,Z,Y,Y,Y,Y,Y,Y,Y,Y,Y,Y,Y,Y,Y,Y] ?_
   refine qpu_ 21 (some 102) #[Z,Z,Z,Z,Z,Z,Z,Z,Z,Z,Z,Z,Z,Z,Z,Z,Z,Z,Z,Z,Z,Z,Y,Y,Y,Y,Y,Y,Y,Y,Y,Y,Y,Y,Y] ?_
   refine a7n 22 (some 103) #[Z,Z,Z,Z,Z,Z,Z,Z,Z,Z,Z,Z,Z,Z,Z,Z,Z,Z,Z,Z,Z,Z,Z,Y,Y,Y,Y,Y,Y,Y,Y,Y,Y,Y,Y] hHeld ?_
   refine qpu_ 23 (some 104) #[Z,Z,Z,Z,Z,Z,Z,Z,Z,Z,Z,Z,Z,Z,Z,Z,Z,Z,Z,Z,Z,Z,Z,Z,Y,Y,Y,Y,Y,Y,Y,Y,Y,Y,Y] ?_
   refine qpu_ 24 (some 105) #[Z,Z,Z,Z,Z,Z,Z,Z,Z,Z,Z,Z,Z,Z,Z,Z,Z,Z,Z,Z,Z,Z,Z,Z,Z,Y,Y,Y,Y,Y,Y,Y,Y,Y,Y] ?_
   refine qpv_ 25 (some 106) #[Z,Z,Z,Z,Z,Z,Z,Z,Z,Z,Z,Z,Z,Z,Z,Z,Z,Z,Z,Z,Z,Z,Z,Z,Z,Z,Y,Y,Y,Y,Y,Y,Y,Y,Y] ?_
   refine qpv_ 26 (some 107) #[Z,Z,Z,Z,Z,Z,Z,Z,Z,Z,Z,Z,Z,Z,Z,Z,Z,Z,Z,Z,Z,Z,Z,Z,Z,Z,Z,Y,Y,Y,Y,Y,Y,Y,Y] ?_
   refine qpv_ 27 (some 108) #[Z,Z,Z,Z,Z,Z,Z,Z,Z,Z,Z,Z,Z,Z,Z,Z,Z,Z,Z,Z,Z,Z,Z,Z,Z,Z,Z,Z,Y,Y,Y,Y,Y,Y,Y] ?_
   refine qpv_ 28 (some 109) #[Z,Z,Z,Z,Z,Z,Z,Z,Z,Z,Z,Z,Z,Z,Z,Z,Z,Z,Z,Z,Z,Z,Z,Z,Z,Z,Z,Z,Z,Y,Y,Y,Y,Y,Y] ?_
   refine qpv_ 29 (some 110) #[Z,Z,Z,Z,Z,Z,Z,Z,Z,Z,Z,Z,Z,Z,Z,Z,Z,Z,Z,Z,Z,Z,Z,Z,Z,Z,Z,Z,Z,Z,Y,Y,Y,Y,Y] ?_
   refine qpv_ 30 (some 111) #[Z,Z,Z,Z,Z,Z,Z,Z,Z,Z,Z,Z,Z,Z,Z,Z,Z,Z,Z,Z,Z,Z,Z,Z,Z,Z,Z,Z,Z,Z,Z,Y,Y,Y,Y] ?_
   refine qpv_ 31 (some 112) #[Z,Z,Z,Z,Z,Z,Z,Z,Z,Z,Z,Z,Z,Z,Z,Z,Z,Z,Z,Z,Z,Z,Z,Z,Z,Z,Z,Z,Z,Z,Z,Z,Y,Y,Y] ?_
   refine qpv_ 32 (some 113) #[Z,Z,Z,Z,Z,Z,Z,Z,Z,Z,Z,Z,Z,Z,Z,Z,Z,Z,Z,Z,Z,Z,Z,Z,Z,Z,Z,Z,Z,Z,Z,Z,Z,Y,Y] ?_
   refine qpu_ 33 (some 114) #[Z,Z,Z,Z,Z,Z,Z,Z,Z,Z,Z,Z,Z,Z,Z,Z,Z,Z,Z,Z,Z,Z,Z,Z,Z,Z,Z,Z,Z,Z,Z,Z,Z,Z,Y] ?_
   refine qpu_ 34 (some 115) #[Z,Z,Z,Z,Z,Z,Z,Z,Z,Z,Z,Z,Z,Z,Z,Z,Z,Z,Z,Z,Z,Z,Z,Z,Z,Z,Z,Z,Z,Z,Z,Z,Z,Z,Z] ?_
   refine a5a (a4h HT_.out (by kernel_rfl)) ?_
   try go_wp2
   go_meet
   case rel => exact ⟨_,(false),qs_,H',⟨by have := aj.out;have := ag.out;have := aE.out;first | omega | exact Nat.le_refl _⟩,⟨by (with_reducible repeat (first | apply Kd.a2k | apply Kd.a2l | apply Kd.a2f));exact HO_12.out⟩,⟨by (with_reducible repeat (first | apply Kd.a2k | apply Kd.a2l | apply Kd.a2f));exact HO_14.out⟩,⟨qb_⟩⟩
  rw [if_pos aI] at H
  have bJ : (((a0b d a).f2) == 0) = true := beq_iff_eq.mpr aI
  have bK : (((a0b d a).f2) != 0) = false := bne_eq_false_iff_eq.mpr aI
  clear aI
  replace H := bm_ H
  obtain ⟨bC,bD,H⟩ := H
  have cr := am_ bD
  clear bD
  have H' := am_ H
  clear H
  try go_wp2
  replace HO_12 := am_ (Kd.a2f HO_12.out)
  replace HO_14 := am_ (Kd.a2f HO_14.out)
  replace HB := am_ (ld_ HB.out)
  obtain ⟨cH,cI,bE⟩ := Kd.a3c HO_14.out
  (first | subst bE | (injection bE with U am W;have an := U.symm;have ao := W.symm;clear U am W;subst an;subst ao))
  have t : 0 ≤ (a : Int) := ot_
  have u : a < (d.length : Int) := ot_
  obtain ⟨b,a7,j,l,m⟩ := a3o (Kd.a1g HO_14.out).2.2 a t u
  cases a7
  replace t := eq_true t
  replace u := eq_true u
  have L : 0 ≤ (a : Int) := ot_
  have M : a < (c.length : Int) := ot_
  obtain ⟨g,aG,A,B,D⟩ := a3o (Kd.a1g HO_12.out).2.2 a L M
  cases aG
  replace L := eq_true L
  replace M := eq_true M
  have O : 0 ≤ (a : Int) := ot_
  have P : a < (l2.length : Int) := ot_
  obtain ⟨s,aH,o,p,q⟩ := a3o av.out a O P
  have x := q
  have y := p
  have z := o
  cases aH
  replace o := qh_ HB o
  replace p := qh_ HB p
  replace q := qh_ HB q
  replace O := eq_true O
  replace P := eq_true P
  have ah : 0 ≤ (a : Int) := ot_
  have ai : a < (d.length : Int) := ot_
  obtain ⟨b0,b9,X,a0,a1⟩ := a3o (Kd.a1g HO_14.out).2.2 a ah ai
  obtain rfl : b = b0 := (by injection b9)
  replace ah := eq_true ah
  replace ai := eq_true ai
  have ba : 0 ≤ (a : Int) := ot_
  have bb : a < (c.length : Int) := ot_
  obtain ⟨bL,ci,aP,aQ,aR⟩ := a3o (Kd.a1g HO_12.out).2.2 a ba bb
  obtain rfl : g = bL := (by injection ci)
  replace ba := eq_true ba
  replace bb := eq_true bb
  refine a4r (n := 35) (S := fun w' => w'.cell? (b.add ((a).toNat * 3)) = some (.int .i64 ((a0b d a).f0)) ∧ w'.cell? ⟨(b.add ((a).toNat * 3)).block,(b.add ((a).toNat * 3)).off + 1,none⟩ = some (.int .i64 ((a0b d a).f1)) ∧ w'.cell? ⟨(b.add ((a).toNat * 3)).block,(b.add ((a).toNat * 3)).off + 2,none⟩ = some (.int .i64 ((a0b d a).f2)) ∧ w'.cell? (g.add ((a).toNat * 3)) = some (.int .i64 ((a0b c a).f0)) ∧ w'.cell? ⟨(g.add ((a).toNat * 3)).block,(g.add ((a).toNat * 3)).off + 1,none⟩ = some (.int .i64 ((a0b c a).f1)) ∧ w'.cell? ⟨(g.add ((a).toNat * 3)).block,(g.add ((a).toNat * 3)).off + 2,none⟩ = some (.int .i64 ((a0b c a).f2)) ∧ w'.cell? (s.add ((a).toNat * 3)) = some (.int .i64 ((a0b l2 a).f0)) ∧ w'.cell? ⟨(s.add ((a).toNat * 3)).block,(s.add ((a).toNat * 3)).off + 1,none⟩ = some (.int .i64 ((a0b l2 a).f1)) ∧ w'.cell? ⟨(s.add ((a).toNat * 3)).block,(s.add ((a).toNat * 3)).off + 2,none⟩ = some (.int .i64 ((a0b l2 a).f2)) ∧ w'.cell? (b.add ((a).toNat * 3)) = some (.int .i64 ((a0b d a).f0)) ∧ w'.cell? ⟨(b.add ((a).toNat * 3)).block,(b.add ((a).toNat * 3)).off + 1,none⟩ = some (.int .i64 ((a0b d a).f1)) ∧ w'.cell? ⟨(b.add ((a).toNat * 3)).block,(b.add ((a).toNat * 3)).off + 2,none⟩ = some (.int .i64 ((a0b d a).f2)) ∧ w'.cell? (g.add ((a).toNat * 3)) = some (.int .i64 ((a0b c a).f0)) ∧ w'.cell? ⟨(g.add ((a).toNat * 3)).block,(g.add ((a).toNat * 3)).off + 1,none⟩ = some (.int .i64 ((a0b c a).f1)) ∧ w'.cell? ⟨(g.add ((a).toNat * 3)).block,(g.add ((a).toNat * 3)).off + 2,none⟩ = some (.int .i64 ((a0b c a).f2))) (ds := []) #[Y,Y,Y,Y,Y,Y,Y,Y,Y,Y,Y,Y,Y,Y,Y,Y,Y,Y,Y,Y,Y,Y,Y,Y,Y,Y,Y,Y,Y,Y,Y,Y,Y,Y,Y] (by kernel_rfl) rfl rfl ⟨j,l,m,A,B,D,((HB.out.cell (World.block_lt_of_cell? w _ z)).trans z),((HB.out.cell (World.block_lt_of_cell? w _ y)).trans y),((HB.out.cell (World.block_lt_of_cell? w _ x)).trans x),X,a0,a1,aP,aQ,aR⟩ (fun hHeld => ?_);refine a3n a0f.b3t a0f.b2c (fun HT_ HW_ => ?_)
  generalize wr.drew = cU at HO_12 HO_14 HB j l m A B D o p q X a0 a1 aP aQ aR hHeld ⊢
  refine qpu_ 0 (some 81) #[Z,Y,Y,Y,Y,Y,Y,Y,Y,Y,Y,Y,Y,Y,Y,Y,Y,Y,Y,Y,Y,Y,Y,Y,Y,Y,Y,Y,Y,Y,Y,Y,Y,Y,Y] ?_
  refine qpu_ 1 (some 82) #[Z,Z,Y,Y,Y,Y,Y,Y,Y,Y,Y,Y,Y,Y,Y,Y,Y,Y,Y,Y,Y,Y,Y,Y,Y,Y,Y,Y,Y,Y,Y,Y,Y,Y,Y] ?_
  refine qpu_ 2 (some 83) #[Z,Z,Z,Y,Y,Y,Y,Y,Y,Y,Y,Y,Y,Y,Y,Y,Y,Y,Y,Y,Y,Y,Y,Y,Y,Y,Y,Y,Y,Y,Y,Y,Y,Y,Y] ?_
  refine qpu_ 3 (some 84) #[Z,Z,Z,Z,Y,Y,Y,Y,Y,Y,Y,Y,Y,Y,Y,Y,Y,Y,Y,Y,Y,Y,Y,Y,Y,Y,Y,Y,Y,Y,Y,Y,Y,Y,Y] ?_
  refine b1m 4 (some 85) #[Z,Z,Z,Z,Z,Y,Y,Y,Y,Y,Y,Y,Y,Y,Y,Y,Y,Y,Y,Y,Y,Y,Y,Y,Y,Y,Y,Y,Y,Y,Y,Y,Y,Y,Y] hHeld ?_
  refine qpu_ 5 (some 86) #[Z,Z,Z,Z,Z,Z,Y,Y,Y,Y,Y,Y,Y,Y,Y,Y,Y,Y,Y,Y,Y,Y,Y,Y,Y,Y,Y,Y,Y,Y,Y,Y,Y,Y,Y] ?_
  refine qpu_ 6 (some 87) #[Z,Z,Z,Z,Z,Z,Z,Y,Y,Y,Y,Y,Y,Y,Y,Y,Y,Y,Y,Y,Y,Y,Y,Y,Y,Y,Y,Y,Y,Y,Y,Y,Y,Y,Y] ?_
  refine qpu_ 7 (some 88) #[Z,Z,Z,Z,Z,Z,Z,Z,Y,Y,Y,Y,Y,Y,Y,Y,Y,Y,Y,Y,Y,Y,Y,Y,Y,Y,Y,Y,Y,Y,Y,Y,Y,Y,Y] ?_
  refine qpu_ 8 (some 89) #[Z,Z,Z,Z,Z,Z,Z,Z,Z,Y,Y,Y,Y,Y,Y,Y,Y,Y,Y,Y,Y,Y,Y,Y,Y,Y,Y,Y,Y,Y,Y,Y,Y,Y,Y] ?_
  refine qpu_ 9 (some 90) #[Z,Z,Z,Z,Z,Z,Z,Z,Z,Z,Y,Y,Y,Y,Y,Y,Y,Y,Y,Y,Y,Y,Y,Y,Y,Y,Y,Y,Y,Y,Y,Y,Y,Y,Y] ?_
  refine qpu_ 11 (some 92) #[Z,Z,Z,Z,Z,Z,Z,Z,Z,Z,Y,Z,Y,Y,Y,Y,Y,Y,Y,Y,Y,Y,Y,Y,Y,Y,Y,Y,Y,Y,Y,Y,Y,Y,Y] ?_
  refine qpu_ 12 (some 93) #[Z,Z,Z,Z,Z,Z,Z,Z,Z,Z,Y,Z,Z,Y,Y,Y,Y,Y,Y,Y,Y,Y,Y,Y,Y,Y,Y,Y,Y,Y,Y,Y,Y,Y,Y] ?_
  refine qpu_ 13 (some 94) #[Z,Z,Z,Z,Z,Z,Z,Z,Z,Z,Y,Z,Z,Z,Y,Y,Y,Y,Y,Y,Y,Y,Y,Y,Y,Y,Y,Y,Y,Y,Y,Y,Y,Y,Y] ?_
  refine b1m 10 (some 91) #[Z,Z,Z,Z,Z,Z,Z,Z,Z,Z,Z,Z,Z,Z,Y,Y,Y,Y,Y,Y,Y,Y,Y,Y,Y,Y,Y,Y,Y,Y,Y,Y,Y,Y,Y] hHeld ?_
  refine b1m 14 (some 95) #[Z,Z,Z,Z,Z,Z,Z,Z,Z,Z,Z,Z,Z,Z,Z,Y,Y,Y,Y,Y,Y,Y,Y,Y,Y,Y,Y,Y,Y,Y,Y,Y,Y,Y,Y] hHeld ?_
  refine qpu_ 15 (some 96) #[Z,Z,Z,Z,Z,Z,Z,Z,Z,Z,Z,Z,Z,Z,Z,Z,Y,Y,Y,Y,Y,Y,Y,Y,Y,Y,Y,Y,Y,Y,Y,Y,Y,Y,Y] ?_
  refine qpu_ 16 (some 97) #[Z,Z,Z,Z,Z,Z,Z,Z,Z,Z,Z,Z,Z,Z,Z,Z,Z,Y,Y,Y,Y,Y,Y,Y,Y,Y,Y,Y,Y,Y,Y,Y,Y,Y,Y] ?_
  refine qpu_ 17 (some 98) #[Z,Z,Z,Z,Z,Z,Z,Z,Z,Z,Z,Z,Z,Z,Z,Z,Z,Z,Y,Y,Y,Y,Y,Y,Y,Y,Y,Y,Y,Y,Y,Y,Y,Y,Y] ?_
  refine qpu_ 18 (some 99) #[Z,Z,Z,Z,Z,Z,Z,Z,Z,Z,Z,Z,Z,Z,Z,Z,Z,Z,Z,Y,Y,Y,Y,Y,Y,Y,Y,Y,Y,Y,Y,Y,Y,Y,Y] ?_
  refine qpu_ 19 (some 100) #[Z,Z,Z,Z,Z,Z,Z,Z,Z,Z,Z,Z,Z,Z,Z,Z,Z,Z,Z,Z,Y,Y,Y,Y,Y,Y,Y,Y,Y,Y,Y,Y,Y,Y,Y] ?_
  refine qpu_ 20 (some 101) #[Z,Z,Z,Z,Z,Z,Z,Z,Z,Z,Z,Z,Z,Z,Z,Z,Z,Z,Z,Z,Z,Y,Y,Y,Y,Y,Y,Y,Y,Y,Y,Y,Y,Y,Y] ?_
  refine qpu_ 21 (some 102) #[Z,Z,Z,Z,Z,Z,Z,Z,Z,Z,Z,Z,Z,Z,Z,Z,Z,Z,Z,Z,Z,Z,Y,Y,Y,Y,Y,Y,Y,Y,Y,Y,Y,Y,Y] ?_
  refine b1m 22 (some 103) #[Z,Z,Z,Z,Z,Z,Z,Z,Z,Z,Z,Z,Z,Z,Z,Z,Z,Z,Z,Z,Z,Z,Z,Y,Y,Y,Y,Y,Y,Y,Y,Y,Y,Y,Y] hHeld ?_
  refine qpu_ 23 (some 104) #[Z,Z,Z,Z,Z,Z,Z,Z,Z,Z,Z,Z,Z,Z,Z,Z,Z,Z,Z,Z,Z,Z,Z,Z,Y,Y,Y,Y,Y,Y,Y,Y,Y,Y,Y] ?_
  refine qpu_ 24 (some 105) #[Z,Z,Z,Z,Z,Z,Z,Z,Z,Z,Z,Z,Z,Z,Z,Z,Z,Z,Z,Z,Z,Z,Z,Z,Z,Y,Y,Y,Y,Y,Y,Y,Y,Y,Y] ?_
  refine qpu_ 25 (some 106) #[Z,Z,Z,Z,Z,Z,Z,Z,Z,Z,Z,Z,Z,Z,Z,Z,Z,Z,Z,Z,Z,Z,Z,Z,Z,Z,Y,Y,Y,Y,Y,Y,Y,Y,Y] ?_
  refine qpu_ 26 (some 107) #[Z,Z,Z,Z,Z,Z,Z,Z,Z,Z,Z,Z,Z,Z,Z,Z,Z,Z,Z,Z,Z,Z,Z,Z,Z,Z,Z,Y,Y,Y,Y,Y,Y,Y,Y] ?_
  refine qpu_ 27 (some 108) #[Z,Z,Z,Z,Z,Z,Z,Z,Z,Z,Z,Z,Z,Z,Z,Z,Z,Z,Z,Z,Z,Z,Z,Z,Z,Z,Z,Z,Y,Y,Y,Y,Y,Y,Y] ?_
  refine qpu_ 28 (some 109) #[Z,Z,Z,Z,Z,Z,Z,Z,Z,Z,Z,Z,Z,Z,Z,Z,Z,Z,Z,Z,Z,Z,Z,Z,Z,Z,Z,Z,Z,Y,Y,Y,Y,Y,Y] ?_
  refine qpu_ 30 (some 111) #[Z,Z,Z,Z,Z,Z,Z,Z,Z,Z,Z,Z,Z,Z,Z,Z,Z,Z,Z,Z,Z,Z,Z,Z,Z,Z,Z,Z,Z,Y,Z,Y,Y,Y,Y] ?_
  refine b1m 29 (some 110) #[Z,Z,Z,Z,Z,Z,Z,Z,Z,Z,Z,Z,Z,Z,Z,Z,Z,Z,Z,Z,Z,Z,Z,Z,Z,Z,Z,Z,Z,Z,Z,Y,Y,Y,Y] hHeld ?_
  refine one_ (i := 31) (N := some 112) #[Z,Z,Z,Z,Z,Z,Z,Z,Z,Z,Z,Z,Z,Z,Z,Z,Z,Z,Z,Z,Z,Z,Z,Z,Z,Z,Z,Z,Z,Z,Z,Z,Y,Y,Y] rfl rfl (a4n HT_.out (by kernel_rfl)) (by decide) (fun K hK => ?_)
  refine a5f Try.func25 (by kernel_rfl) rfl #[.int .u16 a3] (by rfl) rfl rfl ql_ ?_
  with_reducible refine (a0k.calls a3 bC _ cr.out).mono ?_
  rintro e w' ⟨rfl,⟨nd,rfl⟩⟩
  refine ⟨_,rfl,?_⟩
  refine hK.out _ _ ⟨hHeld.1,hHeld.2.1,hHeld.2.2.1,hHeld.2.2.2.1,hHeld.2.2.2.2.1,hHeld.2.2.2.2.2.1,((HB.out.cell (World.block_lt_of_cell? w _ z)).trans z),((HB.out.cell (World.block_lt_of_cell? w _ y)).trans y),((HB.out.cell (World.block_lt_of_cell? w _ x)).trans x),hHeld.2.2.2.2.2.2.2.2.2.1,hHeld.2.2.2.2.2.2.2.2.2.2.1,hHeld.2.2.2.2.2.2.2.2.2.2.2.1,hHeld.2.2.2.2.2.2.2.2.2.2.2.2.1,hHeld.2.2.2.2.2.2.2.2.2.2.2.2.2.1,hHeld.2.2.2.2.2.2.2.2.2.2.2.2.2.2⟩ (fun hHeld => ?_)
  clear hK K
  refine a4p (a' := ?_) ?_ ?_
  rotate_left
  ·show Act.put _ (some 112) _ = _
   exact qp_
  refine qpu_ 32 (some 113) #[Z,Z,Z,Z,Z,Z,Z,Z,Z,Z,Z,Z,Z,Z,Z,Z,Z,Z,Z,Z,Z,Z,Z,Z,Z,Z,Z,Z,Z,Z,Z,Z,Z,Y,Y] ?_
  refine qpu_ 33 (some 114) #[Z,Z,Z,Z,Z,Z,Z,Z,Z,Z,Z,Z,Z,Z,Z,Z,Z,Z,Z,Z,Z,Z,Z,Z,Z,Z,Z,Z,Z,Z,Z,Z,Z,Z,Y] ?_
  refine qpu_ 34 (some 115) #[Z,Z,Z,Z,Z,Z,Z,Z,Z,Z,Z,Z,Z,Z,Z,Z,Z,Z,Z,Z,Z,Z,Z,Z,Z,Z,Z,Z,Z,Z,Z,Z,Z,Z,Z] ?_
  refine a5a (a4h HT_.out (by kernel_rfl)) ?_
  try go_wp2
  go_meet
  case rel => exact ⟨_,(decide (((a0b c a).f1) < bC)),qs_,H',⟨by have := aj.out;have := ag.out;have := aE.out;first | omega | exact Nat.le_refl _⟩,⟨by (with_reducible repeat (first | apply Kd.a2k | apply Kd.a2l | apply Kd.a2f));exact HO_12.out⟩,⟨by (with_reducible repeat (first | apply Kd.a2k | apply Kd.a2l | apply Kd.a2f));exact HO_14.out⟩,⟨qb_⟩⟩
 case rest =>
 clear b7
 try clear c2
 try clear c4
 try clear bg
 try clear bh
 try clear bi
 try clear j
 try clear l
 try clear m
 try clear G
 try clear I
 try clear J
 try clear aq
 try clear ar
 try clear au
 try clear t
 try clear ab
 try clear aY
 try clear u
 try clear ac
 try clear aZ
 obtain ⟨kq,ad,rfl,HA,bF,HO_12,HO_14,HB⟩ := hcut
 cases kq with
 | zero => exact absurd HA.out (by simp [a0f.j3])
 | succ cj =>
 have H := HA.out
 clear HA
 simp only [a0f.j3] at H
 by_cases bj : ad = true
 ·subst bj
  replace H := qip_ H
  obtain rfl := si_ H
  go_wp2
  go_ret
  exact ⟨qx_,qb_⟩
 replace bj := be_ bj
 subst bj
 replace H := qin_ H
 have H' := am_ H
 clear H
 go_wp2
 go_roundg cj
 case measure => have := aj.out;have := ag.out;have := aE.out;have := bF.out;omega
 case rel => exact ⟨(wrap64 (a + 1)),qs_,H',⟨by have := aj.out;have := ag.out;have := aE.out;have := bF.out;omega⟩,⟨by (with_reducible repeat (first | apply Kd.a2k | apply Kd.a2l | apply Kd.a2f));exact HO_12.out⟩,⟨by (with_reducible repeat (first | apply Kd.a2k | apply Kd.a2l | apply Kd.a2f));exact HO_14.out⟩,⟨qb_⟩⟩
end Go.Proofs.Ytheibjkjmkanoaa.Px
