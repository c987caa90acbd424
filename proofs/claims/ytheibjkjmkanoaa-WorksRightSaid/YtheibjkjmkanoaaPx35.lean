/- Contracts of Go functions, printed. Conditions: as each theorem states. -/
import Derived.Test.YtheibjkjmkanoaaPx0
import Derived.Test.YtheibjkjmkanoaaPx11
import Derived.Test.YtheibjkjmkanoaaPx14
import Derived.Test.YtheibjkjmkanoaaPx20
import Derived.Test.YtheibjkjmkanoaaPx29
import Derived.Test.YtheibjkjmkanoaaPx34
namespace Go.Proofs.Ytheibjkjmkanoaa.Px
open Go.Proofs.Ytheibjkjmkanoaa.Given
open Go.RowKit Go.Proofs.YtheibjkjmkanoaaW.PrintWords Go.Proofs.YtheibjkjmkanoaaW.PrintLast Go.Proofs.YtheibjkjmkanoaaW.PrintMore
attribute [local go_sem] a3r a3s a4e a4f a3k a3l a3t a3u
set_option linter.unusedVariables false
set_option linter.unusedSimpArgs false
def a1x.l0 : Nat → List (S51) → List (S58) → Int → Bool → List (S42) → Int → Option (Bool)
 | 0,_,_,_,_,_,_ => none
 | k + 1,x0,x1,x2,x7,x8,a => if a < (x8.length : Int) then (if 0 ≤ a then ((a0k.f x2).bind fun b => (if ((a0b x8 a).f1) < b then (some false) else (a1x.l0 k x0 x1 x2 x7 x8 (wrap64 (a + 1))))) else (none)) else (if x7 = true then ((a0z.f k x0 x1 x8).bind fun c => (if c = 0 then ((a0d.f k x0 x1 x8).bind fun d => (some (d == 0))) else (some false))) else (some false))
def a1x.f (k : Nat) (l0 : List (S51)) (l1 : List (S58)) (a2 : Int) : Option (Bool) := (a0e.f k).bind fun b => ((a0v.f k l0 l1).bind fun c => (if c = true then ((a0k.f a2).bind fun d => ((a1e.f k l0 l1 d).bind fun a => (if a.2 = 0 then (a1x.l0 k l0 l1 a2 b a.1 0) else (if b = true then (if a.2 = 20 then (some ((a.1.length : Int) == 0)) else (some false)) else (some false))))) else (some b)))
theorem a1x.a1t : ∀ k,(∀ y0 y1 y2 y3 y4 y5,LeO (a1x.l0 k y0 y1 y2 y3 y4 y5) (a1x.l0 (k + 1) y0 y1 y2 y3 y4 y5))
 | 0 => fun _ _ _ _ _ _ r h => by simp [a1x.l0] at h
 | k + 1 => by
  have a := a1x.a1t k
  intro y0 y1 y2 y3 y4 y5
  unfold a1x.l0
  with_reducible (repeat' first | apply a | apply a0e.mono | apply a0v.mono | apply a0d.mono | apply a0z.mono | apply a1e.mono | apply LeO.refl | apply LeO.none | apply LeO.ite | refine LeO.bind ?_ (fun _ => ?_))
theorem a1x.mono : ∀ a0 a1 a2 k,LeO (a1x.f k a0 a1 a2) (a1x.f (k + 1) a0 a1 a2) := by
 intro a0 a1 a2 k
 have a := a1x.a1t k
 unfold a1x.f
 with_reducible (repeat' first | apply a | apply a0e.mono | apply a0v.mono | apply a0d.mono | apply a0z.mono | apply a1e.mono | apply LeO.refl | apply LeO.none | apply LeO.ite | refine LeO.bind ?_ (fun _ => ?_))
set_option maxHeartbeats 8000000 in
set_option maxRecDepth 100000 in
theorem a1x.calls (k : Nat) (A0 : Option Addr) (c0 : Nat) (l0 : List (S51)) (A1 : Option Addr) (c1 : Nat) (l1 : List (S58)) (a2 : Int) (r : Bool) (w : World) (ad : Kd.C k51 w A0 l0.length l0) (ae : l0.length ≤ c0) (af : Kd.C k58 w A1 l1.length l1) (ag : l1.length ≤ c1) (h : a1x.f k l0 l1 a2 = some r) :
  Calls Try.prog 4 #[.slice A0 l0.length c0, .slice A1 l1.length c1, .int .u16 a2] w fun e w' => e = .returned (.bool r) ∧ Below w.heap.size w w' := by
 have c := am_ ad
 have d := am_ ae
 clear ad ae
 have g := am_ af
 have i := am_ ag
 clear af ag
 have HB := am_ (Below.refl w.heap.size w)
 have H : ((a0e.f k).bind fun p => ((a0v.f k l0 l1).bind fun I => (if I = true then ((a0k.f a2).bind fun j => ((a1e.f k l0 l1 j).bind fun x => (if x.2 = 0 then (a1x.l0 k l0 l1 a2 p x.1 0) else (if p = true then (if x.2 = 20 then (some ((x.1.length : Int) == 0)) else (some false)) else (some false))))) else (some p)))) = some r := h
 clear h
 replace H := bm_ H
 obtain ⟨p,ah,H⟩ := H
 have A4 := am_ ah
 clear ah
 replace H := bm_ H
 obtain ⟨I,ai,H⟩ := H
 have A5 := am_ ai
 clear ai
 by_cases c6 : I = true
 rotate_left
 ·replace c6 := be_ c6
  subst c6
  replace H := qin_ H
  obtain rfl := si_ H
  go_enter Try.func4,Try.ntmps4
  go_wp2_with (first | (go_at_call 10;(with_reducible refine (a0e.calls k  p _ A4.out).mono ?_);rintro e aj ⟨rfl,hb⟩;replace HB := qbs_ hb;(try clear hb);(try clear a);(try clear hk);(try clear hi)) | (go_at_call 24;(with_reducible refine (a0v.calls k _ _ l0 _ _ l1 false _ ?s1 d.out ?s3 i.out A5.out).mono ?_);(case s1 => exact qc_ c);(case s3 => exact qc_ g);rintro e ak ⟨rfl,hb⟩;replace HB := qbs_ hb;(try clear hb);(try clear a);(try clear hk);(try clear hi)))
  repeat (go_quiet (first | (go_at_call 10;(with_reducible refine (a0e.calls k  p _ A4.out).mono ?_);rintro e aj ⟨rfl,hb⟩;replace HB := qbs_ hb;(try clear hb);(try clear a);(try clear hk);(try clear hi)) | (go_at_call 24;(with_reducible refine (a0v.calls k _ _ l0 _ _ l1 false _ ?s1 d.out ?s3 i.out A5.out).mono ?_);(case s1 => exact qc_ c);(case s3 => exact qc_ g);rintro e ak ⟨rfl,hb⟩;replace HB := qbs_ hb;(try clear hb);(try clear a);(try clear hk);(try clear hi)));try go_wp2_with (first | (go_at_call 10;(with_reducible refine (a0e.calls k  p _ A4.out).mono ?_);rintro e aj ⟨rfl,hb⟩;replace HB := qbs_ hb;(try clear hb);(try clear a);(try clear hk);(try clear hi)) | (go_at_call 24;(with_reducible refine (a0v.calls k _ _ l0 _ _ l1 false _ ?s1 d.out ?s3 i.out A5.out).mono ?_);(case s1 => exact qc_ c);(case s3 => exact qc_ g);rintro e ak ⟨rfl,hb⟩;replace HB := qbs_ hb;(try clear hb);(try clear a);(try clear hk);(try clear hi))))
  go_ret
  exact ⟨qx_,qb_⟩
 subst c6
 replace H := qip_ H
 replace H := bm_ H
 obtain ⟨j,al,H⟩ := H
 have A7 := am_ al
 clear al
 replace H := bm_ H
 obtain ⟨⟨b,m⟩,am,H⟩ := H
 replace H : (if m = 0 then (a1x.l0 k l0 l1 a2 p b 0) else (if p = true then (if m = 20 then (some ((b.length : Int) == 0)) else (some false)) else (some false))) = some r := H
 have A8 := am_ am
 clear am
 by_cases c9 : m = 0
 rotate_left
 ·rw [if_neg c9] at H
  have U : (m == 0) = false := beq_eq_false_iff_ne.mpr c9
  have W : (m != 0) = true := bne_iff_ne.mpr c9
  by_cases L : p = true
  rotate_left
  ·replace L := be_ L
   subst L
   replace H := qin_ H
   obtain rfl := si_ H
   go_enter Try.func4,Try.ntmps4
   go_wp2_with (first | (go_at_call 10;(with_reducible refine (a0e.calls k  false _ A4.out).mono ?_);rintro e an ⟨rfl,hb⟩;replace HB := qbs_ hb;(try clear hb);(try clear a);(try clear hk);(try clear hi)) | (go_at_call 24;(with_reducible refine (a0v.calls k _ _ l0 _ _ l1 true _ ?s1 d.out ?s3 i.out A5.out).mono ?_);(case s1 => exact qc_ c);(case s3 => exact qc_ g);rintro e ao ⟨rfl,hb⟩;replace HB := qbs_ hb;(try clear hb);(try clear a);(try clear hk);(try clear hi)) | (go_at_call 25;(with_reducible refine (a0k.calls a2 j _ A7.out).mono ?_);rintro e w' ⟨rfl,⟨nd,rfl⟩⟩;(try exact qw_)) | (go_at_call 12;(with_reducible refine (a1e.calls k _ _ l0 _ _ l1 j b m _ ?s1 d.out ?s3 i.out A8.out).mono ?_);(case s1 => repeat (first | exact (Kd.a1l c.out qb_) | (with_reducible refine Kd.a1b ?_ _) | (with_reducible refine Kd.a1c ?_ _) | (with_reducible refine Kd.a1k ?_)));(case s3 => repeat (first | exact (Kd.a1l g.out qb_) | (with_reducible refine Kd.a1b ?_ _) | (with_reducible refine Kd.a1c ?_ _) | (with_reducible refine Kd.a1k ?_)));rintro e ap ⟨q,rfl,l,hb⟩;have o := am_ (Kd.a3b l (a0r qb_));replace HB := qbs_ hb;(try clear hb);(try clear a);(try clear hk);(try clear hi);(try clear l)))
   repeat (go_quiet (first | (go_at_call 10;(with_reducible refine (a0e.calls k  false _ A4.out).mono ?_);rintro e an ⟨rfl,hb⟩;replace HB := qbs_ hb;(try clear hb);(try clear a);(try clear hk);(try clear hi)) | (go_at_call 24;(with_reducible refine (a0v.calls k _ _ l0 _ _ l1 true _ ?s1 d.out ?s3 i.out A5.out).mono ?_);(case s1 => exact qc_ c);(case s3 => exact qc_ g);rintro e ao ⟨rfl,hb⟩;replace HB := qbs_ hb;(try clear hb);(try clear a);(try clear hk);(try clear hi)) | (go_at_call 25;(with_reducible refine (a0k.calls a2 j _ A7.out).mono ?_);rintro e w' ⟨rfl,⟨nd,rfl⟩⟩;(try exact qw_)) | (go_at_call 12;(with_reducible refine (a1e.calls k _ _ l0 _ _ l1 j b m _ ?s1 d.out ?s3 i.out A8.out).mono ?_);(case s1 => repeat (first | exact (Kd.a1l c.out qb_) | (with_reducible refine Kd.a1b ?_ _) | (with_reducible refine Kd.a1c ?_ _) | (with_reducible refine Kd.a1k ?_)));(case s3 => repeat (first | exact (Kd.a1l g.out qb_) | (with_reducible refine Kd.a1b ?_ _) | (with_reducible refine Kd.a1c ?_ _) | (with_reducible refine Kd.a1k ?_)));rintro e ap ⟨q,rfl,l,hb⟩;have o := am_ (Kd.a3b l (a0r qb_));replace HB := qbs_ hb;(try clear hb);(try clear a);(try clear hk);(try clear hi);(try clear l)));try go_wp2_with (first | (go_at_call 10;(with_reducible refine (a0e.calls k  false _ A4.out).mono ?_);rintro e an ⟨rfl,hb⟩;replace HB := qbs_ hb;(try clear hb);(try clear a);(try clear hk);(try clear hi)) | (go_at_call 24;(with_reducible refine (a0v.calls k _ _ l0 _ _ l1 true _ ?s1 d.out ?s3 i.out A5.out).mono ?_);(case s1 => exact qc_ c);(case s3 => exact qc_ g);rintro e ao ⟨rfl,hb⟩;replace HB := qbs_ hb;(try clear hb);(try clear a);(try clear hk);(try clear hi)) | (go_at_call 25;(with_reducible refine (a0k.calls a2 j _ A7.out).mono ?_);rintro e w' ⟨rfl,⟨nd,rfl⟩⟩;(try exact qw_)) | (go_at_call 12;(with_reducible refine (a1e.calls k _ _ l0 _ _ l1 j b m _ ?s1 d.out ?s3 i.out A8.out).mono ?_);(case s1 => repeat (first | exact (Kd.a1l c.out qb_) | (with_reducible refine Kd.a1b ?_ _) | (with_reducible refine Kd.a1c ?_ _) | (with_reducible refine Kd.a1k ?_)));(case s3 => repeat (first | exact (Kd.a1l g.out qb_) | (with_reducible refine Kd.a1b ?_ _) | (with_reducible refine Kd.a1c ?_ _) | (with_reducible refine Kd.a1k ?_)));rintro e ap ⟨q,rfl,l,hb⟩;have o := am_ (Kd.a3b l (a0r qb_));replace HB := qbs_ hb;(try clear hb);(try clear a);(try clear hk);(try clear hi);(try clear l))))
   go_ret
   exact ⟨qx_,qb_⟩
  subst L
  replace H := qip_ H
  by_cases y : m = 20
  rotate_left
  ·rw [if_neg y] at H
   have a6 : (m == 20) = false := beq_eq_false_iff_ne.mpr y
   have a7 : (m != 20) = true := bne_iff_ne.mpr y
   obtain rfl := si_ H
   go_enter Try.func4,Try.ntmps4
   go_wp2_with (first | (go_at_call 10;(with_reducible refine (a0e.calls k  true _ A4.out).mono ?_);rintro e aq ⟨rfl,hb⟩;replace HB := qbs_ hb;(try clear hb);(try clear a);(try clear hk);(try clear hi)) | (go_at_call 24;(with_reducible refine (a0v.calls k _ _ l0 _ _ l1 true _ ?s1 d.out ?s3 i.out A5.out).mono ?_);(case s1 => exact qc_ c);(case s3 => exact qc_ g);rintro e ar ⟨rfl,hb⟩;replace HB := qbs_ hb;(try clear hb);(try clear a);(try clear hk);(try clear hi)) | (go_at_call 25;(with_reducible refine (a0k.calls a2 j _ A7.out).mono ?_);rintro e w' ⟨rfl,⟨nd,rfl⟩⟩;(try exact qw_)) | (go_at_call 12;(with_reducible refine (a1e.calls k _ _ l0 _ _ l1 j b m _ ?s1 d.out ?s3 i.out A8.out).mono ?_);(case s1 => repeat (first | exact (Kd.a1l c.out qb_) | (with_reducible refine Kd.a1b ?_ _) | (with_reducible refine Kd.a1c ?_ _) | (with_reducible refine Kd.a1k ?_)));(case s3 => repeat (first | exact (Kd.a1l g.out qb_) | (with_reducible refine Kd.a1b ?_ _) | (with_reducible refine Kd.a1c ?_ _) | (with_reducible refine Kd.a1k ?_)));rintro e au ⟨q,rfl,l,hb⟩;have o := am_ (Kd.a3b l (a0r qb_));replace HB := qbs_ hb;(try clear hb);(try clear a);(try clear hk);(try clear hi);(try clear l)))
   repeat (go_quiet (first | (go_at_call 10;(with_reducible refine (a0e.calls k  true _ A4.out).mono ?_);rintro e aq ⟨rfl,hb⟩;replace HB := qbs_ hb;(try clear hb);(try clear a);(try clear hk);(try clear hi)) | (go_at_call 24;(with_reducible refine (a0v.calls k _ _ l0 _ _ l1 true _ ?s1 d.out ?s3 i.out A5.out).mono ?_);(case s1 => exact qc_ c);(case s3 => exact qc_ g);rintro e ar ⟨rfl,hb⟩;replace HB := qbs_ hb;(try clear hb);(try clear a);(try clear hk);(try clear hi)) | (go_at_call 25;(with_reducible refine (a0k.calls a2 j _ A7.out).mono ?_);rintro e w' ⟨rfl,⟨nd,rfl⟩⟩;(try exact qw_)) | (go_at_call 12;(with_reducible refine (a1e.calls k _ _ l0 _ _ l1 j b m _ ?s1 d.out ?s3 i.out A8.out).mono ?_);(case s1 => repeat (first | exact (Kd.a1l c.out qb_) | (with_reducible refine Kd.a1b ?_ _) | (with_reducible refine Kd.a1c ?_ _) | (with_reducible refine Kd.a1k ?_)));(case s3 => repeat (first | exact (Kd.a1l g.out qb_) | (with_reducible refine Kd.a1b ?_ _) | (with_reducible refine Kd.a1c ?_ _) | (with_reducible refine Kd.a1k ?_)));rintro e au ⟨q,rfl,l,hb⟩;have o := am_ (Kd.a3b l (a0r qb_));replace HB := qbs_ hb;(try clear hb);(try clear a);(try clear hk);(try clear hi);(try clear l)));try go_wp2_with (first | (go_at_call 10;(with_reducible refine (a0e.calls k  true _ A4.out).mono ?_);rintro e aq ⟨rfl,hb⟩;replace HB := qbs_ hb;(try clear hb);(try clear a);(try clear hk);(try clear hi)) | (go_at_call 24;(with_reducible refine (a0v.calls k _ _ l0 _ _ l1 true _ ?s1 d.out ?s3 i.out A5.out).mono ?_);(case s1 => exact qc_ c);(case s3 => exact qc_ g);rintro e ar ⟨rfl,hb⟩;replace HB := qbs_ hb;(try clear hb);(try clear a);(try clear hk);(try clear hi)) | (go_at_call 25;(with_reducible refine (a0k.calls a2 j _ A7.out).mono ?_);rintro e w' ⟨rfl,⟨nd,rfl⟩⟩;(try exact qw_)) | (go_at_call 12;(with_reducible refine (a1e.calls k _ _ l0 _ _ l1 j b m _ ?s1 d.out ?s3 i.out A8.out).mono ?_);(case s1 => repeat (first | exact (Kd.a1l c.out qb_) | (with_reducible refine Kd.a1b ?_ _) | (with_reducible refine Kd.a1c ?_ _) | (with_reducible refine Kd.a1k ?_)));(case s3 => repeat (first | exact (Kd.a1l g.out qb_) | (with_reducible refine Kd.a1b ?_ _) | (with_reducible refine Kd.a1c ?_ _) | (with_reducible refine Kd.a1k ?_)));rintro e au ⟨q,rfl,l,hb⟩;have o := am_ (Kd.a3b l (a0r qb_));replace HB := qbs_ hb;(try clear hb);(try clear a);(try clear hk);(try clear hi);(try clear l))))
   go_ret
   exact ⟨qx_,qb_⟩
  rw [if_pos y] at H
  have a6 : (m == 20) = true := beq_iff_eq.mpr y
  have a7 : (m != 20) = false := bne_eq_false_iff_eq.mpr y
  clear y
  obtain rfl := si_ H
  go_enter Try.func4,Try.ntmps4
  go_wp2_with (first | (go_at_call 10;(with_reducible refine (a0e.calls k  true _ A4.out).mono ?_);rintro e av ⟨rfl,hb⟩;replace HB := qbs_ hb;(try clear hb);(try clear a);(try clear hk);(try clear hi)) | (go_at_call 24;(with_reducible refine (a0v.calls k _ _ l0 _ _ l1 true _ ?s1 d.out ?s3 i.out A5.out).mono ?_);(case s1 => exact qc_ c);(case s3 => exact qc_ g);rintro e aw ⟨rfl,hb⟩;replace HB := qbs_ hb;(try clear hb);(try clear a);(try clear hk);(try clear hi)) | (go_at_call 25;(with_reducible refine (a0k.calls a2 j _ A7.out).mono ?_);rintro e w' ⟨rfl,⟨nd,rfl⟩⟩;(try exact qw_)) | (go_at_call 12;(with_reducible refine (a1e.calls k _ _ l0 _ _ l1 j b m _ ?s1 d.out ?s3 i.out A8.out).mono ?_);(case s1 => repeat (first | exact (Kd.a1l c.out qb_) | (with_reducible refine Kd.a1b ?_ _) | (with_reducible refine Kd.a1c ?_ _) | (with_reducible refine Kd.a1k ?_)));(case s3 => repeat (first | exact (Kd.a1l g.out qb_) | (with_reducible refine Kd.a1b ?_ _) | (with_reducible refine Kd.a1c ?_ _) | (with_reducible refine Kd.a1k ?_)));rintro e ax ⟨q,rfl,l,hb⟩;have o := am_ (Kd.a3b l (a0r qb_));replace HB := qbs_ hb;(try clear hb);(try clear a);(try clear hk);(try clear hi);(try clear l);obtain ⟨X,a0,z⟩ := Kd.a3c o.out;subst z))
  repeat (go_quiet (first | (go_at_call 10;(with_reducible refine (a0e.calls k  true _ A4.out).mono ?_);rintro e av ⟨rfl,hb⟩;replace HB := qbs_ hb;(try clear hb);(try clear a);(try clear hk);(try clear hi)) | (go_at_call 24;(with_reducible refine (a0v.calls k _ _ l0 _ _ l1 true _ ?s1 d.out ?s3 i.out A5.out).mono ?_);(case s1 => exact qc_ c);(case s3 => exact qc_ g);rintro e aw ⟨rfl,hb⟩;replace HB := qbs_ hb;(try clear hb);(try clear a);(try clear hk);(try clear hi)) | (go_at_call 25;(with_reducible refine (a0k.calls a2 j _ A7.out).mono ?_);rintro e w' ⟨rfl,⟨nd,rfl⟩⟩;(try exact qw_)) | (go_at_call 12;(with_reducible refine (a1e.calls k _ _ l0 _ _ l1 j b m _ ?s1 d.out ?s3 i.out A8.out).mono ?_);(case s1 => repeat (first | exact (Kd.a1l c.out qb_) | (with_reducible refine Kd.a1b ?_ _) | (with_reducible refine Kd.a1c ?_ _) | (with_reducible refine Kd.a1k ?_)));(case s3 => repeat (first | exact (Kd.a1l g.out qb_) | (with_reducible refine Kd.a1b ?_ _) | (with_reducible refine Kd.a1c ?_ _) | (with_reducible refine Kd.a1k ?_)));rintro e ax ⟨q,rfl,l,hb⟩;have o := am_ (Kd.a3b l (a0r qb_));replace HB := qbs_ hb;(try clear hb);(try clear a);(try clear hk);(try clear hi);(try clear l);obtain ⟨X,a0,z⟩ := Kd.a3c o.out;subst z));try go_wp2_with (first | (go_at_call 10;(with_reducible refine (a0e.calls k  true _ A4.out).mono ?_);rintro e av ⟨rfl,hb⟩;replace HB := qbs_ hb;(try clear hb);(try clear a);(try clear hk);(try clear hi)) | (go_at_call 24;(with_reducible refine (a0v.calls k _ _ l0 _ _ l1 true _ ?s1 d.out ?s3 i.out A5.out).mono ?_);(case s1 => exact qc_ c);(case s3 => exact qc_ g);rintro e aw ⟨rfl,hb⟩;replace HB := qbs_ hb;(try clear hb);(try clear a);(try clear hk);(try clear hi)) | (go_at_call 25;(with_reducible refine (a0k.calls a2 j _ A7.out).mono ?_);rintro e w' ⟨rfl,⟨nd,rfl⟩⟩;(try exact qw_)) | (go_at_call 12;(with_reducible refine (a1e.calls k _ _ l0 _ _ l1 j b m _ ?s1 d.out ?s3 i.out A8.out).mono ?_);(case s1 => repeat (first | exact (Kd.a1l c.out qb_) | (with_reducible refine Kd.a1b ?_ _) | (with_reducible refine Kd.a1c ?_ _) | (with_reducible refine Kd.a1k ?_)));(case s3 => repeat (first | exact (Kd.a1l g.out qb_) | (with_reducible refine Kd.a1b ?_ _) | (with_reducible refine Kd.a1c ?_ _) | (with_reducible refine Kd.a1k ?_)));rintro e ax ⟨q,rfl,l,hb⟩;have o := am_ (Kd.a3b l (a0r qb_));replace HB := qbs_ hb;(try clear hb);(try clear a);(try clear hk);(try clear hi);(try clear l);obtain ⟨X,a0,z⟩ := Kd.a3c o.out;subst z)))
  go_ret
  exact ⟨qx_,qb_⟩
 rw [if_pos c9] at H
 have U : (m == 0) = true := beq_iff_eq.mpr c9
 have W : (m != 0) = false := bne_eq_false_iff_eq.mpr c9
 clear c9
 have H' := am_ H
 clear H
 go_enter Try.func4,Try.ntmps4
 go_wp2_with (first | (go_at_call 10;(with_reducible refine (a0e.calls k  p _ A4.out).mono ?_);rintro e ay ⟨rfl,hb⟩;replace HB := qbs_ hb;(try clear hb);(try clear a);(try clear hk);(try clear hi)) | (go_at_call 24;(with_reducible refine (a0v.calls k _ _ l0 _ _ l1 true _ ?s1 d.out ?s3 i.out A5.out).mono ?_);(case s1 => exact qc_ c);(case s3 => exact qc_ g);rintro e az ⟨rfl,hb⟩;replace HB := qbs_ hb;(try clear hb);(try clear a);(try clear hk);(try clear hi)) | (go_at_call 25;(with_reducible refine (a0k.calls a2 j _ A7.out).mono ?_);rintro e w' ⟨rfl,⟨nd,rfl⟩⟩;(try exact qw_)) | (go_at_call 12;(with_reducible refine (a1e.calls k _ _ l0 _ _ l1 j b m _ ?s1 d.out ?s3 i.out A8.out).mono ?_);(case s1 => repeat (first | exact (Kd.a1l c.out qb_) | (with_reducible refine Kd.a1b ?_ _) | (with_reducible refine Kd.a1c ?_ _) | (with_reducible refine Kd.a1k ?_)));(case s3 => repeat (first | exact (Kd.a1l g.out qb_) | (with_reducible refine Kd.a1b ?_ _) | (with_reducible refine Kd.a1c ?_ _) | (with_reducible refine Kd.a1k ?_)));rintro e aA ⟨q,rfl,l,hb⟩;have o := am_ (Kd.a3b l (a0r qb_));replace HB := qbs_ hb;(try clear hb);(try clear a);(try clear hk);(try clear hi);(try clear l)))
 repeat (go_quiet (first | (go_at_call 10;(with_reducible refine (a0e.calls k  p _ A4.out).mono ?_);rintro e ay ⟨rfl,hb⟩;replace HB := qbs_ hb;(try clear hb);(try clear a);(try clear hk);(try clear hi)) | (go_at_call 24;(with_reducible refine (a0v.calls k _ _ l0 _ _ l1 true _ ?s1 d.out ?s3 i.out A5.out).mono ?_);(case s1 => exact qc_ c);(case s3 => exact qc_ g);rintro e az ⟨rfl,hb⟩;replace HB := qbs_ hb;(try clear hb);(try clear a);(try clear hk);(try clear hi)) | (go_at_call 25;(with_reducible refine (a0k.calls a2 j _ A7.out).mono ?_);rintro e w' ⟨rfl,⟨nd,rfl⟩⟩;(try exact qw_)) | (go_at_call 12;(with_reducible refine (a1e.calls k _ _ l0 _ _ l1 j b m _ ?s1 d.out ?s3 i.out A8.out).mono ?_);(case s1 => repeat (first | exact (Kd.a1l c.out qb_) | (with_reducible refine Kd.a1b ?_ _) | (with_reducible refine Kd.a1c ?_ _) | (with_reducible refine Kd.a1k ?_)));(case s3 => repeat (first | exact (Kd.a1l g.out qb_) | (with_reducible refine Kd.a1b ?_ _) | (with_reducible refine Kd.a1c ?_ _) | (with_reducible refine Kd.a1k ?_)));rintro e aA ⟨q,rfl,l,hb⟩;have o := am_ (Kd.a3b l (a0r qb_));replace HB := qbs_ hb;(try clear hb);(try clear a);(try clear hk);(try clear hi);(try clear l)));try go_wp2_with (first | (go_at_call 10;(with_reducible refine (a0e.calls k  p _ A4.out).mono ?_);rintro e ay ⟨rfl,hb⟩;replace HB := qbs_ hb;(try clear hb);(try clear a);(try clear hk);(try clear hi)) | (go_at_call 24;(with_reducible refine (a0v.calls k _ _ l0 _ _ l1 true _ ?s1 d.out ?s3 i.out A5.out).mono ?_);(case s1 => exact qc_ c);(case s3 => exact qc_ g);rintro e az ⟨rfl,hb⟩;replace HB := qbs_ hb;(try clear hb);(try clear a);(try clear hk);(try clear hi)) | (go_at_call 25;(with_reducible refine (a0k.calls a2 j _ A7.out).mono ?_);rintro e w' ⟨rfl,⟨nd,rfl⟩⟩;(try exact qw_)) | (go_at_call 12;(with_reducible refine (a1e.calls k _ _ l0 _ _ l1 j b m _ ?s1 d.out ?s3 i.out A8.out).mono ?_);(case s1 => repeat (first | exact (Kd.a1l c.out qb_) | (with_reducible refine Kd.a1b ?_ _) | (with_reducible refine Kd.a1c ?_ _) | (with_reducible refine Kd.a1k ?_)));(case s3 => repeat (first | exact (Kd.a1l g.out qb_) | (with_reducible refine Kd.a1b ?_ _) | (with_reducible refine Kd.a1c ?_ _) | (with_reducible refine Kd.a1k ?_)));rintro e aA ⟨q,rfl,l,hb⟩;have o := am_ (Kd.a3b l (a0r qb_));replace HB := qbs_ hb;(try clear hb);(try clear a);(try clear hk);(try clear hi);(try clear l))))
 go_loopg [10] k (fun kq aK w' => ∃ (n : Int),aK = .int .i64 n ∧ Aside0 (a1x.l0 kq l0 l1 a2 p b n = some r) ∧ Aside0 (kq ≤ k) ∧ Aside0 (Kd.R k42 42 w' w.heap.size (fun _ => True) q b) ∧ Aside0 (Below w.heap.size w w'))
 case atStart => exact ⟨(0),qs_,H',⟨Nat.le_refl _⟩,⟨by (with_reducible repeat (first | apply Kd.a2k | apply Kd.a2l | apply Kd.a2f));exact o.out⟩,⟨qb_⟩⟩
 case round =>
 clear H'
 try clear c1
 try clear c6
 try clear U
 try clear W
 obtain ⟨n,rfl,HA,aB,HO_8,HB⟩ := hrel
 cases gk with
 | zero => exact absurd HA.out (by simp [a1x.l0])
 | succ k1 =>
 have H := HA.out
 clear HA
 simp only [a1x.l0] at H
 by_cases B : n < (b.length : Int)
 ·rw [if_pos B] at H
  have a8 : decide (n < (b.length : Int)) = true := decide_eq_true B
  clear B
  obtain ⟨aL,H⟩ := qid_ H
  replace H := bm_ H
  obtain ⟨t,a1,H⟩ := H
  have D := am_ a1
  clear a1
  by_cases E : ((a0b b n).f1) < t
  ·rw [if_pos E] at H
   have a9 : decide (((a0b b n).f1) < t) = true := decide_eq_true E
   clear E
   obtain rfl := si_ H
   obtain ⟨aM,aN,aF⟩ := Kd.a3c HO_8.out
   subst aF
   have u : 0 ≤ (n : Int) := ot_
   have v : n < (b.length : Int) := ot_
   obtain ⟨aa,J,O,P,T⟩ := a3o (Kd.a1g HO_8.out).2.2 n u v
   cases J
   replace u := eq_true u
   replace v := eq_true v
   go_wp2_with (first | (go_at_call 25;(with_reducible refine (a0k.calls a2 t _ D.out).mono ?_);rintro e w' ⟨rfl,⟨nd,rfl⟩⟩;(try exact qw_)))
   repeat (go_quiet (first | (go_at_call 25;(with_reducible refine (a0k.calls a2 t _ D.out).mono ?_);rintro e w' ⟨rfl,⟨nd,rfl⟩⟩;(try exact qw_)));try go_wp2_with (first | (go_at_call 25;(with_reducible refine (a0k.calls a2 t _ D.out).mono ?_);rintro e w' ⟨rfl,⟨nd,rfl⟩⟩;(try exact qw_))))
   go_ret
   exact ⟨qx_,qb_⟩
  rw [if_neg E] at H
  have a9 : decide (((a0b b n).f1) < t) = false := decide_eq_false E
  clear E
  have H' := am_ H
  clear H
  obtain ⟨aO,aP,aG⟩ := Kd.a3c HO_8.out
  subst aG
  have u : 0 ≤ (n : Int) := ot_
  have v : n < (b.length : Int) := ot_
  obtain ⟨aa,J,O,P,T⟩ := a3o (Kd.a1g HO_8.out).2.2 n u v
  cases J
  replace u := eq_true u
  replace v := eq_true v
  go_wp2_with (first | (go_at_call 25;(with_reducible refine (a0k.calls a2 t _ D.out).mono ?_);rintro e w' ⟨rfl,⟨nd,rfl⟩⟩;(try exact qw_)))
  repeat (go_quiet (first | (go_at_call 25;(with_reducible refine (a0k.calls a2 t _ D.out).mono ?_);rintro e w' ⟨rfl,⟨nd,rfl⟩⟩;(try exact qw_)));try go_wp2_with (first | (go_at_call 25;(with_reducible refine (a0k.calls a2 t _ D.out).mono ?_);rintro e w' ⟨rfl,⟨nd,rfl⟩⟩;(try exact qw_))))
  go_roundg k1
  case measure => have := aB.out;omega
  case rel => exact ⟨(wrap64 (n + 1)),qs_,H',⟨by have := aB.out;omega⟩,⟨by (with_reducible repeat (first | apply Kd.a2k | apply Kd.a2l | apply Kd.a2f));exact HO_8.out⟩,⟨qb_⟩⟩
 rw [if_neg B] at H
 have a8 : decide (n < (b.length : Int)) = false := decide_eq_false B
 clear B
 by_cases M : p = true
 rotate_left
 ·replace M := be_ M
  subst M
  replace H := qin_ H
  obtain rfl := si_ H
  obtain ⟨aQ,aR,aH⟩ := Kd.a3c HO_8.out
  subst aH
  go_wp2
  repeat (go_quiet (fail);try go_wp2)
  go_ret
  exact ⟨qx_,qb_⟩
 subst M
 replace H := qip_ H
 replace H := bm_ H
 obtain ⟨s,a3,H⟩ := H
 have G := am_ a3
 clear a3
 by_cases A : s = 0
 rotate_left
 ·rw [if_neg A] at H
  have ab : (s == 0) = false := beq_eq_false_iff_ne.mpr A
  have ac : (s != 0) = true := bne_iff_ne.mpr A
  obtain rfl := si_ H
  obtain ⟨aS,aT,aI⟩ := Kd.a3c HO_8.out
  subst aI
  go_wp2_with (first | (go_at_call 17;(with_reducible refine (a0z.calls k1 _ _ l0 _ _ l1 _ _ b s _ ?s1 d.out ?s3 i.out ?s5 ?s6 G.out).mono ?_);(case s1 => exact qc_ c);(case s3 => exact qc_ g);(case s5 => exact qv_ (Kd.a1g HO_8.out).2.2);(case s6 => exact (Kd.a1g HO_8.out).2.1);rintro e aC ⟨rfl,hb⟩;replace HO_8 := qrb_ HO_8 hb;replace HB := qbs_ hb;(try clear hb);(try clear a);(try clear hk);(try clear hi)))
  repeat (go_quiet (first | (go_at_call 17;(with_reducible refine (a0z.calls k1 _ _ l0 _ _ l1 _ _ b s _ ?s1 d.out ?s3 i.out ?s5 ?s6 G.out).mono ?_);(case s1 => exact qc_ c);(case s3 => exact qc_ g);(case s5 => exact qv_ (Kd.a1g HO_8.out).2.2);(case s6 => exact (Kd.a1g HO_8.out).2.1);rintro e aC ⟨rfl,hb⟩;replace HO_8 := qrb_ HO_8 hb;replace HB := qbs_ hb;(try clear hb);(try clear a);(try clear hk);(try clear hi)));try go_wp2_with (first | (go_at_call 17;(with_reducible refine (a0z.calls k1 _ _ l0 _ _ l1 _ _ b s _ ?s1 d.out ?s3 i.out ?s5 ?s6 G.out).mono ?_);(case s1 => exact qc_ c);(case s3 => exact qc_ g);(case s5 => exact qv_ (Kd.a1g HO_8.out).2.2);(case s6 => exact (Kd.a1g HO_8.out).2.1);rintro e aC ⟨rfl,hb⟩;replace HO_8 := qrb_ HO_8 hb;replace HB := qbs_ hb;(try clear hb);(try clear a);(try clear hk);(try clear hi))))
  go_ret
  exact ⟨qx_,qb_⟩
 rw [if_pos A] at H
 have ab : (s == 0) = true := beq_iff_eq.mpr A
 have ac : (s != 0) = false := bne_eq_false_iff_eq.mpr A
 clear A
 replace H := bm_ H
 obtain ⟨K,a4,H⟩ := H
 have a5 := am_ a4
 clear a4
 obtain rfl := si_ H
 obtain ⟨aU,aV,aJ⟩ := Kd.a3c HO_8.out
 subst aJ
 go_wp2_with (first | (go_at_call 17;(with_reducible refine (a0z.calls k1 _ _ l0 _ _ l1 _ _ b s _ ?s1 d.out ?s3 i.out ?s5 ?s6 G.out).mono ?_);(case s1 => exact qc_ c);(case s3 => exact qc_ g);(case s5 => exact qv_ (Kd.a1g HO_8.out).2.2);(case s6 => exact (Kd.a1g HO_8.out).2.1);rintro e aD ⟨rfl,hb⟩;replace HO_8 := qrb_ HO_8 hb;replace HB := qbs_ hb;(try clear hb);(try clear a);(try clear hk);(try clear hi)) | (go_at_call 18;(with_reducible refine (a0d.calls k1 _ _ l0 _ _ l1 _ _ b K _ ?s1 d.out ?s3 i.out ?s5 ?s6 a5.out).mono ?_);(case s1 => exact qc_ c);(case s3 => exact qc_ g);(case s5 => exact qv_ (Kd.a1g HO_8.out).2.2);(case s6 => exact (Kd.a1g HO_8.out).2.1);rintro e aE ⟨rfl,hb⟩;replace HO_8 := qrb_ HO_8 hb;replace HB := qbs_ hb;(try clear hb);(try clear a);(try clear hk);(try clear hi)))
 repeat (go_quiet (first | (go_at_call 17;(with_reducible refine (a0z.calls k1 _ _ l0 _ _ l1 _ _ b s _ ?s1 d.out ?s3 i.out ?s5 ?s6 G.out).mono ?_);(case s1 => exact qc_ c);(case s3 => exact qc_ g);(case s5 => exact qv_ (Kd.a1g HO_8.out).2.2);(case s6 => exact (Kd.a1g HO_8.out).2.1);rintro e aD ⟨rfl,hb⟩;replace HO_8 := qrb_ HO_8 hb;replace HB := qbs_ hb;(try clear hb);(try clear a);(try clear hk);(try clear hi)) | (go_at_call 18;(with_reducible refine (a0d.calls k1 _ _ l0 _ _ l1 _ _ b K _ ?s1 d.out ?s3 i.out ?s5 ?s6 a5.out).mono ?_);(case s1 => exact qc_ c);(case s3 => exact qc_ g);(case s5 => exact qv_ (Kd.a1g HO_8.out).2.2);(case s6 => exact (Kd.a1g HO_8.out).2.1);rintro e aE ⟨rfl,hb⟩;replace HO_8 := qrb_ HO_8 hb;replace HB := qbs_ hb;(try clear hb);(try clear a);(try clear hk);(try clear hi)));try go_wp2_with (first | (go_at_call 17;(with_reducible refine (a0z.calls k1 _ _ l0 _ _ l1 _ _ b s _ ?s1 d.out ?s3 i.out ?s5 ?s6 G.out).mono ?_);(case s1 => exact qc_ c);(case s3 => exact qc_ g);(case s5 => exact qv_ (Kd.a1g HO_8.out).2.2);(case s6 => exact (Kd.a1g HO_8.out).2.1);rintro e aD ⟨rfl,hb⟩;replace HO_8 := qrb_ HO_8 hb;replace HB := qbs_ hb;(try clear hb);(try clear a);(try clear hk);(try clear hi)) | (go_at_call 18;(with_reducible refine (a0d.calls k1 _ _ l0 _ _ l1 _ _ b K _ ?s1 d.out ?s3 i.out ?s5 ?s6 a5.out).mono ?_);(case s1 => exact qc_ c);(case s3 => exact qc_ g);(case s5 => exact qv_ (Kd.a1g HO_8.out).2.2);(case s6 => exact (Kd.a1g HO_8.out).2.1);rintro e aE ⟨rfl,hb⟩;replace HO_8 := qrb_ HO_8 hb;replace HB := qbs_ hb;(try clear hb);(try clear a);(try clear hk);(try clear hi))))
 go_ret
 exact ⟨qx_,qb_⟩
end Go.Proofs.Ytheibjkjmkanoaa.Px
