/- Contracts of Go functions, printed. Conditions: as each theorem states. -/
import Derived.Test.YtheibjkjmkanoaaPx0
import Derived.Test.YtheibjkjmkanoaaPx11
import Derived.Test.YtheibjkjmkanoaaPx14
import Derived.Test.YtheibjkjmkanoaaPx16
import Derived.Test.YtheibjkjmkanoaaPx19
import Derived.Test.YtheibjkjmkanoaaPx20
import Derived.Test.YtheibjkjmkanoaaPx21
import Derived.Test.YtheibjkjmkanoaaPx24
import Derived.Test.YtheibjkjmkanoaaPx29
import Derived.Test.YtheibjkjmkanoaaPx33
namespace Go.Proofs.Ytheibjkjmkanoaa.Px
open Go.Proofs.Ytheibjkjmkanoaa.Given
open Go.RowKit Go.Proofs.YtheibjkjmkanoaaW.PrintWords Go.Proofs.YtheibjkjmkanoaaW.PrintLast Go.Proofs.YtheibjkjmkanoaaW.PrintMore
attribute [local go_sem] a3m a3n a3x a3y a3e a3f a3o a3p
set_option linter.unusedVariables false
set_option linter.unusedSimpArgs false
mutual
def a0l.j0 : Nat → List (S51) → List (S58) → List (S42) → Int → List Int → Int → Bool → Bool → Option (Bool)
 | 0,_,_,_,_,_,_,_,_ => none
 | k + 1,x0,x1,x2,x3,x4,x5,c,j => if j = true then (some c) else ((a2m.f k x0 x1 x3).bind fun a => ((a3b.f k x0 x1 x3).bind fun b => (if c = true then ((a3z.f k x0 x1).bind fun d => ((a0c.f k x0 x1).bind fun e => (if (d == e) = true then ((a1j.f k a.1 b.1).bind fun g => (if g = true then (if a.2 = b.2 then ((a0j.f k x0 x1 x2).bind fun h => ((a1a.f k x0 x1 x2).bind fun i => (a0l.j1 k x0 x1 x2 x3 x4 x5 (h == i)))) else (a0l.j1 k x0 x1 x2 x3 x4 x5 false)) else (a0l.j1 k x0 x1 x2 x3 x4 x5 false))) else (a0l.j1 k x0 x1 x2 x3 x4 x5 false)))) else (a0l.j1 k x0 x1 x2 x3 x4 x5 false))))
def a0l.j1 : Nat → List (S51) → List (S58) → List (S42) → Int → List Int → Int → Bool → Option (Bool)
 | 0,_,_,_,_,_,_,_ => none
 | k + 1,x0,x1,x2,x3,x4,x5,d => (a1e.f k x0 x1 x2 x3 x4).bind fun a => ((a2d.f k x0 x1 x2 x3 x4).bind fun b => (if d = true then ((a1j.f k a.1 b.1).bind fun c => (if c = true then (a0l.j2 k x0 x2 x5 (a.2 == b.2)) else (a0l.j2 k x0 x2 x5 false))) else (a0l.j2 k x0 x2 x5 false)))
def a0l.j2 : Nat → List (S51) → List (S42) → Int → Bool → Option (Bool)
 | 0,_,_,_,_ => none
 | k + 1,x0,x2,x5,d => (a1y.f k x0 x2 x5).bind fun a => ((a2e.f k x0 x2 x5).bind fun b => (if d = true then ((a1s.f k a.1 b.1).bind fun c => (if c = true then (some (a.2 == b.2)) else (some false))) else (some false)))
end
def a0l.f (k : Nat) (l0 : List (S51)) (l1 : List (S58)) (l2 : List (S42)) (a3 : Int) (l4 : List Int) (a5 : Int) : Option (Bool) := (a0f.f k).bind fun a => ((a0o.f k l0 l1).bind fun b => (if b = true then (if (l2.length : Int) > 20 then (a0l.j0 k l0 l1 l2 a3 l4 a5 a true) else (a0l.j0 k l0 l1 l2 a3 l4 a5 a (decide ((l4.length : Int) > 20)))) else (a0l.j0 k l0 l1 l2 a3 l4 a5 a true)))
theorem a0l.a1h : ∀ k,(∀ y0 y1 y2 y3 y4 y5 y6 y7,LeO (a0l.j0 k y0 y1 y2 y3 y4 y5 y6 y7) (a0l.j0 (k + 1) y0 y1 y2 y3 y4 y5 y6 y7)) ∧ (∀ y0 y1 y2 y3 y4 y5 y6,LeO (a0l.j1 k y0 y1 y2 y3 y4 y5 y6) (a0l.j1 (k + 1) y0 y1 y2 y3 y4 y5 y6)) ∧ (∀ y0 y1 y2 y3,LeO (a0l.j2 k y0 y1 y2 y3) (a0l.j2 (k + 1) y0 y1 y2 y3))
 | 0 => ⟨fun _ _ _ _ _ _ _ _ r h => by simp [a0l.j0] at h,fun _ _ _ _ _ _ _ r h => by simp [a0l.j1] at h,fun _ _ _ _ r h => by simp [a0l.j2] at h⟩
 | k + 1 => by
  obtain ⟨a,b,c⟩ := a0l.a1h k
  refine ⟨?_,?_,?_⟩ <;> intros <;> (first | unfold a0l.j0 | unfold a0l.j1 | unfold a0l.j2) <;> with_reducible (repeat' first | apply a | apply b | apply c | apply a0f.mono | apply a1s.mono | apply a2d.mono | apply a1a.mono | apply a0o.mono | apply a3b.mono | apply a1j.mono | apply a2e.mono | apply a0c.mono | apply a1e.mono | apply a0j.mono | apply a2m.mono | apply a1y.mono | apply a3z.mono | apply LeO.refl | apply LeO.none | apply LeO.ite | refine LeO.bind ?_ (fun _ => ?_))
theorem a0l.mono : ∀ a0 a1 a2 a3 a4 a5 k,LeO (a0l.f k a0 a1 a2 a3 a4 a5) (a0l.f (k + 1) a0 a1 a2 a3 a4 a5) := by
 intro a0 a1 a2 a3 a4 a5 k
 obtain ⟨a,b,c⟩ := a0l.a1h k
 unfold a0l.f
 with_reducible (repeat' first | apply a | apply b | apply c | apply a0f.mono | apply a1s.mono | apply a2d.mono | apply a1a.mono | apply a0o.mono | apply a3b.mono | apply a1j.mono | apply a2e.mono | apply a0c.mono | apply a1e.mono | apply a0j.mono | apply a2m.mono | apply a1y.mono | apply a3z.mono | apply LeO.refl | apply LeO.none | apply LeO.ite | refine LeO.bind ?_ (fun _ => ?_))
def a3a.f (k : Nat) (l0 : List (S51)) (l1 : List (S58)) : Option (Bool) := (a0o.f k l0 l1).bind fun a => (if a = true then ((a0c.f k l0 l1).bind fun b => (some b)) else (some false))
theorem a3a.mono : ∀ a0 a1 k,LeO (a3a.f k a0 a1) (a3a.f (k + 1) a0 a1) := by
 intro a0 a1 k
 unfold a3a.f
 with_reducible (repeat' first | apply a0o.mono | apply a0c.mono | apply LeO.refl | apply LeO.none | apply LeO.ite | refine LeO.bind ?_ (fun _ => ?_))
set_option maxHeartbeats 8000000 in
set_option maxRecDepth 100000 in
theorem a3a.calls (k : Nat) (A0 : Option Addr) (c0 : Nat) (l0 : List (S51)) (A1 : Option Addr) (c1 : Nat) (l1 : List (S58)) (r : Bool) (w : World) (j : Kd.C k51 w A0 l0.length l0) (l : l0.length ≤ c0) (m : Kd.C k58 w A1 l1.length l1) (n : l1.length ≤ c1) (h : a3a.f k l0 l1 = some r) :
  Calls Try.prog 24 #[.slice A0 l0.length c0, .slice A1 l1.length c1] w fun e w' => e = .returned (.bool r) ∧ Below w.heap.size w w' := by
 have c := am_ j
 have d := am_ l
 clear j l
 have g := am_ m
 have i := am_ n
 clear m n
 have HB := am_ (Below.refl w.heap.size w)
 have H : ((a0o.f k l0 l1).bind fun a => (if a = true then ((a0c.f k l0 l1).bind fun b => (some b)) else (some false))) = some r := h
 clear h
 replace H := bm_ H
 obtain ⟨a,o,H⟩ := H
 have A3 := am_ o
 clear o
 by_cases c4 : a = true
 rotate_left
 ·replace c4 := be_ c4
  subst c4
  replace H := qin_ H
  obtain rfl := si_ H
  go_enter Try.func24,Try.ntmps24
  go_wp2_with (first | ((with_reducible refine a0r (f := 11) rfl ?_);refine a2a (some 7) rfl rfl Try.func11 (by kernel_rfl) rfl #[.slice A0 l0.length c0, .slice A1 l1.length c1] rfl ql_ ?_;(with_reducible refine (a0o.calls k _ _ l0 _ _ l1 false _ ?s1 d.out ?s3 i.out A3.out).mono ?_);(case s1 => repeat (first | exact c.out | (with_reducible refine Kd.a1t ?_ _) | (with_reducible refine Kd.a1u ?_ _) | (with_reducible refine Kd.a2h ?_)));(case s3 => repeat (first | exact g.out | (with_reducible refine Kd.a1t ?_ _) | (with_reducible refine Kd.a1u ?_ _) | (with_reducible refine Kd.a2h ?_)));rintro e w' ⟨rfl,⟨nd,rfl⟩⟩;refine ⟨_,rfl,?_⟩))
  go_ret
  exact ⟨qx_,qb_⟩
 subst c4
 replace H := qip_ H
 replace H := bm_ H
 obtain ⟨b,p,H⟩ := H
 have A5 := am_ p
 clear p
 obtain rfl := si_ H
 go_enter Try.func24,Try.ntmps24
 go_wp2_with (first | ((with_reducible refine a0r (f := 11) rfl ?_);refine a2a (some 7) rfl rfl Try.func11 (by kernel_rfl) rfl #[.slice A0 l0.length c0, .slice A1 l1.length c1] rfl ql_ ?_;(with_reducible refine (a0o.calls k _ _ l0 _ _ l1 true _ ?s1 d.out ?s3 i.out A3.out).mono ?_);(case s1 => repeat (first | exact c.out | (with_reducible refine Kd.a1t ?_ _) | (with_reducible refine Kd.a1u ?_ _) | (with_reducible refine Kd.a2h ?_)));(case s3 => repeat (first | exact g.out | (with_reducible refine Kd.a1t ?_ _) | (with_reducible refine Kd.a1u ?_ _) | (with_reducible refine Kd.a2h ?_)));rintro e w' ⟨rfl,⟨nd,rfl⟩⟩;refine ⟨_,rfl,?_⟩) | (go_at_call 15;(with_reducible refine (a0c.calls k _ _ l0 _ _ l1 b _ ?s1 d.out ?s3 i.out A5.out).mono ?_);(case s1 => repeat (first | exact c.out | (with_reducible refine Kd.a1t ?_ _) | (with_reducible refine Kd.a1u ?_ _) | (with_reducible refine Kd.a2h ?_)));(case s3 => repeat (first | exact g.out | (with_reducible refine Kd.a1t ?_ _) | (with_reducible refine Kd.a1u ?_ _) | (with_reducible refine Kd.a2h ?_)));rintro e w6 ⟨rfl,hb⟩;replace HB := qbs_ hb;(try clear hb);(try clear q);(try clear hk);(try clear hi)))
 go_ret
 exact ⟨qx_,qb_⟩
def a2x.f (a0 : Int) : Option (Int) := some (Int.tmod (wrap64 (a0)) 36525)
set_option maxHeartbeats 8000000 in
set_option maxRecDepth 100000 in
theorem a2x.calls (a0 r : Int) (w : World) (h : a2x.f a0 = some r) :
  Calls Try.prog 25 #[.int .u16 a0] w fun e w' => e = .returned (.int .i64 r) ∧ a3u w w' := by
 have H : (some (Int.tmod (wrap64 (a0)) 36525)) = some r := h
 clear h
 obtain rfl := si_ H
 go_enter Try.func25,Try.ntmps25
 go_wp2
 go_ret
 exact ⟨qs_,qy_⟩
end Go.Proofs.Ytheibjkjmkanoaa.Px
