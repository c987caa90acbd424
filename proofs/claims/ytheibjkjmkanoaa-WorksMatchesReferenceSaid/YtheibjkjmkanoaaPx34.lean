/- Contracts of Go functions, printed. Conditions: as each theorem states. -/
import Derived.Test.YtheibjkjmkanoaaPx0
import Derived.Test.YtheibjkjmkanoaaPx11
import Derived.Test.YtheibjkjmkanoaaPx14
import Derived.Test.YtheibjkjmkanoaaPx16
import Derived.Test.YtheibjkjmkanoaaPx19
import Derived.Test.YtheibjkjmkanoaaPx20
import Derived.Test.YtheibjkjmkanoaaPx21
import Derived.Test.YtheibjkjmkanoaaPx24
import Derived.Test.YtheibjkjmkanoaaPx28
import Derived.Test.YtheibjkjmkanoaaPx29
import Derived.Test.YtheibjkjmkanoaaPx31
import Derived.Test.YtheibjkjmkanoaaPx33
namespace Go.Proofs.Ytheibjkjmkanoaa.Px
open Go.Proofs.Ytheibjkjmkanoaa.Given
open Go.RowKit Go.Proofs.YtheibjkjmkanoaaW.PrintWords Go.Proofs.YtheibjkjmkanoaaW.PrintLast Go.Proofs.YtheibjkjmkanoaaW.PrintMore
attribute [local go_sem] a3r a3s a4b a4c a3f a3g a3t a3u
set_option linter.unusedVariables false
set_option linter.unusedSimpArgs false
mutual
def a0d.j0 : Nat → List (S51) → List (S58) → List (S42) → Int → List Int → Int → Bool → Bool → Option (Bool)
 | 0,_,_,_,_,_,_,_,_ => none
 | k + 1,x0,x1,x2,x3,x4,x5,c,j => if j = true then (some c) else ((a2y.f k x0 x1 x3).bind fun a => ((a1z.f k x0 x1 x3).bind fun b => (if c = true then ((a3b.f k x0 x1).bind fun d => ((a0c.f k x0 x1).bind fun e => (if (d == e) = true then ((a1a.f k a.1 b.1).bind fun g => (if g = true then (if a.2 = b.2 then ((a1d.f k x0 x1 x2).bind fun h => ((a0e.f k x0 x1 x2).bind fun i => (a0d.j1 k x0 x1 x2 x3 x4 x5 (h == i)))) else (a0d.j1 k x0 x1 x2 x3 x4 x5 false)) else (a0d.j1 k x0 x1 x2 x3 x4 x5 false))) else (a0d.j1 k x0 x1 x2 x3 x4 x5 false)))) else (a0d.j1 k x0 x1 x2 x3 x4 x5 false))))
def a0d.j1 : Nat → List (S51) → List (S58) → List (S42) → Int → List Int → Int → Bool → Option (Bool)
 | 0,_,_,_,_,_,_,_ => none
 | k + 1,x0,x1,x2,x3,x4,x5,d => (a0v.f k x0 x1 x2 x3 x4).bind fun a => ((a0u.f k x0 x1 x2 x3 x4).bind fun b => (if d = true then ((a1a.f k a.1 b.1).bind fun c => (if c = true then (a0d.j2 k x0 x2 x5 (a.2 == b.2)) else (a0d.j2 k x0 x2 x5 false))) else (a0d.j2 k x0 x2 x5 false)))
def a0d.j2 : Nat → List (S51) → List (S42) → Int → Bool → Option (Bool)
 | 0,_,_,_,_ => none
 | k + 1,x0,x2,x5,d => (a1p.f k x0 x2 x5).bind fun a => ((a0j.f k x0 x2 x5).bind fun b => (if d = true then ((a1s.f k a.1 b.1).bind fun c => (if c = true then (some (a.2 == b.2)) else (some false))) else (some false)))
end
def a0d.f (k : Nat) (l0 : List (S51)) (l1 : List (S58)) (l2 : List (S42)) (a3 : Int) (l4 : List Int) (a5 : Int) : Option (Bool) := (a0i.f k).bind fun a => ((a0r.f k l0 l1).bind fun b => (if b = true then (if (l2.length : Int) > 20 then (a0d.j0 k l0 l1 l2 a3 l4 a5 a true) else (a0d.j0 k l0 l1 l2 a3 l4 a5 a (decide ((l4.length : Int) > 20)))) else (a0d.j0 k l0 l1 l2 a3 l4 a5 a true)))
theorem a0d.a1u : ∀ k,(∀ y0 y1 y2 y3 y4 y5 y6 y7,LeO (a0d.j0 k y0 y1 y2 y3 y4 y5 y6 y7) (a0d.j0 (k + 1) y0 y1 y2 y3 y4 y5 y6 y7)) ∧ (∀ y0 y1 y2 y3 y4 y5 y6,LeO (a0d.j1 k y0 y1 y2 y3 y4 y5 y6) (a0d.j1 (k + 1) y0 y1 y2 y3 y4 y5 y6)) ∧ (∀ y0 y1 y2 y3,LeO (a0d.j2 k y0 y1 y2 y3) (a0d.j2 (k + 1) y0 y1 y2 y3))
 | 0 => ⟨fun _ _ _ _ _ _ _ _ r h => by simp [a0d.j0] at h,fun _ _ _ _ _ _ _ r h => by simp [a0d.j1] at h,fun _ _ _ _ r h => by simp [a0d.j2] at h⟩
 | k + 1 => by
  obtain ⟨a,b,c⟩ := a0d.a1u k
  refine ⟨?_,?_,?_⟩ <;> intros <;> (first | unfold a0d.j0 | unfold a0d.j1 | unfold a0d.j2) <;> with_reducible (repeat' first | apply a | apply b | apply c | apply a0i.mono | apply a1s.mono | apply a0u.mono | apply a0e.mono | apply a0r.mono | apply a1z.mono | apply a1a.mono | apply a0j.mono | apply a0c.mono | apply a0v.mono | apply a1d.mono | apply a2y.mono | apply a1p.mono | apply a3b.mono | apply LeO.refl | apply LeO.none | apply LeO.ite | refine LeO.bind ?_ (fun _ => ?_))
theorem a0d.mono : ∀ a0 a1 a2 a3 a4 a5 k,LeO (a0d.f k a0 a1 a2 a3 a4 a5) (a0d.f (k + 1) a0 a1 a2 a3 a4 a5) := by
 intro a0 a1 a2 a3 a4 a5 k
 obtain ⟨a,b,c⟩ := a0d.a1u k
 unfold a0d.f
 with_reducible (repeat' first | apply a | apply b | apply c | apply a0i.mono | apply a1s.mono | apply a0u.mono | apply a0e.mono | apply a0r.mono | apply a1z.mono | apply a1a.mono | apply a0j.mono | apply a0c.mono | apply a0v.mono | apply a1d.mono | apply a2y.mono | apply a1p.mono | apply a3b.mono | apply LeO.refl | apply LeO.none | apply LeO.ite | refine LeO.bind ?_ (fun _ => ?_))
set_option maxHeartbeats 8000000 in
set_option maxRecDepth 100000 in
theorem a0d.calls (k : Nat) (A0 : Option Addr) (c0 : Nat) (l0 : List (S51)) (A1 : Option Addr) (c1 : Nat) (l1 : List (S58)) (A2 : Option Addr) (c2 : Nat) (l2 : List (S42)) (a3 : Int) (A4 : Option Addr) (c4 : Nat) (l4 : List Int) (a5 : Int) (r : Bool) (w : World) (aW : Kd.C k51 w A0 l0.length l0) (aX : l0.length ≤ c0) (aY : Kd.C k58 w A1 l1.length l1) (aZ : l1.length ≤ c1) (b0 : Kd.C k42 w A2 l2.length l2) (b1 : l2.length ≤ c2) (b2 : Kd.C (Kd.int .i64) w A4 l4.length l4) (b3 : l4.length ≤ c4) (h : a0d.f k l0 l1 l2 a3 l4 a5 = some r) :
  Calls Try.prog 3 #[.slice A0 l0.length c0, .slice A1 l1.length c1, .slice A2 l2.length c2, .int .i64 a3, .slice A4 l4.length c4, .int .i64 a5] w fun e w' => e = .returned (.bool r) ∧ Below w.heap.size w w' := by
 have i := am_ aW
 have j := am_ aX
 clear aW aX
 have p := am_ aY
 have q := am_ aZ
 clear aY aZ
 have G := am_ b0
 have I := am_ b1
 clear b0 b1
 have b4 := am_ b2
 have b5 := am_ b3
 clear b2 b3
 have HB := am_ (Below.refl w.heap.size w)
 have H : ((a0i.f k).bind fun z => ((a0r.f k l0 l1).bind fun am => (if am = true then (if (l2.length : Int) > 20 then (a0d.j0 k l0 l1 l2 a3 l4 a5 z true) else (a0d.j0 k l0 l1 l2 a3 l4 a5 z (decide ((l4.length : Int) > 20)))) else (a0d.j0 k l0 l1 l2 a3 l4 a5 z true)))) = some r := h
 clear h
 replace H := bm_ H
 obtain ⟨z,b6,H⟩ := H
 have A7 := am_ b6
 clear b6
 have aA := am_ H
 clear H
 go_enter Try.func3,Try.ntmps3
 go_upto_region 2 with (first | ((with_reducible refine a0k (f := 10) rfl ?_);refine a1n (some 22) rfl rfl Try.func10 (by kernel_rfl) rfl #[] rfl ql_ ?_;(with_reducible refine (a0i.calls k  z _ A7.out).mono ?_);rintro e w9 ⟨rfl,hb⟩;refine ⟨_,rfl,?_⟩;replace HB := qbs_ hb;(try clear hb);(try clear n);(try clear hk);(try clear hi)))
 (try simp only [Act.put,List.setIfInBounds_toArray,List.set_cons_zero,List.set_cons_succ])
 go_cut [36] (fun bn wc => ∃ (kq : Nat) (U : Bool),bn = .bool U ∧ Aside0 (a0d.j0 kq l0 l1 l2 a3 l4 a5 z U = some r) ∧ Aside0 (kq ≤ k) ∧ Aside0 (Below w.heap.size w wc))
 case first =>
  have H := aA.out
  clear aA
  replace H := bm_ H
  obtain ⟨am,aB,H⟩ := H
  have aC := am_ aB
  clear aB
  by_cases X : am = true
  rotate_left
  ·replace X := be_ X
   subst X
   replace H := qin_ H
   have H' := am_ H
   clear H
   go_wp2_with (first | ((with_reducible refine a0k (f := 11) rfl ?_);refine a1n (some 25) rfl rfl Try.func11 (by kernel_rfl) rfl #[.slice A0 l0.length c0, .slice A1 l1.length c1] rfl ql_ ?_;(with_reducible refine (a0r.calls k _ _ l0 _ _ l1 false _ ?s1 j.out ?s3 q.out aC.out).mono ?_);(case s1 => exact qc_ i);(case s3 => exact qc_ p);rintro e w' ⟨rfl,⟨nd,rfl⟩⟩;refine ⟨_,rfl,?_⟩))
   go_meet
   case rel => exact ⟨_,(true),qs_,H',⟨qo_⟩,⟨qb_⟩⟩
  subst X
  replace H := qip_ H
  by_cases a9 : (l2.length : Int) > 20
  ·rw [if_pos a9] at H
   have u : decide (20 < (l2.length : Int)) = true := decide_eq_true a9
   have W : decide (20 < l2.length) = true := decide_eq_true (by omega)
   clear a9
   (first | rw [u] | (simp only [a3x,a4g];rw [u]) | skip)
   have H' := am_ H
   clear H
   go_wp2_with (first | ((with_reducible refine a0k (f := 11) rfl ?_);refine a1n (some 25) rfl rfl Try.func11 (by kernel_rfl) rfl #[.slice A0 l0.length c0, .slice A1 l1.length c1] rfl ql_ ?_;(with_reducible refine (a0r.calls k _ _ l0 _ _ l1 true _ ?s1 j.out ?s3 q.out aC.out).mono ?_);(case s1 => exact qc_ i);(case s3 => exact qc_ p);rintro e w' ⟨rfl,⟨nd,rfl⟩⟩;refine ⟨_,rfl,?_⟩))
   go_meet
   case rel => exact ⟨_,(true),qs_,H',⟨qo_⟩,⟨qb_⟩⟩
  rw [if_neg a9] at H
  have u : decide (20 < (l2.length : Int)) = false := decide_eq_false a9
  have W : decide (20 < l2.length) = false := decide_eq_false (by omega)
  clear a9
  (first | rw [u] | (simp only [a3x,a4g];rw [u]) | skip)
  have H' := am_ H
  clear H
  go_wp2_with (first | ((with_reducible refine a0k (f := 11) rfl ?_);refine a1n (some 25) rfl rfl Try.func11 (by kernel_rfl) rfl #[.slice A0 l0.length c0, .slice A1 l1.length c1] rfl ql_ ?_;(with_reducible refine (a0r.calls k _ _ l0 _ _ l1 true _ ?s1 j.out ?s3 q.out aC.out).mono ?_);(case s1 => exact qc_ i);(case s3 => exact qc_ p);rintro e w' ⟨rfl,⟨nd,rfl⟩⟩;refine ⟨_,rfl,?_⟩))
  go_meet
  case rel => exact ⟨_,(decide ((l4.length : Int) > 20)),qs_,H',⟨qo_⟩,⟨qb_⟩⟩
 case rest =>
 clear aA
 try clear c1
 try clear c2
 try clear c4
 try clear X
 try clear u
 try clear W
 obtain ⟨kq,U,rfl,HA,T,HB⟩ := hcut
 cases kq with
 | zero => exact absurd HA.out (by simp [a0d.j0])
 | succ c =>
 have H := HA.out
 clear HA
 simp only [a0d.j0] at H
 by_cases aa : U = true
 ·subst aa
  replace H := qip_ H
  obtain rfl := si_ H
  go_wp2
  go_ret
  exact ⟨qx_,qb_⟩
 replace aa := be_ aa
 subst aa
 replace H := qin_ H
 replace H := bm_ H
 obtain ⟨⟨L,B⟩,aD,H⟩ := H
 replace H : ((a1z.f c l0 l1 a3).bind fun ar => (if z = true then ((a3b.f c l0 l1).bind fun l => ((a0c.f c l0 l1).bind fun m => (if (l == m) = true then ((a1a.f c L ar.1).bind fun a0 => (if a0 = true then (if B = ar.2 then ((a1d.f c l0 l1 l2).bind fun M => ((a0e.f c l0 l1 l2).bind fun O => (a0d.j1 c l0 l1 l2 a3 l4 a5 (M == O)))) else (a0d.j1 c l0 l1 l2 a3 l4 a5 false)) else (a0d.j1 c l0 l1 l2 a3 l4 a5 false))) else (a0d.j1 c l0 l1 l2 a3 l4 a5 false)))) else (a0d.j1 c l0 l1 l2 a3 l4 a5 false))) = some r := H
 have bo := am_ aD
 clear aD
 replace H := bm_ H
 obtain ⟨⟨a1,J⟩,aE,H⟩ := H
 replace H : (if z = true then ((a3b.f c l0 l1).bind fun l => ((a0c.f c l0 l1).bind fun m => (if (l == m) = true then ((a1a.f c L a1).bind fun a0 => (if a0 = true then (if B = J then ((a1d.f c l0 l1 l2).bind fun M => ((a0e.f c l0 l1 l2).bind fun O => (a0d.j1 c l0 l1 l2 a3 l4 a5 (M == O)))) else (a0d.j1 c l0 l1 l2 a3 l4 a5 false)) else (a0d.j1 c l0 l1 l2 a3 l4 a5 false))) else (a0d.j1 c l0 l1 l2 a3 l4 a5 false)))) else (a0d.j1 c l0 l1 l2 a3 l4 a5 false)) = some r := H
 have bp := am_ aE
 clear aE
 have an := am_ H
 clear H
 go_upto_region 6 with (first | ((with_reducible refine a0k (f := 12) rfl ?_);refine a1n (some 42) rfl rfl Try.func12 (by kernel_rfl) rfl #[.slice A0 l0.length c0, .slice A1 l1.length c1, .int .i64 a3] rfl ql_ ?_;(with_reducible refine (a2y.calls c _ _ l0 _ _ l1 a3 L B _ ?s1 j.out ?s3 q.out bo.out).mono ?_);(case s1 => exact qc_ i);(case s3 => exact qc_ p);rintro e cd ⟨bv,rfl,d,hb⟩;refine ⟨_,rfl,?_⟩;have a := am_ (Kd.a3d d (a0w qb_));replace HB := qbs_ hb;(try clear hb);(try clear n);(try clear hk);(try clear hi);(try clear d)) | ((with_reducible refine a0k (f := 13) rfl ?_);refine a1n (some 49) rfl rfl Try.func13 (by kernel_rfl) rfl #[.slice A0 l0.length c0, .slice A1 l1.length c1, .int .i64 a3] rfl ql_ ?_;(with_reducible refine (a1z.calls c _ _ l0 _ _ l1 a3 a1 J _ ?s1 j.out ?s3 q.out bp.out).mono ?_);(case s1 => exact qc_ i);(case s3 => exact qc_ p);rintro e ce ⟨bw,rfl,d,hb⟩;refine ⟨_,rfl,?_⟩;have b := am_ (Kd.a3d (Kd.a3z d (Kd.R_lt (qr_ a))) (a0w qb_));replace a := qel_ a d hb;replace HB := qbs_ hb;(try clear hb);(try clear n);(try clear hk);(try clear hi);(try clear d)))
 (try simp only [Act.put,List.setIfInBounds_toArray,List.set_cons_zero,List.set_cons_succ])
 go_cut [13] (fun aF wc => ∃ (kq : Nat) (x : Bool),aF = .bool x ∧ Aside0 (a0d.j1 kq l0 l1 l2 a3 l4 a5 x = some r) ∧ Aside0 (kq ≤ c) ∧ Aside0 (Below w.heap.size w wc))
 case first =>
  have H := an.out
  clear an
  by_cases ab : z = true
  rotate_left
  ·replace ab := be_ ab
   subst ab
   replace H := qin_ H
   have H' := am_ H
   clear H
   go_wp2
   go_meet
   case rel => exact ⟨_,(false),qs_,H',⟨by have := T.out;first | omega | exact Nat.le_refl _⟩,⟨qb_⟩⟩
  subst ab
  replace H := qip_ H
  replace H := bm_ H
  obtain ⟨l,aG,H⟩ := H
  have au := am_ aG
  clear aG
  replace H := bm_ H
  obtain ⟨m,aH,H⟩ := H
  have av := am_ aH
  clear aH
  by_cases D : (l == m) = true
  rotate_left
  ·rw [if_neg D] at H
   have A : (l == m) = false := by simpa using D
   (try (have ad : decide (l = m) = false := by simpa using D))
   (try (have ae : (l == m) = false := by simpa using D))
   (try (have bu : ¬ (l = m) := by simpa using D))
   clear D
   (first | rw [A] | (simp only [a3x,a4g];rw [A]) | skip)
   have H' := am_ H
   clear H
   go_wp2_with (first | (go_at_call 14;(with_reducible refine (a3b.calls c _ _ l0 _ _ l1 l _ ?s1 j.out ?s3 q.out au.out).mono ?_);(case s1 => exact qc_ i);(case s3 => exact qc_ p);rintro e cf ⟨rfl,hb⟩;replace a := qrb_ a hb;replace b := qrb_ b hb;replace HB := qbs_ hb;(try clear hb);(try clear n);(try clear hk);(try clear hi)) | (go_at_call 15;(with_reducible refine (a0c.calls c _ _ l0 _ _ l1 m _ ?s1 j.out ?s3 q.out av.out).mono ?_);(case s1 => exact qc_ i);(case s3 => exact qc_ p);rintro e cg ⟨rfl,hb⟩;replace a := qrb_ a hb;replace b := qrb_ b hb;replace HB := qbs_ hb;(try clear hb);(try clear n);(try clear hk);(try clear hi)))
   go_meet
   case rel => exact ⟨_,(false),qs_,H',⟨by have := T.out;first | omega | exact Nat.le_refl _⟩,⟨qb_⟩⟩
  rw [if_pos D] at H
  have A : (l == m) = true := D
  (try (have ad : decide (l = m) = true := by simpa using D))
  (try (have ae : (l == m) = true := by simpa using D))
  clear D
  (first | rw [A] | (simp only [a3x,a4g];rw [A]) | skip)
  replace H := bm_ H
  obtain ⟨a0,aI,H⟩ := H
  have aJ := am_ aI
  clear aI
  by_cases ac : a0 = true
  rotate_left
  ·replace ac := be_ ac
   subst ac
   replace H := qin_ H
   have H' := am_ H
   clear H
   go_wp2_with (first | (go_at_call 14;(with_reducible refine (a3b.calls c _ _ l0 _ _ l1 l _ ?s1 j.out ?s3 q.out au.out).mono ?_);(case s1 => exact qc_ i);(case s3 => exact qc_ p);rintro e ch ⟨rfl,hb⟩;replace a := qrb_ a hb;replace b := qrb_ b hb;replace HB := qbs_ hb;(try clear hb);(try clear n);(try clear hk);(try clear hi)) | (go_at_call 15;(with_reducible refine (a0c.calls c _ _ l0 _ _ l1 m _ ?s1 j.out ?s3 q.out av.out).mono ?_);(case s1 => exact qc_ i);(case s3 => exact qc_ p);rintro e ci ⟨rfl,hb⟩;replace a := qrb_ a hb;replace b := qrb_ b hb;replace HB := qbs_ hb;(try clear hb);(try clear n);(try clear hk);(try clear hi);obtain ⟨bx,bz,b9⟩ := Kd.a2v a.out;subst b9;obtain ⟨bA,bB,ba⟩ := Kd.a2v b.out;subst ba) | (go_at_call 16;(with_reducible refine (a1a.calls c _ _ L _ _ a1 false _ ?s1 ?s2 ?s3 ?s4 aJ.out).mono ?_);(case s1 => exact qv_ (Kd.a1b a.out).2.2);(case s2 => exact (Kd.a1b a.out).2.1);(case s3 => exact qv_ (Kd.a1b b.out).2.2);(case s4 => exact (Kd.a1b b.out).2.1);rintro e w' ⟨rfl,⟨nd,rfl⟩⟩))
   go_meet
   case rel => exact ⟨_,(false),qs_,H',⟨by have := T.out;first | omega | exact Nat.le_refl _⟩,⟨qb_⟩⟩
  subst ac
  replace H := qip_ H
  by_cases a2 : B = J
  rotate_left
  ·rw [if_neg a2] at H
   have af : (B == J) = false := beq_eq_false_iff_ne.mpr a2
   have ag : (B != J) = true := bne_iff_ne.mpr a2
   have H' := am_ H
   clear H
   go_wp2_with (first | (go_at_call 14;(with_reducible refine (a3b.calls c _ _ l0 _ _ l1 l _ ?s1 j.out ?s3 q.out au.out).mono ?_);(case s1 => exact qc_ i);(case s3 => exact qc_ p);rintro e cj ⟨rfl,hb⟩;replace a := qrb_ a hb;replace b := qrb_ b hb;replace HB := qbs_ hb;(try clear hb);(try clear n);(try clear hk);(try clear hi)) | (go_at_call 15;(with_reducible refine (a0c.calls c _ _ l0 _ _ l1 m _ ?s1 j.out ?s3 q.out av.out).mono ?_);(case s1 => exact qc_ i);(case s3 => exact qc_ p);rintro e ck ⟨rfl,hb⟩;replace a := qrb_ a hb;replace b := qrb_ b hb;replace HB := qbs_ hb;(try clear hb);(try clear n);(try clear hk);(try clear hi);obtain ⟨bC,bD,bb⟩ := Kd.a2v a.out;subst bb;obtain ⟨bE,bF,bc⟩ := Kd.a2v b.out;subst bc) | (go_at_call 16;(with_reducible refine (a1a.calls c _ _ L _ _ a1 true _ ?s1 ?s2 ?s3 ?s4 aJ.out).mono ?_);(case s1 => exact qv_ (Kd.a1b a.out).2.2);(case s2 => exact (Kd.a1b a.out).2.1);(case s3 => exact qv_ (Kd.a1b b.out).2.2);(case s4 => exact (Kd.a1b b.out).2.1);rintro e w' ⟨rfl,⟨nd,rfl⟩⟩))
   go_meet
   case rel => exact ⟨_,(false),qs_,H',⟨by have := T.out;first | omega | exact Nat.le_refl _⟩,⟨qb_⟩⟩
  rw [if_pos a2] at H
  have af : (B == J) = true := beq_iff_eq.mpr a2
  have ag : (B != J) = false := bne_eq_false_iff_eq.mpr a2
  clear a2
  replace H := bm_ H
  obtain ⟨M,aK,H⟩ := H
  have bq := am_ aK
  clear aK
  replace H := bm_ H
  obtain ⟨O,aL,H⟩ := H
  have br := am_ aL
  clear aL
  have H' := am_ H
  clear H
  go_wp2_with (first | (go_at_call 14;(with_reducible refine (a3b.calls c _ _ l0 _ _ l1 l _ ?s1 j.out ?s3 q.out au.out).mono ?_);(case s1 => exact qc_ i);(case s3 => exact qc_ p);rintro e cl ⟨rfl,hb⟩;replace a := qrb_ a hb;replace b := qrb_ b hb;replace HB := qbs_ hb;(try clear hb);(try clear n);(try clear hk);(try clear hi)) | (go_at_call 15;(with_reducible refine (a0c.calls c _ _ l0 _ _ l1 m _ ?s1 j.out ?s3 q.out av.out).mono ?_);(case s1 => exact qc_ i);(case s3 => exact qc_ p);rintro e cm ⟨rfl,hb⟩;replace a := qrb_ a hb;replace b := qrb_ b hb;replace HB := qbs_ hb;(try clear hb);(try clear n);(try clear hk);(try clear hi);obtain ⟨bG,bH,bd⟩ := Kd.a2v a.out;subst bd;obtain ⟨bI,bJ,be⟩ := Kd.a2v b.out;subst be) | (go_at_call 16;(with_reducible refine (a1a.calls c _ _ L _ _ a1 true _ ?s1 ?s2 ?s3 ?s4 aJ.out).mono ?_);(case s1 => exact qv_ (Kd.a1b a.out).2.2);(case s2 => exact (Kd.a1b a.out).2.1);(case s3 => exact qv_ (Kd.a1b b.out).2.2);(case s4 => exact (Kd.a1b b.out).2.1);rintro e w' ⟨rfl,⟨nd,rfl⟩⟩) | (go_at_call 17;(with_reducible refine (a1d.calls c _ _ l0 _ _ l1 _ _ l2 M _ ?s1 j.out ?s3 q.out ?s5 I.out bq.out).mono ?_);(case s1 => repeat (first | exact (Kd.a3a i.out qb_) | (with_reducible refine Kd.a2n ?_ _) | (with_reducible refine Kd.a2o ?_ _) | (with_reducible refine Kd.a2u ?_)));(case s3 => repeat (first | exact (Kd.a3a p.out qb_) | (with_reducible refine Kd.a2n ?_ _) | (with_reducible refine Kd.a2o ?_ _) | (with_reducible refine Kd.a2u ?_)));(case s5 => repeat (first | exact (Kd.a3a G.out qb_) | (with_reducible refine Kd.a2n ?_ _) | (with_reducible refine Kd.a2o ?_ _) | (with_reducible refine Kd.a2u ?_)));rintro e cn ⟨rfl,hb⟩;replace a := qrb_ a hb;replace b := qrb_ b hb;replace HB := qbs_ hb;(try clear hb);(try clear n);(try clear hk);(try clear hi)) | (go_at_call 18;(with_reducible refine (a0e.calls c _ _ l0 _ _ l1 _ _ l2 O _ ?s1 j.out ?s3 q.out ?s5 I.out br.out).mono ?_);(case s1 => exact qc_ i);(case s3 => exact qc_ p);(case s5 => exact qc_ G);rintro e co ⟨rfl,hb⟩;replace a := qrb_ a hb;replace b := qrb_ b hb;replace HB := qbs_ hb;(try clear hb);(try clear n);(try clear hk);(try clear hi)))
  go_meet
  case rel => exact ⟨_,((M == O)),qs_,H',⟨by have := T.out;first | omega | exact Nat.le_refl _⟩,⟨qb_⟩⟩
 case rest =>
 clear an
 try clear c1
 try clear c2
 try clear c4
 try clear X
 try clear u
 try clear W
 try clear aa
 try clear ab
 try clear A
 try clear ad
 try clear ae
 try clear ac
 try clear af
 try clear ag
 obtain ⟨kq,x,rfl,HA,ao,HB⟩ := hcut
 cases kq with
 | zero => exact absurd HA.out (by simp [a0d.j1])
 | succ o =>
 have H := HA.out
 clear HA
 simp only [a0d.j1] at H
 replace H := bm_ H
 obtain ⟨⟨a4,ah⟩,aM,H⟩ := H
 replace H : ((a0u.f o l0 l1 l2 a3 l4).bind fun aw => (if x = true then ((a1a.f o a4 aw.1).bind fun a6 => (if a6 = true then (a0d.j2 o l0 l2 a5 (ah == aw.2)) else (a0d.j2 o l0 l2 a5 false))) else (a0d.j2 o l0 l2 a5 false))) = some r := H
 have bs := am_ aM
 clear aM
 replace H := bm_ H
 obtain ⟨⟨ai,ap⟩,aN,H⟩ := H
 replace H : (if x = true then ((a1a.f o a4 ai).bind fun a6 => (if a6 = true then (a0d.j2 o l0 l2 a5 (ah == ap)) else (a0d.j2 o l0 l2 a5 false))) else (a0d.j2 o l0 l2 a5 false)) = some r := H
 have bt := am_ aN
 clear aN
 have aq := am_ H
 clear H
 go_upto_region 9 with (first | ((with_reducible refine a0k (f := 19) rfl ?_);refine a1n (some 89) rfl rfl Try.func19 (by kernel_rfl) rfl #[.slice A0 l0.length c0, .slice A1 l1.length c1, .slice A2 l2.length c2, .int .i64 a3, .slice A4 l4.length c4] rfl ql_ ?_;(with_reducible refine (a0v.calls o _ _ l0 _ _ l1 _ _ l2 a3 _ _ l4 a4 ah _ ?s1 j.out ?s3 q.out ?s5 I.out ?s7 b5.out bs.out).mono ?_);(case s1 => exact qc_ i);(case s3 => exact qc_ p);(case s5 => exact qc_ G);(case s7 => exact qc_ b4);rintro e cp ⟨bK,rfl,d,hb⟩;refine ⟨_,rfl,?_⟩;have s := am_ (Kd.a3d d (a0w qb_));replace HB := qbs_ hb;(try clear hb);(try clear n);(try clear hk);(try clear hi);(try clear d)) | ((with_reducible refine a0k (f := 20) rfl ?_);refine a1n (some 98) rfl rfl Try.func20 (by kernel_rfl) rfl #[.slice A0 l0.length c0, .slice A1 l1.length c1, .slice A2 l2.length c2, .int .i64 a3, .slice A4 l4.length c4] rfl ql_ ?_;(with_reducible refine (a0u.calls o _ _ l0 _ _ l1 _ _ l2 a3 _ _ l4 ai ap _ ?s1 j.out ?s3 q.out ?s5 I.out ?s7 b5.out bt.out).mono ?_);(case s1 => exact qc_ i);(case s3 => exact qc_ p);(case s5 => exact qc_ G);(case s7 => exact qc_ b4);rintro e cq ⟨bL,rfl,d,hb⟩;refine ⟨_,rfl,?_⟩;have E := am_ (Kd.a3d (Kd.a3z d (Kd.R_lt (qr_ s))) (a0w qb_));replace s := qel_ s d hb;replace HB := qbs_ hb;(try clear hb);(try clear n);(try clear hk);(try clear hi);(try clear d)))
 (try simp only [Act.put,List.setIfInBounds_toArray,List.set_cons_zero,List.set_cons_succ])
 go_cut [13] (fun aF wc => ∃ (kq : Nat) (y : Bool),aF = .bool y ∧ Aside0 (a0d.j2 kq l0 l2 a5 y = some r) ∧ Aside0 (kq ≤ o) ∧ Aside0 (Below w.heap.size w wc))
 case first =>
  have H := aq.out
  clear aq
  by_cases ak : x = true
  rotate_left
  ·replace ak := be_ ak
   subst ak
   replace H := qin_ H
   have H' := am_ H
   clear H
   go_wp2
   go_meet
   case rel => exact ⟨_,(false),qs_,H',⟨by have := T.out;have := ao.out;first | omega | exact Nat.le_refl _⟩,⟨qb_⟩⟩
  subst ak
  replace H := qip_ H
  replace H := bm_ H
  obtain ⟨a6,aO,H⟩ := H
  have b7 := am_ aO
  clear aO
  by_cases al : a6 = true
  ·subst al
   replace H := qip_ H
   have H' := am_ H
   clear H
   obtain ⟨bM,bN,bf⟩ := Kd.a2v s.out
   subst bf
   obtain ⟨bO,bP,bg⟩ := Kd.a2v E.out
   subst bg
   go_wp2_with (first | (go_at_call 16;(with_reducible refine (a1a.calls o _ _ a4 _ _ ai true _ ?s1 ?s2 ?s3 ?s4 b7.out).mono ?_);(case s1 => exact qv_ (Kd.a1b s.out).2.2);(case s2 => exact (Kd.a1b s.out).2.1);(case s3 => exact qv_ (Kd.a1b E.out).2.2);(case s4 => exact (Kd.a1b E.out).2.1);rintro e w' ⟨rfl,⟨nd,rfl⟩⟩))
   go_meet
   case rel => exact ⟨_,((ah == ap)),qs_,H',⟨by have := T.out;have := ao.out;first | omega | exact Nat.le_refl _⟩,⟨qb_⟩⟩
  replace al := be_ al
  subst al
  replace H := qin_ H
  have H' := am_ H
  clear H
  obtain ⟨bQ,bR,bh⟩ := Kd.a2v s.out
  subst bh
  obtain ⟨bS,bT,bi⟩ := Kd.a2v E.out
  subst bi
  go_wp2_with (first | (go_at_call 16;(with_reducible refine (a1a.calls o _ _ a4 _ _ ai false _ ?s1 ?s2 ?s3 ?s4 b7.out).mono ?_);(case s1 => exact qv_ (Kd.a1b s.out).2.2);(case s2 => exact (Kd.a1b s.out).2.1);(case s3 => exact qv_ (Kd.a1b E.out).2.2);(case s4 => exact (Kd.a1b E.out).2.1);rintro e w' ⟨rfl,⟨nd,rfl⟩⟩))
  go_meet
  case rel => exact ⟨_,(false),qs_,H',⟨by have := T.out;have := ao.out;first | omega | exact Nat.le_refl _⟩,⟨qb_⟩⟩
 case rest =>
 clear aq
 try clear c1
 try clear c2
 try clear c4
 try clear X
 try clear u
 try clear W
 try clear aa
 try clear ab
 try clear A
 try clear ad
 try clear ae
 try clear ac
 try clear af
 try clear ag
 try clear ak
 try clear al
 obtain ⟨kq,y,rfl,HA,bU,HB⟩ := hcut
 cases kq with
 | zero => exact absurd HA.out (by simp [a0d.j2])
 | succ t =>
 have H := HA.out
 clear HA
 simp only [a0d.j2] at H
 replace H := bm_ H
 obtain ⟨⟨K,a7⟩,aP,H⟩ := H
 replace H : ((a0j.f t l0 l2 a5).bind fun ax => (if y = true then ((a1s.f t K ax.1).bind fun a8 => (if a8 = true then (some (a7 == ax.2)) else (some false))) else (some false))) = some r := H
 have aQ := am_ aP
 clear aP
 replace H := bm_ H
 obtain ⟨⟨P,aj⟩,aR,H⟩ := H
 replace H : (if y = true then ((a1s.f t K P).bind fun a8 => (if a8 = true then (some (a7 == aj)) else (some false))) else (some false)) = some r := H
 have aS := am_ aR
 clear aR
 by_cases ay : y = true
 rotate_left
 ·replace ay := be_ ay
  subst ay
  replace H := qin_ H
  obtain rfl := si_ H
  go_wp2_with (first | ((with_reducible refine a0k (f := 21) rfl ?_);refine a1n (some 116) rfl rfl Try.func21 (by kernel_rfl) rfl #[.slice A0 l0.length c0, .slice A2 l2.length c2, .int .i64 a5] rfl ql_ ?_;(with_reducible refine (a1p.calls t _ _ l0 _ _ l2 a5 K a7 _ ?s1 j.out ?s3 I.out aQ.out).mono ?_);(case s1 => exact qc_ i);(case s3 => exact qc_ G);rintro e cr ⟨aT,rfl,d,hb⟩;refine ⟨_,rfl,?_⟩;have g := am_ (Kd.a3d d (a0w qb_));replace HB := qbs_ hb;(try clear hb);(try clear n);(try clear hk);(try clear hi);(try clear d)) | ((with_reducible refine a0k (f := 22) rfl ?_);refine a1n (some 123) rfl rfl Try.func22 (by kernel_rfl) rfl #[.slice A0 l0.length c0, .slice A2 l2.length c2, .int .i64 a5] rfl ql_ ?_;(with_reducible refine (a0j.calls t _ _ l0 _ _ l2 a5 P aj _ ?s1 j.out ?s3 I.out aS.out).mono ?_);(case s1 => exact qc_ i);(case s3 => exact qc_ G);rintro e cs ⟨aU,rfl,d,hb⟩;refine ⟨_,rfl,?_⟩;have v := am_ (Kd.a3d (Kd.a3z d (Kd.R_lt (qr_ g))) (a0w qb_));replace g := qel_ g d hb;replace HB := qbs_ hb;(try clear hb);(try clear n);(try clear hk);(try clear hi);(try clear d)))
  go_ret
  exact ⟨qx_,qb_⟩
 subst ay
 replace H := qip_ H
 replace H := bm_ H
 obtain ⟨a8,aV,H⟩ := H
 have b8 := am_ aV
 clear aV
 by_cases az : a8 = true
 ·subst az
  replace H := qip_ H
  obtain rfl := si_ H
  go_wp2_with (first | ((with_reducible refine a0k (f := 21) rfl ?_);refine a1n (some 116) rfl rfl Try.func21 (by kernel_rfl) rfl #[.slice A0 l0.length c0, .slice A2 l2.length c2, .int .i64 a5] rfl ql_ ?_;(with_reducible refine (a1p.calls t _ _ l0 _ _ l2 a5 K a7 _ ?s1 j.out ?s3 I.out aQ.out).mono ?_);(case s1 => exact qc_ i);(case s3 => exact qc_ G);rintro e ct ⟨aT,rfl,d,hb⟩;refine ⟨_,rfl,?_⟩;have g := am_ (Kd.a3d d (a0w qb_));replace HB := qbs_ hb;(try clear hb);(try clear n);(try clear hk);(try clear hi);(try clear d)) | ((with_reducible refine a0k (f := 22) rfl ?_);refine a1n (some 123) rfl rfl Try.func22 (by kernel_rfl) rfl #[.slice A0 l0.length c0, .slice A2 l2.length c2, .int .i64 a5] rfl ql_ ?_;(with_reducible refine (a0j.calls t _ _ l0 _ _ l2 a5 P aj _ ?s1 j.out ?s3 I.out aS.out).mono ?_);(case s1 => exact qc_ i);(case s3 => exact qc_ G);rintro e cu ⟨aU,rfl,d,hb⟩;refine ⟨_,rfl,?_⟩;have v := am_ (Kd.a3d (Kd.a3z d (Kd.R_lt (qr_ g))) (a0w qb_));replace g := qel_ g d hb;replace HB := qbs_ hb;(try clear hb);(try clear n);(try clear hk);(try clear hi);(try clear d);obtain ⟨bV,bW,bj⟩ := Kd.a2v g.out;subst bj;obtain ⟨bX,bY,bk⟩ := Kd.a2v v.out;subst bk) | (go_at_call 23;(with_reducible refine (a1s.calls t _ _ K _ _ P true _ ?s1 ?s2 ?s3 ?s4 b8.out).mono ?_);(case s1 => exact qv_ (Kd.a1b g.out).2.2);(case s2 => exact (Kd.a1b g.out).2.1);(case s3 => exact qv_ (Kd.a1b v.out).2.2);(case s4 => exact (Kd.a1b v.out).2.1);rintro e w' ⟨rfl,⟨nd,rfl⟩⟩))
  go_ret
  exact ⟨qx_,qb_⟩
 replace az := be_ az
 subst az
 replace H := qin_ H
 obtain rfl := si_ H
 go_wp2_with (first | ((with_reducible refine a0k (f := 21) rfl ?_);refine a1n (some 116) rfl rfl Try.func21 (by kernel_rfl) rfl #[.slice A0 l0.length c0, .slice A2 l2.length c2, .int .i64 a5] rfl ql_ ?_;(with_reducible refine (a1p.calls t _ _ l0 _ _ l2 a5 K a7 _ ?s1 j.out ?s3 I.out aQ.out).mono ?_);(case s1 => exact qc_ i);(case s3 => exact qc_ G);rintro e cv ⟨aT,rfl,d,hb⟩;refine ⟨_,rfl,?_⟩;have g := am_ (Kd.a3d d (a0w qb_));replace HB := qbs_ hb;(try clear hb);(try clear n);(try clear hk);(try clear hi);(try clear d)) | ((with_reducible refine a0k (f := 22) rfl ?_);refine a1n (some 123) rfl rfl Try.func22 (by kernel_rfl) rfl #[.slice A0 l0.length c0, .slice A2 l2.length c2, .int .i64 a5] rfl ql_ ?_;(with_reducible refine (a0j.calls t _ _ l0 _ _ l2 a5 P aj _ ?s1 j.out ?s3 I.out aS.out).mono ?_);(case s1 => exact qc_ i);(case s3 => exact qc_ G);rintro e cw ⟨aU,rfl,d,hb⟩;refine ⟨_,rfl,?_⟩;have v := am_ (Kd.a3d (Kd.a3z d (Kd.R_lt (qr_ g))) (a0w qb_));replace g := qel_ g d hb;replace HB := qbs_ hb;(try clear hb);(try clear n);(try clear hk);(try clear hi);(try clear d);obtain ⟨bZ,ca,bl⟩ := Kd.a2v g.out;subst bl;obtain ⟨cb,cc,bm⟩ := Kd.a2v v.out;subst bm) | (go_at_call 23;(with_reducible refine (a1s.calls t _ _ K _ _ P false _ ?s1 ?s2 ?s3 ?s4 b8.out).mono ?_);(case s1 => exact qv_ (Kd.a1b g.out).2.2);(case s2 => exact (Kd.a1b g.out).2.1);(case s3 => exact qv_ (Kd.a1b v.out).2.2);(case s4 => exact (Kd.a1b v.out).2.1);rintro e w' ⟨rfl,⟨nd,rfl⟩⟩))
 go_ret
 exact ⟨qx_,qb_⟩
def a4y.f (k : Nat) (l0 : List (S51)) (l1 : List (S58)) : Option (Bool) := (a0r.f k l0 l1).bind fun a => (if a = true then ((a0c.f k l0 l1).bind fun b => (some b)) else (some false))
theorem a4y.mono : ∀ a0 a1 k,LeO (a4y.f k a0 a1) (a4y.f (k + 1) a0 a1) := by
 intro a0 a1 k
 unfold a4y.f
 with_reducible (repeat' first | apply a0r.mono | apply a0c.mono | apply LeO.refl | apply LeO.none | apply LeO.ite | refine LeO.bind ?_ (fun _ => ?_))
def a7h.f (a0 : Int) : Option (Int) := some (Int.tmod (wrap64 (a0)) 36525)
end Go.Proofs.Ytheibjkjmkanoaa.Px
