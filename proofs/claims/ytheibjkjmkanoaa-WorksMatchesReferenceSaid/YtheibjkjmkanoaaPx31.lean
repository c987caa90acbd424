/- Contracts of Go functions, printed. Conditions: as each theorem states. -/
import Derived.Test.YtheibjkjmkanoaaPx0
import Derived.Test.YtheibjkjmkanoaaPx23
import Derived.Test.YtheibjkjmkanoaaPx28
import Derived.Test.YtheibjkjmkanoaaPx29
import Derived.Test.YtheibjkjmkanoaaPx30
namespace Go.Proofs.Ytheibjkjmkanoaa.Px
open Go.Proofs.Ytheibjkjmkanoaa.Given
open Go.RowKit Go.Proofs.YtheibjkjmkanoaaW.PrintWords Go.Proofs.YtheibjkjmkanoaaW.PrintLast Go.Proofs.YtheibjkjmkanoaaW.PrintMore
attribute [local go_sem] a3r a3s a4b a4c a3f a3g a3t a3u
set_option linter.unusedVariables false
set_option linter.unusedSimpArgs false
mutual
def a0u.j0 : Nat → List (S51) → List (S58) → List (S42) → Int → List Int → Bool → Option ((List (S42)) × Int)
 | 0,_,_,_,_,_,_ => none
 | k + 1,x0,x1,x2,x3,x4,a => if a = true then (some (([] : List (S42)),1)) else (a0u.l0 k x0 x1 x2 x3 x4 0)
def a0u.l0 : Nat → List (S51) → List (S58) → List (S42) → Int → List Int → Int → Option ((List (S42)) × Int)
 | 0,_,_,_,_,_,_ => none
 | k + 1,x0,x1,x2,x3,x4,a => if a < (x4.length : Int) then (if 0 ≤ a then ((a1f.f k x0 (x0.length : Int) (rd x4 a)).bind fun c => (if c < 0 then (some (([] : List (S42)),1)) else (a0u.l0 k x0 x1 x2 x3 x4 (wrap64 (a + 1))))) else (none)) else ((a0q.f k x0 x2 x3 x4).bind fun d => ((a0y.f k x0 x1 x3 d).bind fun b => (some (b.1,b.2))))
end
def a0u.f (k : Nat) (l0 : List (S51)) (l1 : List (S58)) (l2 : List (S42)) (a3 : Int) (l4 : List Int) : Option ((List (S42)) × Int) := (a0e.f k l0 l1 l2).bind fun a => ((a0n.f k l4 1 1000).bind fun b => (if a = 0 then (if a3 < 0 then (a0u.j0 k l0 l1 l2 a3 l4 true) else (if a3 > 36524 then (a0u.j0 k l0 l1 l2 a3 l4 true) else (a0u.j0 k l0 l1 l2 a3 l4 (!b)))) else (a0u.j0 k l0 l1 l2 a3 l4 true)))
theorem a0u.a1u : ∀ k,(∀ y0 y1 y2 y3 y4 y5,LeO (a0u.j0 k y0 y1 y2 y3 y4 y5) (a0u.j0 (k + 1) y0 y1 y2 y3 y4 y5)) ∧ (∀ y0 y1 y2 y3 y4 y5,LeO (a0u.l0 k y0 y1 y2 y3 y4 y5) (a0u.l0 (k + 1) y0 y1 y2 y3 y4 y5))
 | 0 => ⟨fun _ _ _ _ _ _ r h => by simp [a0u.j0] at h,fun _ _ _ _ _ _ r h => by simp [a0u.l0] at h⟩
 | k + 1 => by
  obtain ⟨a,b⟩ := a0u.a1u k
  refine ⟨?_,?_⟩ <;> intros <;> (first | unfold a0u.j0 | unfold a0u.l0) <;> with_reducible (repeat' first | apply a | apply b | apply a0e.mono | apply a1f.mono | apply a0q.mono | apply a0y.mono | apply a0n.mono | apply LeO.refl | apply LeO.none | apply LeO.ite | refine LeO.bind ?_ (fun _ => ?_))
theorem a0u.mono : ∀ a0 a1 a2 a3 a4 k,LeO (a0u.f k a0 a1 a2 a3 a4) (a0u.f (k + 1) a0 a1 a2 a3 a4) := by
 intro a0 a1 a2 a3 a4 k
 obtain ⟨a,b⟩ := a0u.a1u k
 unfold a0u.f
 with_reducible (repeat' first | apply a | apply b | apply a0e.mono | apply a1f.mono | apply a0q.mono | apply a0y.mono | apply a0n.mono | apply LeO.refl | apply LeO.none | apply LeO.ite | refine LeO.bind ?_ (fun _ => ?_))
set_option maxHeartbeats 8000000 in
set_option maxRecDepth 100000 in
theorem a0u.calls (k : Nat) (A0 : Option Addr) (c0 : Nat) (l0 : List (S51)) (A1 : Option Addr) (c1 : Nat) (l1 : List (S58)) (A2 : Option Addr) (c2 : Nat) (l2 : List (S42)) (a3 : Int) (A4 : Option Addr) (c4 : Nat) (l4 : List Int) (r1 : List (S42)) (r2 : Int) (w : World) (U : Kd.C k51 w A0 l0.length l0) (W : l0.length ≤ c0) (X : Kd.C k58 w A1 l1.length l1) (a0 : l1.length ≤ c1) (a1 : Kd.C k42 w A2 l2.length l2) (a2 : l2.length ≤ c2) (a4 : Kd.C (Kd.int .i64) w A4 l4.length l4) (a5 : l4.length ≤ c4) (h : a0u.f k l0 l1 l2 a3 l4 = some (r1,r2)) :
  Calls Try.prog 20 #[.slice A0 l0.length c0, .slice A1 l1.length c1, .slice A2 l2.length c2, .int .i64 a3, .slice A4 l4.length c4] w fun e w' => ∃ a6 : Value,e = .returned (.tuple #[a6, .int .i64 r2]) ∧ Kd.R k42 42 w' w.heap.size (fun _ => True) a6 r1 ∧ Below w.heap.size w w' := by
 have x := am_ U
 have y := am_ W
 clear U W
 have a7 := am_ X
 have a8 := am_ a0
 clear X a0
 have a9 := am_ a1
 have aa := am_ a2
 clear a1 a2
 have D := am_ a4
 have ab := am_ a5
 clear a4 a5
 have HB := am_ (Below.refl w.heap.size w)
 have H : ((a0e.f k l0 l1 l2).bind fun d => ((a0n.f k l4 1 1000).bind fun s => (if d = 0 then (if a3 < 0 then (a0u.j0 k l0 l1 l2 a3 l4 true) else (if a3 > 36524 then (a0u.j0 k l0 l1 l2 a3 l4 true) else (a0u.j0 k l0 l1 l2 a3 l4 (!s)))) else (a0u.j0 k l0 l1 l2 a3 l4 true)))) = some (r1,r2) := h
 clear h
 replace H := bm_ H
 obtain ⟨d,ac,H⟩ := H
 have A6 := am_ ac
 clear ac
 replace H := bm_ H
 obtain ⟨s,ad,H⟩ := H
 have A7 := am_ ad
 clear ad
 have E := am_ H
 clear H
 go_enter Try.func20,Try.ntmps20
 go_upto_region 3 with (first | ((with_reducible refine a0k (f := 18) rfl ?_);refine a1n (some 20) rfl rfl Try.func18 (by kernel_rfl) rfl #[.slice A0 l0.length c0, .slice A1 l1.length c1, .slice A2 l2.length c2] rfl ql_ ?_;(with_reducible refine (a0e.calls k _ _ l0 _ _ l1 _ _ l2 d _ ?s1 y.out ?s3 a8.out ?s5 aa.out A6.out).mono ?_);(case s1 => repeat (first | exact x.out | (with_reducible refine Kd.a2n ?_ _) | (with_reducible refine Kd.a2o ?_ _) | (with_reducible refine Kd.a2u ?_)));(case s3 => repeat (first | exact a7.out | (with_reducible refine Kd.a2n ?_ _) | (with_reducible refine Kd.a2o ?_ _) | (with_reducible refine Kd.a2u ?_)));(case s5 => repeat (first | exact a9.out | (with_reducible refine Kd.a2n ?_ _) | (with_reducible refine Kd.a2o ?_ _) | (with_reducible refine Kd.a2u ?_)));rintro e w9 ⟨rfl,hb⟩;refine ⟨_,rfl,?_⟩;replace HB := qbs_ hb;(try clear hb);(try clear ae);(try clear hk);(try clear hi)) | ((with_reducible refine a0k (f := 35) rfl ?_);refine a1n (some 22) rfl rfl Try.func35 (by kernel_rfl) rfl #[.slice A4 l4.length c4, .int .i64 1, .int .i64 1000] rfl ql_ ?_;(with_reducible refine (a0n.calls k _ _ l4 1 1000 s _ ?s1 ab.out A7.out).mono ?_);(case s1 => exact qc_ D);rintro e w' ⟨rfl,⟨nd,rfl⟩⟩;refine ⟨_,rfl,?_⟩))
 (try simp only [Act.put,List.setIfInBounds_toArray,List.set_cons_zero,List.set_cons_succ])
 go_cut [36] (fun am wc => ∃ (kq : Nat) (l : Bool),am = .bool l ∧ Aside0 (a0u.j0 kq l0 l1 l2 a3 l4 l = some (r1,r2)) ∧ Aside0 (kq ≤ k) ∧ Aside0 (Below w.heap.size w wc))
 case first =>
  have H := E.out
  clear E
  by_cases c10 : d = 0
  rotate_left
  ·rw [if_neg c10] at H
   have c : (d == 0) = false := beq_eq_false_iff_ne.mpr c10
   have t : (d != 0) = true := bne_iff_ne.mpr c10
   (first | rw [c] | (simp only [a3x,a4g];rw [c]) | skip)
   have H' := am_ H
   clear H
   go_wp2
   go_meet
   case rel => exact ⟨_,(true),qs_,H',⟨qo_⟩,⟨qb_⟩⟩
  rw [if_pos c10] at H
  have c : (d == 0) = true := beq_iff_eq.mpr c10
  have t : (d != 0) = false := bne_eq_false_iff_eq.mpr c10
  clear c10
  (first | rw [c] | (simp only [a3x,a4g];rw [c]) | skip)
  by_cases n : a3 < 0
  ·rw [if_pos n] at H
   have u : decide (a3 < 0) = true := decide_eq_true n
   clear n
   have H' := am_ H
   clear H
   go_wp2
   go_meet
   case rel => exact ⟨_,(true),qs_,H',⟨qo_⟩,⟨qb_⟩⟩
  rw [if_neg n] at H
  have u : decide (a3 < 0) = false := decide_eq_false n
  clear n
  by_cases o : a3 > 36524
  rotate_left
  ·rw [if_neg o] at H
   have v : decide (36524 < a3) = false := decide_eq_false o
   clear o
   have H' := am_ H
   clear H
   go_wp2
   go_meet
   case rel => exact ⟨_,(!s),qs_,H',⟨qo_⟩,⟨qb_⟩⟩
  rw [if_pos o] at H
  have v : decide (36524 < a3) = true := decide_eq_true o
  clear o
  have H' := am_ H
  clear H
  go_wp2
  go_meet
  case rel => exact ⟨_,(true),qs_,H',⟨qo_⟩,⟨qb_⟩⟩
 case rest =>
 clear E
 try clear c1
 try clear c2
 try clear c4
 try clear c
 try clear t
 try clear u
 try clear v
 obtain ⟨kq,l,rfl,HA,af,HB⟩ := hcut
 cases kq with
 | zero => exact absurd HA.out (by simp [a0u.j0])
 | succ ag =>
 have H := HA.out
 clear HA
 simp only [a0u.j0] at H
 by_cases z : l = true
 ·subst z
  replace H := qip_ H
  simp only [Option.some.injEq,Prod.mk.injEq] at H
  obtain ⟨rfl,rfl⟩ := H
  go_wp2
  go_ret2
  exact ⟨_,qx_,by first | exact Kd.a5p _ _ _ _ _ | exact Kd.N_nil _ _ _ _ _ | exact Kd.a5r _ _ _ _ _ | exact Kd.Q_nil _ _ _ _ _ | exact Kd.S_nil _ _ _ _ _,qb_⟩
 replace z := be_ z
 subst z
 replace H := qin_ H
 have H' := am_ H
 clear H
 go_wp2
 go_loopg [14] ag (fun kq an w' => ∃ (a : Int),an = .int .i64 a ∧ Aside0 (a0u.l0 kq l0 l1 l2 a3 l4 a = some (r1,r2)) ∧ Aside0 (kq ≤ ag) ∧ Aside0 (Below w.heap.size w w'))
 case atStart => exact ⟨(0),qs_,H',⟨Nat.le_refl _⟩,⟨qb_⟩⟩
 case round =>
 clear H'
 try clear c1
 try clear c2
 try clear c4
 try clear c
 try clear t
 try clear u
 try clear v
 try clear z
 obtain ⟨a,rfl,HA,ah,HB⟩ := hrel
 cases gk with
 | zero => exact absurd HA.out (by simp [a0u.l0])
 | succ k2 =>
 have H := HA.out
 clear HA
 simp only [a0u.l0] at H
 by_cases p : a < (l4.length : Int)
 rotate_left
 ·rw [if_neg p] at H
  have M : decide (a < (l4.length : Int)) = false := decide_eq_false p
  clear p
  replace H := bm_ H
  obtain ⟨A,G,H⟩ := H
  have ao := am_ G
  clear G
  replace H := bm_ H
  obtain ⟨⟨I,J⟩,K,H⟩ := H
  replace H : (some (I,J)) = some (r1,r2) := H
  have ap := am_ K
  clear K
  simp only [Option.some.injEq,Prod.mk.injEq] at H
  obtain ⟨rfl,rfl⟩ := H
  go_wp2_with (first | ((with_reducible refine a0k (f := 26) rfl ?_);refine a1n (some 60) rfl rfl Try.func26 (by kernel_rfl) rfl #[.slice A0 l0.length c0, .slice A2 l2.length c2, .int .i64 a3, .slice A4 l4.length c4] rfl ql_ ?_;(with_reducible refine (a0q.calls k2 _ _ l0 _ _ l2 a3 _ _ l4 A _ ?s1 y.out ?s3 aa.out ?s5 ab.out ao.out).mono ?_);(case s1 => exact qc_ x);(case s3 => exact qc_ a9);(case s5 => exact qc_ D);rintro e av ⟨ar,rfl,q,hb⟩;refine ⟨_,rfl,?_⟩;have g := am_ (Kd.a3d q (a0w qb_));replace HB := qbs_ hb;(try clear hb);(try clear ae);(try clear hk);(try clear hi);(try clear q);obtain ⟨aj,ak,al⟩ := Kd.a2v g.out;subst al) | ((with_reducible refine a0k (f := 32) rfl ?_);refine a1n (some 61) rfl rfl Try.func32 (by kernel_rfl) rfl #[.slice A0 l0.length c0, .slice A1 l1.length c1, .int .i64 a3, .slice aj A.length ak] rfl ql_ ?_;(with_reducible refine (a0y.calls k2 _ _ l0 _ _ l1 a3 _ _ A I J _ ?s1 y.out ?s3 a8.out ?s5 ?s6 ap.out).mono ?_);(case s1 => exact qc_ x);(case s3 => exact qc_ a7);(case s5 => exact qv_ (Kd.a1b g.out).2.2);(case s6 => exact (Kd.a1b g.out).2.1);rintro e aw ⟨au,rfl,q,hb⟩;refine ⟨_,rfl,?_⟩;have O := am_ (Kd.a3d (Kd.a3z q (Kd.R_lt (qr_ g))) (a0w qb_));replace g := qel_ g q hb;replace HB := qbs_ hb;(try clear hb);(try clear ae);(try clear hk);(try clear hi);(try clear q)))
  go_ret2
  exact ⟨_,qx_,by (with_reducible repeat (first | apply Kd.a2a | apply Kd.a2b | apply Kd.a2f));exact Kd.a2h O.out (fun _ hk => trivial),qb_⟩
 rw [if_pos p] at H
 have M : decide (a < (l4.length : Int)) = true := decide_eq_true p
 clear p
 obtain ⟨aq,H⟩ := qid_ H
 replace H := bm_ H
 obtain ⟨m,L,H⟩ := H
 have ai := am_ L
 clear L
 by_cases r : m < 0
 rotate_left
 ·rw [if_neg r] at H
  have P : decide (m < 0) = false := decide_eq_false r
  clear r
  have H' := am_ H
  clear H
  have i : 0 ≤ (a : Int) := ot_
  have j : a < (l4.length : Int) := ot_
  obtain ⟨T,B,b⟩ := Kd.a4h D.out a i j
  cases B
  replace b := qh_ HB b
  replace i := eq_true i
  replace j := eq_true j
  go_wp2_with (first | ((with_reducible refine a0k (f := 36) rfl ?_);refine a1n (some 50) rfl rfl Try.func36 (by kernel_rfl) rfl #[.slice A0 l0.length c0, .int .i64 (l0.length : Int), .int .i64 (rd l4 a)] rfl ql_ ?_;(with_reducible refine (a1f.calls k2 _ _ l0 (l0.length : Int) (rd l4 a) m _ ?s1 y.out ai.out).mono ?_);(case s1 => exact qc_ x);rintro e w' ⟨rfl,⟨nd,rfl⟩⟩;refine ⟨_,rfl,?_⟩))
  go_roundg k2
  case measure => have := af.out;have := ah.out;omega
  case rel => exact ⟨(wrap64 (a + 1)),qs_,H',⟨by have := af.out;have := ah.out;omega⟩,⟨qb_⟩⟩
 rw [if_pos r] at H
 have P : decide (m < 0) = true := decide_eq_true r
 clear r
 simp only [Option.some.injEq,Prod.mk.injEq] at H
 obtain ⟨rfl,rfl⟩ := H
 have i : 0 ≤ (a : Int) := ot_
 have j : a < (l4.length : Int) := ot_
 obtain ⟨T,B,b⟩ := Kd.a4h D.out a i j
 cases B
 replace b := qh_ HB b
 replace i := eq_true i
 replace j := eq_true j
 go_wp2_with (first | ((with_reducible refine a0k (f := 36) rfl ?_);refine a1n (some 50) rfl rfl Try.func36 (by kernel_rfl) rfl #[.slice A0 l0.length c0, .int .i64 (l0.length : Int), .int .i64 (rd l4 a)] rfl ql_ ?_;(with_reducible refine (a1f.calls k2 _ _ l0 (l0.length : Int) (rd l4 a) m _ ?s1 y.out ai.out).mono ?_);(case s1 => exact qc_ x);rintro e w' ⟨rfl,⟨nd,rfl⟩⟩;refine ⟨_,rfl,?_⟩))
 go_ret2
 exact ⟨_,qx_,by first | exact Kd.a5p _ _ _ _ _ | exact Kd.N_nil _ _ _ _ _ | exact Kd.a5r _ _ _ _ _ | exact Kd.Q_nil _ _ _ _ _ | exact Kd.S_nil _ _ _ _ _,qb_⟩
mutual
def a1h.l0 : Nat → List (S56) → List Bool → Int → Option (List Bool)
 | 0,_,_,_ => none
 | k + 1,x0,x3,x4 => if x4 < (x0.length : Int) then (if 0 ≤ x4 then (a1h.l1 k x0 x3 x4 ((a0f x0 x4).f0)) else (none)) else (some x3)
def a1h.l1 : Nat → List (S56) → List Bool → Int → Int → Option (List Bool)
 | 0,_,_,_,_ => none
 | k + 1,x0,x3,x4,x5 => if 0 ≤ x4 then (if x4 < (x0.length : Int) then (if x5 < ((a0f x0 x4).f1) then (if 0 ≤ x5 then (if x5 < (x3.length : Int) then (a1h.l1 k x0 (x3.set (x5 : Int).toNat true) x4 (wrap64 (x5 + 1))) else (none)) else (none)) else (a1h.l0 k x0 x3 (wrap64 (x4 + 1)))) else (none)) else (none)
end
def a1h.f (k : Nat) (l0 : List (S56)) : Option (List Bool) := if 36525 ≤ 281474976710656 then (a1h.l0 k l0 (List.replicate 36525 false) 0) else (none)
theorem a1h.a1u : ∀ k,(∀ y0 y1 y2,LeO (a1h.l0 k y0 y1 y2) (a1h.l0 (k + 1) y0 y1 y2)) ∧ (∀ y0 y1 y2 y3,LeO (a1h.l1 k y0 y1 y2 y3) (a1h.l1 (k + 1) y0 y1 y2 y3))
 | 0 => ⟨fun _ _ _ r h => by simp [a1h.l0] at h,fun _ _ _ _ r h => by simp [a1h.l1] at h⟩
 | k + 1 => by
  obtain ⟨a,b⟩ := a1h.a1u k
  refine ⟨?_,?_⟩ <;> intros <;> (first | unfold a1h.l0 | unfold a1h.l1) <;> with_reducible (repeat' first | apply a | apply b | apply LeO.refl | apply LeO.none | apply LeO.ite | refine LeO.bind ?_ (fun _ => ?_))
theorem a1h.mono : ∀ a0 k,LeO (a1h.f k a0) (a1h.f (k + 1) a0) := by
 intro a0 k
 obtain ⟨a,b⟩ := a1h.a1u k
 unfold a1h.f
 with_reducible (repeat' first | apply a | apply b | apply LeO.refl | apply LeO.none | apply LeO.ite | refine LeO.bind ?_ (fun _ => ?_))
set_option maxHeartbeats 8000000 in
set_option maxRecDepth 100000 in
theorem a1h.calls (k : Nat) (A0 : Option Addr) (c0 : Nat) (l0 : List (S56)) (r : List Bool) (w : World) (a6 : Kd.C k56 w A0 l0.length l0) (a7 : l0.length ≤ c0) (h : a1h.f k l0 = some r) :
  Calls Try.prog 74 #[.slice A0 l0.length c0] w fun e w' => ∃ a8 : Value,e = .returned (a8) ∧ Kd.R Kd.bool 4 w' w.heap.size (fun _ => True) a8 r ∧ Below w.heap.size w w' := by
 have L := am_ a6
 have an := am_ a7
 clear a6 a7
 have HB := am_ (Below.refl w.heap.size w)
 have H : (if 36525 ≤ 281474976710656 then (a1h.l0 k l0 (List.replicate 36525 false) 0) else (none)) = some r := h
 clear h
 by_cases c2 : 36525 ≤ 281474976710656
 rotate_left
 ·rw [if_neg c2] at H
  exact absurd H (by simp)
 rw [if_pos c2] at H
 have M := eq_true c2
 have O : decide (36525 ≤ 281474976710656) = true := decide_eq_true c2
 clear c2
 obtain ⟨P,l⟩ : ∃ y_ : List Bool,y_ = (List.replicate 36525 false) := ⟨_,rfl⟩
 replace H : (a1h.l0 k l0 P 0) = some r := by first | (rw [l];with_reducible exact H) | (have q := (Option.bind_some _ _).symm.trans H;rw [l];with_reducible exact q) | (have q := (Option.bind_some _ _).symm.trans H;with_reducible exact q) | with_reducible exact H | (rw [l];exact H) | exact H
 have G := am_ l
 clear l
 have H' := am_ H
 clear H
 go_enter Try.func74,Try.ntmps74
 go_wp2_with (first | ((with_reducible refine a0s (N := 6) rfl ?_);refine Kd.b1e Kd.bool _ 4 rfl (N := 6) rfl 102 _ _ rfl 36525 rfl rfl Try.underlying102 (.bool false) 1 c4k rfl (by decide) (by omega) false (ok := fun _ => True) (okp := fun _ => True) rfl (fun _ hk => hk) trivial (by omega) (by omega) (Below.refl _ _) (Nat.le_refl _) ?_;intro T w3 z hb hg_ hnew_;clear hg_ hnew_;(first | rw [← G.out] at z | (simp only [Int.reduceToNat] at z;rw [← G.out] at z));have a4 := am_ (Kd.a3d z (a0w qb_));replace HB := qbs_ hb;clear hb z))
 go_loopg [4] k (fun kq v4 w' => ∃ (s : List Bool) (a : Int),v4 = .int .i64 a ∧ Aside0 (a1h.l0 kq l0 s a = some r) ∧ Aside0 (kq ≤ k) ∧ Aside0 (Kd.R Kd.bool 4 w' w.heap.size (fun _ => True) T s) ∧ Aside0 (Below w.heap.size w w'))
 case atStart => exact ⟨(P),(0),qs_,H',⟨Nat.le_refl _⟩,⟨by (with_reducible repeat (first | apply Kd.a2a | apply Kd.a2b | apply Kd.a2f));exact a4.out⟩,⟨qb_⟩⟩
 case round =>
 clear H'
 try clear M
 try clear O
 obtain ⟨s,a,rfl,HA,I,HO_3,HB⟩ := hrel
 cases gk with
 | zero => exact absurd HA.out (by simp [a1h.l0])
 | succ k1 =>
 have H := HA.out
 clear HA
 simp only [a1h.l0] at H
 by_cases c5 : a < (l0.length : Int)
 rotate_left
 ·rw [if_neg c5] at H
  have U : decide (a < (l0.length : Int)) = false := decide_eq_false c5
  clear c5
  obtain rfl := si_ H
  go_wp2
  go_ret
  exact ⟨_,qx_,by (with_reducible repeat (first | apply Kd.a2a | apply Kd.a2b | apply Kd.a2f));exact HO_3.out,qb_⟩
 rw [if_pos c5] at H
 have U : decide (a < (l0.length : Int)) = true := decide_eq_true c5
 clear c5
 obtain ⟨a9,H⟩ := qid_ H
 have H' := am_ H
 clear H
 have u : 0 ≤ (a : Int) := ot_
 have x : a < (l0.length : Int) := ot_
 obtain ⟨J,aa,n,o⟩ := a4k L.out a u x
 cases aa
 replace n := qh_ HB n
 replace o := qh_ HB o
 replace u := eq_true u
 replace x := eq_true x
 go_wp2
 go_loopg [5] k1 (fun kq v5 w' => ∃ (g : List Bool) (b : Int),v5 = .int .i64 b ∧ Aside0 (a1h.l1 kq l0 g a b = some r) ∧ Aside0 (kq ≤ k1) ∧ Aside0 (Kd.R Kd.bool 4 w' w.heap.size (fun _ => True) T g) ∧ Aside0 (Below w.heap.size w w'))
 case atStart => exact ⟨(s),((a0f l0 a).f0),qs_,H',⟨Nat.le_refl _⟩,⟨by (with_reducible repeat (first | apply Kd.a2a | apply Kd.a2b | apply Kd.a2f));exact HO_3.out⟩,⟨qb_⟩⟩
 case round =>
 clear H'
 try clear M
 try clear O
 try clear U
 try clear a9
 try clear n
 try clear o
 try clear u
 try clear x
 obtain ⟨g,b,rfl,HA,K,HO_3,HB⟩ := hrel
 cases gk with
 | zero => exact absurd HA.out (by simp [a1h.l1])
 | succ k2 =>
 have H := HA.out
 clear HA
 simp only [a1h.l1] at H
 obtain ⟨aj,H⟩ := qid_ H
 obtain ⟨ak,H⟩ := qid_ H
 by_cases c9 : b < ((a0f l0 a).f1)
 rotate_left
 ·rw [if_neg c9] at H
  have ab : decide (b < ((a0f l0 a).f1)) = false := decide_eq_false c9
  clear c9
  have H' := am_ H
  clear H
  have i : 0 ≤ (a : Int) := ot_
  have j : a < (l0.length : Int) := ot_
  obtain ⟨y,A,c,d⟩ := a4k L.out a i j
  obtain rfl : J = y := (by injection A)
  replace c := qh_ HB c
  replace d := qh_ HB d
  replace i := eq_true i
  replace j := eq_true j
  go_wp2
  go_roundg k2
  case measure => have := I.out;have := K.out;omega
  case rel => exact ⟨(g),(wrap64 (a + 1)),qs_,H',⟨by have := I.out;have := K.out;omega⟩,⟨by (with_reducible repeat (first | apply Kd.a2a | apply Kd.a2b | apply Kd.a2f));exact HO_3.out⟩,⟨qb_⟩⟩
 rw [if_pos c9] at H
 have ab : decide (b < ((a0f l0 a).f1)) = true := decide_eq_true c9
 clear c9
 obtain ⟨ah,H⟩ := qid_ H
 obtain ⟨ai,H⟩ := qid_ H
 obtain ⟨B,m⟩ : ∃ y_ : List Bool,y_ = (g.set (b : Int).toNat true) := ⟨_,rfl⟩
 replace H : (a1h.l1 k2 l0 B a (wrap64 (b + 1))) = some r := by first | (rw [m];with_reducible exact H) | (have q := (Option.bind_some _ _).symm.trans H;rw [m];with_reducible exact q) | (have q := (Option.bind_some _ _).symm.trans H;with_reducible exact q) | with_reducible exact H | (rw [m];exact H) | exact H
 have a5 := am_ m
 clear m
 have H' := am_ H
 clear H
 have i : 0 ≤ (a : Int) := ot_
 have j : a < (l0.length : Int) := ot_
 obtain ⟨y,A,c,d⟩ := a4k L.out a i j
 obtain rfl : J = y := (by injection A)
 replace c := qh_ HB c
 replace d := qh_ HB d
 replace i := eq_true i
 replace j := eq_true j
 have W : 0 ≤ (b : Int) := ot_
 have X : (b : Int) < ((g.length : Int) : Int) := ot_
 obtain ⟨D,ac,a0,a1,ad,al,a2⟩ := Kd.a8n HO_3.out (by omega)
 (first | cases a0 | (injection a0 with ea_ en_ ec_;(first | subst ea_ | (injection ea_ with ea_;subst ea_));subst ec_;clear en_))
 have ae := am_ a1
 have am := am_ a2
 clear a1 ad a2
 obtain ⟨af,ag⟩ := Kd.c2d false HO_3.out (b : Int) W X
 replace W := eq_true W
 replace X := eq_true X
 have E := Kd.c3n HO_3.out (b : Int) true
 go_wp2_with (first | ((with_reducible refine a5g (t := 4) (p := 29) rfl ?_);refine a4w (t := 4) (p := 29) (v := ?vo_w14) (w1 := (wr.setCell ⟨D,(b : Int).toNat,none⟩ (.bool true))) ?hg ?ho ?hn ?hr ?_;(case ho => rfl);(case hg => rfl);(case hn => rfl);(case hr => exact qq_);intro a3 hw;have hg : wr.grownBy a3 (some D) := (by rw [hw];exact E.2);have hp_ : Kd.R Kd.bool 4 a3 w.heap.size (fun _ => True) (.slice (some ⟨D,0,none⟩) g.length ac) B := (by rw [hw,a5.out];exact E.1);clear E;replace HO_3 := am_ (hp_);replace HB := am_ ((by rw [hw];exact ls_ (HB.out) ae.out : Below w.heap.size w a3));clear hg hw hp_))
 go_roundg k2
 case measure => have := I.out;have := K.out;omega
 case rel => exact ⟨(B),(wrap64 (b + 1)),qs_,H',⟨by have := I.out;have := K.out;omega⟩,⟨by (with_reducible repeat (first | apply Kd.a2a | apply Kd.a2b | apply Kd.a2f));exact HO_3.out⟩,⟨qb_⟩⟩
end Go.Proofs.Ytheibjkjmkanoaa.Px
