/- Contracts of Go functions, printed. Conditions: as each theorem states. -/
import Derived.Test.YtheibjkjmkanoaaPx0
import Derived.Test.YtheibjkjmkanoaaPx11
import Derived.Test.YtheibjkjmkanoaaPx14
import Derived.Test.YtheibjkjmkanoaaPx20
import Derived.Test.YtheibjkjmkanoaaPx34
namespace Go.Proofs.Ytheibjkjmkanoaa.Px
open Go.Proofs.Ytheibjkjmkanoaa.Given
open Go.RowKit Go.Proofs.YtheibjkjmkanoaaW.PrintWords Go.Proofs.YtheibjkjmkanoaaW.PrintLast Go.Proofs.YtheibjkjmkanoaaW.PrintMore
attribute [local go_sem] a3m a3n a3x a3y a3e a3f a3o a3p
set_option linter.unusedVariables false
set_option linter.unusedSimpArgs false
mutual
def a0d.j0 : Nat → List (S51) → List (S58) → Int → Int → Int → Bool → Bool → Option (Bool)
 | 0,_,_,_,_,_,_,_ => none
 | k + 1,x0,x1,x2,x3,x4,b,e => if e = true then (some b) else ((a2x.f x2).bind fun c => ((a2m.f k x0 x1 c).bind fun a => (if a.2 = 0 then (if (x0.length : Int) = 0 then (none) else (if (a.1.length : Int) = (x0.length : Int) then (if 0 ≤ (Int.tmod (wrap64 (x3)) (x0.length : Int)) then (if (Int.tmod (wrap64 (x3)) (x0.length : Int)) < (a.1.length : Int) then ((a2x.f x2).bind fun d => (a0d.j1 k x0 x1 x2 x4 b a.1 (Int.tmod (wrap64 (x3)) (x0.length : Int)) (decide (((a0b a.1 (Int.tmod (wrap64 (x3)) (x0.length : Int))).f1) < d)))) else (none)) else (none)) else (a0d.j1 k x0 x1 x2 x4 b a.1 (Int.tmod (wrap64 (x3)) (x0.length : Int)) true))) else (some b))))
def a0d.j1 : Nat → List (S51) → List (S58) → Int → Int → Bool → List (S42) → Int → Bool → Option (Bool)
 | 0,_,_,_,_,_,_,_,_ => none
 | k + 1,x0,x1,x2,x4,i,b,a,n => if n = true then (some false) else (if 0 ≤ a then (if a < (b.length : Int) then ((a2x.f x2).bind fun j => (if ((a0b b a).f1) = j then (some i) else ((a2x.f x2).bind fun e => (if (wrap64 (((a0b b a).f1) - e)) = 0 then (none) else ((some (([] : List (S42)) : List (S42))).bind fun g => (if 0 ≤ (wrap64 (a + 1)) then (if (wrap64 (a + 1)) ≤ (b.length : Int) then ((some (b.take ((wrap64 (a + 1)) : Int).toNat : List (S42))).bind fun h => (if g.length + h.length < 5864062014805 then ((some (g ++ h : List (S42))).bind fun c => (if a < (c.length : Int) then ((some (c.set (a : Int).toNat (⟨(a0b c a).f0,wrap64 (((a0b c a).f1) - (wrap64 (1 + (Int.tmod (wrap64 (x4)) (wrap64 (((a0b b a).f1) - e)))))),(a0b c a).f2⟩ : S42) : List (S42))).bind fun d => (if i = true then (if (wrap64 (a + 1)) ≤ (x0.length : Int) then ((a0j.f k (x0.take ((wrap64 (a + 1)) : Int).toNat) x1 (d.set (a : Int).toNat (⟨(a0b d a).f0,(a0b d a).f1,wrap64 (((a0b d a).f2) - (wrap64 (1 + (Int.tmod (wrap64 (x4)) (wrap64 (((a0b b a).f1) - e))))))⟩ : S42))).bind fun l => (if l = 0 then (some false) else ((a0j.f k (x0.take ((wrap64 (a + 1)) : Int).toNat) x1 (b.take ((wrap64 (a + 1)) : Int).toNat)).bind fun m => (some (m == 0))))) else (none)) else (some false))) else (none))) else (none))) else (none)) else (none))))))) else (none)) else (none))
end
def a0d.f (k : Nat) (l0 : List (S51)) (l1 : List (S58)) (a2 a3 a4 : Int) : Option (Bool) := (a0f.f k).bind fun a => ((a3a.f k l0 l1).bind fun b => (if b = true then (a0d.j0 k l0 l1 a2 a3 a4 a ((l0.length : Int) == 0)) else (a0d.j0 k l0 l1 a2 a3 a4 a true)))
theorem a0d.a1h : ∀ k,(∀ y0 y1 y2 y3 y4 y5 y6,LeO (a0d.j0 k y0 y1 y2 y3 y4 y5 y6) (a0d.j0 (k + 1) y0 y1 y2 y3 y4 y5 y6)) ∧ (∀ y0 y1 y2 y3 y4 y5 y6 y7,LeO (a0d.j1 k y0 y1 y2 y3 y4 y5 y6 y7) (a0d.j1 (k + 1) y0 y1 y2 y3 y4 y5 y6 y7))
 | 0 => ⟨fun _ _ _ _ _ _ _ r h => by simp [a0d.j0] at h,fun _ _ _ _ _ _ _ _ r h => by simp [a0d.j1] at h⟩
 | k + 1 => by
  obtain ⟨a,b⟩ := a0d.a1h k
  refine ⟨?_,?_⟩ <;> intros <;> (first | unfold a0d.j0 | unfold a0d.j1) <;> with_reducible (repeat' first | apply a | apply b | apply a0f.mono | apply a3a.mono | apply a0j.mono | apply a2m.mono | apply LeO.refl | apply LeO.none | apply LeO.ite | refine LeO.bind ?_ (fun _ => ?_))
theorem a0d.mono : ∀ a0 a1 a2 a3 a4 k,LeO (a0d.f k a0 a1 a2 a3 a4) (a0d.f (k + 1) a0 a1 a2 a3 a4) := by
 intro a0 a1 a2 a3 a4 k
 obtain ⟨a,b⟩ := a0d.a1h k
 unfold a0d.f
 with_reducible (repeat' first | apply a | apply b | apply a0f.mono | apply a3a.mono | apply a0j.mono | apply a2m.mono | apply LeO.refl | apply LeO.none | apply LeO.ite | refine LeO.bind ?_ (fun _ => ?_))
def a0d.T8 : Bool × List (List Nat × List Nat) := (true,[([],[]),([0],[0]),([],[]),([2],[2]),([1,3],[1,3]),([4],[4]),([5],[5]),([5],[5]),([6,7,5],[5,6,7]),([8,5],[5,8]),([9,5],[5,9]),([5],[5]),([11,5,5],[5,11]),([10,12,5],[5,10,12]),([5,13],[5,13])])
def a0d.B8 : List Nat := [0,1,0,4,15,31,63,63,255,511,1023,63,2111,8191,16383]
theorem a0d.tab8 : rtab .any (opsOf Try.f5 8) = a0d.T8 := by kernel_rfl
theorem a0d.b3x : a5i a0d.T8.2 a0d.B8 = true := by kernel_rfl
def a0d.T10 : Bool × List (List Nat × List Nat) := (true,[([],[]),([],[]),([0,1],[0,1]),([2],[2]),([3],[3]),([],[]),([5],[5]),([4,6],[4,6])])
def a0d.B10 : List Nat := [0,0,3,7,15,0,32,127]
theorem a0d.b3y : rtab .any (opsOf Try.f5 10) = a0d.T10 := by kernel_rfl
theorem a0d.b2c : a5i a0d.T10.2 a0d.B10 = true := by kernel_rfl
def a0d.T12 : Bool × List (List Nat × List Nat) := (true,[([],[]),([0],[0]),([],[]),([],[]),([2,3],[2,3]),([4],[4]),([5],[5]),([],[]),([7],[7]),([6,8],[6,8]),([1,9],[1,9]),([10],[10]),([11,8,0,1,2,3,4,5,6,7,8,9,10,11],[11])])
def a0d.B12 : List Nat := [0,1,0,0,12,28,60,0,128,508,1023,2047,4095]
theorem a0d.b6x : rtab .any (opsOf Try.f5 12) = a0d.T12 := by kernel_rfl
theorem a0d.b4q : a5i a0d.T12.2 a0d.B12 = true := by kernel_rfl
def a0d.T16 : Bool × List (List Nat × List Nat) := (true,[([],[]),([0],[0]),([1],[1]),([1],[1]),([3,1],[1,3]),([2,4,1],[1,2,4]),([1],[1]),([1],[1]),([5,6,7,1,1],[1,5,6,7]),([8,1],[1,8]),([1,9],[1,9]),([10,8],[10]),([11],[11]),([11],[11]),([13,11],[11,13]),([12,14,11],[11,12,14]),([11],[11]),([11],[11]),([11],[11]),([18,11],[11,18]),([17,19,11],[11,17,19]),([15,16,20,11,11],[11,15,16,20]),([21,11],[11,21]),([11,22],[11,22]),([23,21,0,1,2,3,4,5,6,7,8,9,10,11,12,13,14,15,16,17,18,19,20,21,22,23],[23])])
def a0d.B16 : List Nat := [0,1,3,3,11,31,3,3,255,511,1023,2047,4095,4095,12287,32767,4095,4095,4095,266239,921599,2097151,4194303,8388607,16777215]
theorem a0d.b6y : rtab .any (opsOf Try.f5 16) = a0d.T16 := by kernel_rfl
theorem a0d.b4r : a5i a0d.T16.2 a0d.B16 = true := by kernel_rfl
set_option maxHeartbeats 8000000 in
set_option maxRecDepth 100000 in
theorem a0d.calls (k : Nat) (A0 : Option Addr) (c0 : Nat) (l0 : List (S51)) (A1 : Option Addr) (c1 : Nat) (l1 : List (S58)) (a2 a3 a4 : Int) (r : Bool) (w : World) (eS : Kd.C k51 w A0 l0.length l0) (eT : l0.length ≤ c0) (eU : Kd.C k58 w A1 l1.length l1) (eV : l1.length ≤ c1) (h : a0d.f k l0 l1 a2 a3 a4 = some r) :
  Calls Try.prog 5 #[.slice A0 l0.length c0, .slice A1 l1.length c1, .int .u16 a2, .int .u8 a3, .int .u16 a4] w fun e w' => e = .returned (.bool r) ∧ Below w.heap.size w w' := by
 have bw := am_ eS
 have bx := am_ eT
 clear eS eT
 have bz := am_ eU
 have bA := am_ eV
 clear eU eV
 have HB := am_ (Below.refl w.heap.size w)
 have H : ((a0f.f k).bind fun W => ((a3a.f k l0 l1).bind fun cz => (if cz = true then (a0d.j0 k l0 l1 a2 a3 a4 W ((l0.length : Int) == 0)) else (a0d.j0 k l0 l1 a2 a3 a4 W true)))) = some r := h
 clear h
 replace H := bm_ H
 obtain ⟨W,eW,H⟩ := H
 have A6 := am_ eW
 clear eW
 have dv := am_ H
 clear H
 go_enter Try.func5,Try.ntmps5
 go_upto_region 2 with (first | ((with_reducible refine a0r (f := 10) rfl ?_);refine a2a (some 17) rfl rfl Try.func10 (by kernel_rfl) rfl #[] rfl ql_ ?_;(with_reducible refine (a0f.calls k  W _ A6.out).mono ?_);rintro e w8 ⟨rfl,hb⟩;refine ⟨_,rfl,?_⟩;replace HB := qbs_ hb;(try clear hb);(try clear bB);(try clear hk);(try clear hi)))
 (try simp only [Act.put,List.setIfInBounds_toArray,List.set_cons_zero,List.set_cons_succ])
 go_cut [26] (fun fa wc => ∃ (kq : Nat) (bu : Bool),fa = .bool bu ∧ Aside0 (a0d.j0 kq l0 l1 a2 a3 a4 W bu = some r) ∧ Aside0 (kq ≤ k) ∧ Aside0 (Below w.heap.size w wc))
 case first =>
  have H := dv.out
  clear dv
  replace H := bm_ H
  obtain ⟨cz,eX,H⟩ := H
  have A9 := am_ eX
  clear eX
  by_cases c10 : cz = true
  ·subst c10
   replace H := qip_ H
   have H' := am_ H
   clear H
   go_wp2_with (first | ((with_reducible refine a0r (f := 24) rfl ?_);refine a2a (some 20) rfl rfl Try.func24 (by kernel_rfl) rfl #[.slice A0 l0.length c0, .slice A1 l1.length c1] rfl ql_ ?_;(with_reducible refine (a3a.calls k _ _ l0 _ _ l1 true _ ?s1 bx.out ?s3 bA.out A9.out).mono ?_);(case s1 => exact qc_ bw);(case s3 => exact qc_ bz);rintro e g4 ⟨rfl,hb⟩;refine ⟨_,rfl,?_⟩;replace HB := qbs_ hb;(try clear hb);(try clear bB);(try clear hk);(try clear hi)))
   go_meet
   case rel => exact ⟨_,(((l0.length : Int) == 0)),qs_,H',⟨qo_⟩,⟨qb_⟩⟩
  replace c10 := be_ c10
  subst c10
  replace H := qin_ H
  have H' := am_ H
  clear H
  go_wp2_with (first | ((with_reducible refine a0r (f := 24) rfl ?_);refine a2a (some 20) rfl rfl Try.func24 (by kernel_rfl) rfl #[.slice A0 l0.length c0, .slice A1 l1.length c1] rfl ql_ ?_;(with_reducible refine (a3a.calls k _ _ l0 _ _ l1 false _ ?s1 bx.out ?s3 bA.out A9.out).mono ?_);(case s1 => exact qc_ bw);(case s3 => exact qc_ bz);rintro e g5 ⟨rfl,hb⟩;refine ⟨_,rfl,?_⟩;replace HB := qbs_ hb;(try clear hb);(try clear bB);(try clear hk);(try clear hi)))
  go_meet
  case rel => exact ⟨_,(true),qs_,H',⟨qo_⟩,⟨qb_⟩⟩
 case rest =>
 clear dv
 try clear c1
 try clear c10
 obtain ⟨kq,bu,rfl,HA,eY,HB⟩ := hcut
 cases kq with
 | zero => exact absurd HA.out (by simp [a0d.j0])
 | succ bM =>
 have H := HA.out
 clear HA
 simp only [a0d.j0] at H
 by_cases cf : bu = true
 ·subst cf
  replace H := qip_ H
  obtain rfl := si_ H
  go_wp2
  go_ret
  exact ⟨qx_,qb_⟩
 replace cf := be_ cf
 subst cf
 replace H := qin_ H
 replace H := bm_ H
 obtain ⟨bl,dw,H⟩ := H
 have eZ := am_ dw
 clear dw
 replace H := bm_ H
 obtain ⟨⟨c,aE⟩,dx,H⟩ := H
 replace H : (if aE = 0 then (if (l0.length : Int) = 0 then (none) else (if (c.length : Int) = (l0.length : Int) then (if 0 ≤ (Int.tmod (wrap64 (a3)) (l0.length : Int)) then (if (Int.tmod (wrap64 (a3)) (l0.length : Int)) < (c.length : Int) then ((a2x.f a2).bind fun bm => (a0d.j1 bM l0 l1 a2 a4 W c (Int.tmod (wrap64 (a3)) (l0.length : Int)) (decide (((a0b c (Int.tmod (wrap64 (a3)) (l0.length : Int))).f1) < bm)))) else (none)) else (none)) else (a0d.j1 bM l0 l1 a2 a4 W c (Int.tmod (wrap64 (a3)) (l0.length : Int)) true))) else (some W)) = some r := H
 have f3 := am_ dx
 clear dx
 by_cases bC : aE = 0
 rotate_left
 ·rw [if_neg bC] at H
  have cY : (aE == 0) = false := beq_eq_false_iff_ne.mpr bC
  have cZ : (aE != 0) = true := bne_iff_ne.mpr bC
  obtain rfl := si_ H
  go_wp2_with (first | ((with_reducible refine a0r (f := 25) rfl ?_);refine a2a (some 32) rfl rfl Try.func25 (by kernel_rfl) rfl #[.int .u16 a2] rfl ql_ ?_;(with_reducible refine (a2x.calls a2 bl _ eZ.out).mono ?_);rintro e w' ⟨rfl,⟨nd,rfl⟩⟩;refine ⟨_,rfl,?_⟩) | ((with_reducible refine a0r (f := 12) rfl ?_);refine a2a (some 33) rfl rfl Try.func12 (by kernel_rfl) rfl #[.slice A0 l0.length c0, .slice A1 l1.length c1, .int .i64 bl] rfl ql_ ?_;(with_reducible refine (a2m.calls bM _ _ l0 _ _ l1 bl c aE _ ?s1 bx.out ?s3 bA.out f3.out).mono ?_);(case s1 => repeat (first | exact (Kd.a2s bw.out qb_) | (with_reducible refine Kd.a1t ?_ _) | (with_reducible refine Kd.a1u ?_ _) | (with_reducible refine Kd.a2h ?_)));(case s3 => repeat (first | exact (Kd.a2s bz.out qb_) | (with_reducible refine Kd.a1t ?_ _) | (with_reducible refine Kd.a1u ?_ _) | (with_reducible refine Kd.a2h ?_)));rintro e fu ⟨dy,rfl,cg,hb⟩;refine ⟨_,rfl,?_⟩;have a1 := am_ (Kd.a4b cg (a0z qb_));replace HB := qbs_ hb;(try clear hb);(try clear bB);(try clear hk);(try clear hi);(try clear cg)))
  go_ret
  exact ⟨qx_,qb_⟩
 rw [if_pos bC] at H
 have cY : (aE == 0) = true := beq_iff_eq.mpr bC
 have cZ : (aE != 0) = false := bne_eq_false_iff_eq.mpr bC
 clear bC
 by_cases bN : (l0.length : Int) = 0
 ·rw [if_pos bN] at H
  exact absurd H (by simp)
 rw [if_neg bN] at H
 have ez : ((l0.length : Int) == 0) = false := beq_eq_false_iff_ne.mpr bN
 have eA : ((l0.length : Int) != 0) = true := bne_iff_ne.mpr bN
 have eB : ¬ (l0 = []) := fun h_ => bN (by rw [h_];rfl)
 have cA := am_ H
 clear H
 go_upto_region 8 with (first | ((with_reducible refine a0r (f := 25) rfl ?_);refine a2a (some 32) rfl rfl Try.func25 (by kernel_rfl) rfl #[.int .u16 a2] rfl ql_ ?_;(with_reducible refine (a2x.calls a2 bl _ eZ.out).mono ?_);rintro e w' ⟨rfl,⟨nd,rfl⟩⟩;refine ⟨_,rfl,?_⟩) | ((with_reducible refine a0r (f := 12) rfl ?_);refine a2a (some 33) rfl rfl Try.func12 (by kernel_rfl) rfl #[.slice A0 l0.length c0, .slice A1 l1.length c1, .int .i64 bl] rfl ql_ ?_;(with_reducible refine (a2m.calls bM _ _ l0 _ _ l1 bl c aE _ ?s1 bx.out ?s3 bA.out f3.out).mono ?_);(case s1 => repeat (first | exact (Kd.a2s bw.out qb_) | (with_reducible refine Kd.a1t ?_ _) | (with_reducible refine Kd.a1u ?_ _) | (with_reducible refine Kd.a2h ?_)));(case s3 => repeat (first | exact (Kd.a2s bz.out qb_) | (with_reducible refine Kd.a1t ?_ _) | (with_reducible refine Kd.a1u ?_ _) | (with_reducible refine Kd.a2h ?_)));rintro e f4 ⟨dy,rfl,cg,hb⟩;refine ⟨_,rfl,?_⟩;have a1 := am_ (Kd.a4b cg (a0z qb_));replace HB := qbs_ hb;(try clear hb);(try clear bB);(try clear hk);(try clear hi);(try clear cg)))
 (try simp only [Act.put,List.setIfInBounds_toArray,List.set_cons_zero,List.set_cons_succ])
 go_cut [58] (fun fb wc => ∃ (kq : Nat) (b4 : Bool),fb = .bool b4 ∧ Aside0 (a0d.j1 kq l0 l1 a2 a4 W c (Int.tmod (wrap64 (a3)) (l0.length : Int)) b4 = some r) ∧ Aside0 (kq ≤ bM) ∧ Aside0 (Kd.R k42 42 wc w.heap.size (fun _ => True) dy c) ∧ Aside0 (Below w.heap.size w wc))
 case first =>
  have H := cA.out
  clear cA
  by_cases aG : (c.length : Int) = (l0.length : Int)
  rotate_left
  ·rw [if_neg aG] at H
   have aW : ((c.length : Int) == (l0.length : Int)) = false := beq_eq_false_iff_ne.mpr aG
   have d0 : ((c.length : Int) != (l0.length : Int)) = true := bne_iff_ne.mpr aG
   have d1 : (c.length == l0.length) = false := by first | simpa using aG | (simp at aG ⊢;omega)
   (first | rw [aW] | (simp only [a4j,a4v];rw [aW]) | skip)
   have H' := am_ H
   clear H
   try go_wp2
   replace a1 := am_ (Kd.a2i a1.out)
   replace HB := am_ (ld_ HB.out)
   obtain ⟨fv,fw,dz⟩ := Kd.a3c a1.out
   (first | subst dz | (injection dz with ag aH ah;have aI := ag.symm;have aJ := ah.symm;clear ag aH ah;subst aI;subst aJ))
   refine a4l (n := 15) (S := fun w' => True) (ds := []) #[I,I,I,I,I,I,I,I,I,I,I,I,I,I,I] (by kernel_rfl) rfl rfl trivial (fun hHeld => ?_);refine a3s a0d.tab8 a0d.b3x (fun HT_ HW_ => ?_)
   generalize f4.drew = g6 at a1 HB hHeld ⊢
   refine qpu_ 0 (some 44) #[U,I,I,I,I,I,I,I,I,I,I,I,I,I,I] ?_
   refine qpu_ 1 (some 45) #[U,U,I,I,I,I,I,I,I,I,I,I,I,I,I] ?_
   refine qpu_ 2 (some 46) #[U,U,U,I,I,I,I,I,I,I,I,I,I,I,I] ?_
   refine qpu_ 3 (some 47) #[U,U,U,U,I,I,I,I,I,I,I,I,I,I,I] ?_
   refine qpu_ 4 (some 48) #[U,U,U,U,U,I,I,I,I,I,I,I,I,I,I] ?_
   refine qpu_ 5 (some 49) #[U,U,U,U,U,U,I,I,I,I,I,I,I,I,I] ?_
   refine qpv_ 6 (some 50) #[U,U,U,U,U,U,U,I,I,I,I,I,I,I,I] ?_
   refine qpv_ 7 (some 51) #[U,U,U,U,U,U,U,U,I,I,I,I,I,I,I] ?_
   refine qpv_ 8 (some 52) #[U,U,U,U,U,U,U,U,U,I,I,I,I,I,I] ?_
   refine qpv_ 9 (some 53) #[U,U,U,U,U,U,U,U,U,U,I,I,I,I,I] ?_
   refine qpv_ 10 (some 54) #[U,U,U,U,U,U,U,U,U,U,U,I,I,I,I] ?_
   refine qpv_ 11 (some 55) #[U,U,U,U,U,U,U,U,U,U,U,U,I,I,I] ?_
   refine qpv_ 12 (some 56) #[U,U,U,U,U,U,U,U,U,U,U,U,U,I,I] ?_
   refine qpv_ 13 (some 57) #[U,U,U,U,U,U,U,U,U,U,U,U,U,U,I] ?_
   refine qpu_ 14 (some 58) #[U,U,U,U,U,U,U,U,U,U,U,U,U,U,U] ?_
   refine a4u (a4c HT_.out (by kernel_rfl)) ?_
   try go_wp2
   go_meet
   case rel => exact ⟨_,(true),qs_,H',⟨by have := eY.out;first | omega | exact Nat.le_refl _⟩,⟨by (with_reducible repeat (first | apply Kd.a2n | apply Kd.a2o | apply Kd.a2i));exact a1.out⟩,⟨qb_⟩⟩
  rw [if_pos aG] at H
  have aW : ((c.length : Int) == (l0.length : Int)) = true := beq_iff_eq.mpr aG
  have d0 : ((c.length : Int) != (l0.length : Int)) = false := bne_eq_false_iff_eq.mpr aG
  have d1 : (c.length == l0.length) = true := by first | simpa using aG | (simp at aG ⊢;omega)
  clear aG
  (first | rw [aW] | (simp only [a4j,a4v];rw [aW]) | skip)
  obtain ⟨a5,bv⟩ : ∃ j_ : Int,(Int.tmod (wrap64 (a3)) (l0.length : Int)) = j_ := ⟨_,rfl⟩
  replace H : (if 0 ≤ (a5) then (if (a5) < (c.length : Int) then ((a2x.f a2).bind fun bm => (a0d.j1 bM l0 l1 a2 a4 W c a5 (decide (((a0b c (a5)).f1) < bm)))) else (none)) else (none)) = some r := by first | (rw [bv] at H;exact H) | (simp only [bv] at H ⊢;exact H)
  obtain ⟨eC,H⟩ := qid_ H
  obtain ⟨eD,H⟩ := qid_ H
  replace H := bm_ H
  obtain ⟨bm,dA,H⟩ := H
  have fc := am_ dA
  clear dA
  have H' := am_ H
  clear H
  try go_wp2
  replace a1 := am_ (Kd.a2i a1.out)
  replace HB := am_ (ld_ HB.out)
  obtain ⟨fx,fy,dB⟩ := Kd.a3c a1.out
  (first | subst dB | (injection dB with ag aH ah;have aI := ag.symm;have aJ := ah.symm;clear ag aH ah;subst aI;subst aJ))
  have bR : 0 ≤ ((a5) : Int) := ot_
  have bS : (a5) < (c.length : Int) := ot_
  obtain ⟨b5,f6,bn,bo,bp⟩ := a4h (Kd.a0s a1.out).2.2 (a5) bR bS
  cases f6
  replace bR := eq_true bR
  replace bS := eq_true bS
  refine a4l (n := 15) (S := fun w' => w'.cell? (b5.add (((a5)).toNat * 3)) = some (.int .i64 ((a0b c (a5)).f0)) ∧ w'.cell? ⟨(b5.add (((a5)).toNat * 3)).block,(b5.add (((a5)).toNat * 3)).off + 1,none⟩ = some (.int .i64 ((a0b c (a5)).f1)) ∧ w'.cell? ⟨(b5.add (((a5)).toNat * 3)).block,(b5.add (((a5)).toNat * 3)).off + 2,none⟩ = some (.int .i64 ((a0b c (a5)).f2))) (ds := []) #[I,I,I,I,I,I,I,I,I,I,I,I,I,I,I] (by kernel_rfl) rfl rfl ⟨bn,bo,bp⟩ (fun hHeld => ?_);refine a3s a0d.tab8 a0d.b3x (fun HT_ HW_ => ?_)
  generalize f4.drew = g7 at a1 HB bn bo bp hHeld ⊢
  refine qpu_ 0 (some 44) #[U,I,I,I,I,I,I,I,I,I,I,I,I,I,I] ?_
  refine qpu_ 1 (some 45) #[U,U,I,I,I,I,I,I,I,I,I,I,I,I,I] ?_
  refine qpu_ 2 (some 46) #[U,U,U,I,I,I,I,I,I,I,I,I,I,I,I] ?_
  refine qpu_ 3 (some 47) #[U,U,U,U,I,I,I,I,I,I,I,I,I,I,I] ?_
  refine qpu_ 4 (some 48) #[U,U,U,U,U,I,I,I,I,I,I,I,I,I,I] ?_
  refine qpu_ 5 (some 49) #[U,U,U,U,U,U,I,I,I,I,I,I,I,I,I] ?_
  refine qpu_ 6 (some 50) #[U,U,U,U,U,U,U,I,I,I,I,I,I,I,I] ?_
  refine qpu_ 7 (some 51) #[U,U,U,U,U,U,U,U,I,I,I,I,I,I,I] ?_
  refine qpu_ 8 (some 52) #[U,U,U,U,U,U,U,U,U,I,I,I,I,I,I] ?_
  refine qpu_ 9 (some 53) #[U,U,U,U,U,U,U,U,U,U,I,I,I,I,I] ?_
  refine qpu_ 11 (some 55) #[U,U,U,U,U,U,U,U,U,U,I,U,I,I,I] ?_
  refine a7w 10 (some 54) #[U,U,U,U,U,U,U,U,U,U,U,U,I,I,I] hHeld ?_
  refine one_ (i := 12) (N := some 56) #[U,U,U,U,U,U,U,U,U,U,U,U,U,I,I] rfl rfl (a4m HT_.out (by kernel_rfl)) (by decide) (fun K hK => ?_)
  refine a5z Try.func25 (by kernel_rfl) rfl #[.int .u16 a2] (by rfl) rfl rfl ql_ ?_
  with_reducible refine (a2x.calls a2 bm _ fc.out).mono ?_
  rintro e w' ⟨rfl,⟨nd,rfl⟩⟩
  refine ⟨_,rfl,?_⟩
  refine hK.out _ _ ⟨hHeld.1,hHeld.2.1,hHeld.2.2⟩ (fun hHeld => ?_)
  clear hK K
  refine a4q (a' := ?_) ?_ ?_
  rotate_left
  ·show Act.put _ (some 56) _ = _
   exact qp_
  refine qpu_ 13 (some 57) #[U,U,U,U,U,U,U,U,U,U,U,U,U,U,I] ?_
  refine qpu_ 14 (some 58) #[U,U,U,U,U,U,U,U,U,U,U,U,U,U,U] ?_
  refine a4u (a4c HT_.out (by kernel_rfl)) ?_
  try go_wp2
  try subst bv
  go_meet
  case rel => exact ⟨_,(decide (((a0b c ((Int.tmod (wrap64 (a3)) (l0.length : Int)))).f1) < bm)),(by first | rfl | (simp;done) | (simp only [← bv] <;> (first | rfl | simp)) | (simp [*];done)),H',⟨by have := eY.out;first | omega | exact Nat.le_refl _⟩,⟨by (with_reducible repeat (first | apply Kd.a2n | apply Kd.a2o | apply Kd.a2i));exact a1.out⟩,⟨qb_⟩⟩
 case rest =>
 clear cA
 try clear c1
 try clear c10
 try clear cf
 try clear cY
 try clear cZ
 try clear bN
 try clear ez
 try clear eA
 try clear eB
 try clear aW
 try clear d0
 try clear d1
 try clear eC
 try clear eD
 try clear bn
 try clear bo
 try clear bp
 try clear bR
 try clear bS
 obtain ⟨kq,b4,rfl,HA,fz,HO_12,HB⟩ := hcut
 cases kq with
 | zero => exact absurd HA.out (by simp [a0d.j1])
 | succ B =>
 have H := HA.out
 clear HA
 simp only [a0d.j1] at H
 by_cases d2 : b4 = true
 ·subst d2
  replace H := qip_ H
  obtain rfl := si_ H
  go_wp2
  go_ret
  exact ⟨qx_,qb_⟩
 replace d2 := be_ d2
 subst d2
 replace H := qin_ H
 obtain ⟨a,aX⟩ : ∃ j_ : Int,(Int.tmod (wrap64 (a3)) (l0.length : Int)) = j_ := ⟨_,rfl⟩
 replace H : (if 0 ≤ (a) then (if (a) < (c.length : Int) then ((a2x.f a2).bind fun aj => (if ((a0b c (a)).f1) = aj then (some W) else ((a2x.f a2).bind fun u => (if (wrap64 (((a0b c (a)).f1) - u)) = 0 then (none) else ((some (([] : List (S42)) : List (S42))).bind fun ab => (if 0 ≤ (wrap64 ((a) + 1)) then (if (wrap64 ((a) + 1)) ≤ (c.length : Int) then ((some (c.take ((wrap64 ((a) + 1)) : Int).toNat : List (S42))).bind fun y => (if ab.length + y.length < 5864062014805 then ((some (ab ++ y : List (S42))).bind fun d => (if (a) < (d.length : Int) then ((some (d.set ((a) : Int).toNat (⟨(a0b d (a)).f0,wrap64 (((a0b d (a)).f1) - (wrap64 (1 + (Int.tmod (wrap64 (a4)) (wrap64 (((a0b c (a)).f1) - u)))))),(a0b d (a)).f2⟩ : S42) : List (S42))).bind fun s => (if W = true then (if (wrap64 ((a) + 1)) ≤ (l0.length : Int) then ((a0j.f B (l0.take ((wrap64 ((a) + 1)) : Int).toNat) l1 (s.set ((a) : Int).toNat (⟨(a0b s (a)).f0,(a0b s (a)).f1,wrap64 (((a0b s (a)).f2) - (wrap64 (1 + (Int.tmod (wrap64 (a4)) (wrap64 (((a0b c (a)).f1) - u))))))⟩ : S42))).bind fun z => (if z = 0 then (some false) else ((a0j.f B (l0.take ((wrap64 ((a) + 1)) : Int).toNat) l1 (c.take ((wrap64 ((a) + 1)) : Int).toNat)).bind fun D => (some (D == 0))))) else (none)) else (some false))) else (none))) else (none))) else (none)) else (none))))))) else (none)) else (none)) = some r := by first | (rw [aX] at H;exact H) | (simp only [aX] at H ⊢;exact H)
 obtain ⟨fe,H⟩ := qid_ H
 obtain ⟨ff,H⟩ := qid_ H
 replace H := bm_ H
 obtain ⟨aj,dC,H⟩ := H
 have ch := am_ dC
 clear dC
 by_cases bD : ((a0b c (a)).f1) = aj
 ·rw [if_pos bD] at H
  have eE : (((a0b c (a)).f1) == aj) = true := beq_iff_eq.mpr bD
  have eF : (((a0b c (a)).f1) != aj) = false := bne_eq_false_iff_eq.mpr bD
  clear bD
  obtain rfl := si_ H
  try go_wp2
  replace HO_12 := am_ (Kd.a2i HO_12.out)
  replace HB := am_ (ld_ HB.out)
  obtain ⟨fA,fB,dD⟩ := Kd.a3c HO_12.out
  (first | subst dD | (injection dD with ag aH ah;have aI := ag.symm;have aJ := ah.symm;clear ag aH ah;subst aI;subst aJ))
  have a6 : 0 ≤ ((a) : Int) := ot_
  have a7 : (a) < (c.length : Int) := ot_
  obtain ⟨g,b3,G,J,L⟩ := a4h (Kd.a0s HO_12.out).2.2 (a) a6 a7
  cases b3
  replace a6 := eq_true a6
  replace a7 := eq_true a7
  refine a4l (n := 8) (S := fun w' => w'.cell? (g.add (((a)).toNat * 3)) = some (.int .i64 ((a0b c (a)).f0)) ∧ w'.cell? ⟨(g.add (((a)).toNat * 3)).block,(g.add (((a)).toNat * 3)).off + 1,none⟩ = some (.int .i64 ((a0b c (a)).f1)) ∧ w'.cell? ⟨(g.add (((a)).toNat * 3)).block,(g.add (((a)).toNat * 3)).off + 2,none⟩ = some (.int .i64 ((a0b c (a)).f2))) (ds := []) #[I,I,I,I,I,I,I,I] (by kernel_rfl) rfl rfl ⟨G,J,L⟩ (fun hHeld => ?_);refine a3s a0d.b3y a0d.b2c (fun HT_ HW_ => ?_)
  generalize wc.drew = g8 at HO_12 HB G J L hHeld ⊢
  refine qpu_ 0 (some 59) #[U,I,I,I,I,I,I,I] ?_
  refine qpu_ 1 (some 60) #[U,U,I,I,I,I,I,I] ?_
  refine qpu_ 2 (some 61) #[U,U,U,I,I,I,I,I] ?_
  refine qpu_ 3 (some 62) #[U,U,U,U,I,I,I,I] ?_
  refine qpu_ 5 (some 64) #[U,U,U,U,I,U,I,I] ?_
  refine a7w 4 (some 63) #[U,U,U,U,U,U,I,I] hHeld ?_
  refine one_ (i := 6) (N := some 65) #[U,U,U,U,U,U,U,I] rfl rfl (a4m HT_.out (by kernel_rfl)) (by decide) (fun K hK => ?_)
  refine a5z Try.func25 (by kernel_rfl) rfl #[.int .u16 a2] (by rfl) rfl rfl ql_ ?_
  with_reducible refine (a2x.calls a2 aj _ ch.out).mono ?_
  rintro e w' ⟨rfl,⟨nd,rfl⟩⟩
  refine ⟨_,rfl,?_⟩
  refine hK.out _ _ ⟨hHeld.1,hHeld.2.1,hHeld.2.2⟩ (fun hHeld => ?_)
  clear hK K
  refine a4q (a' := ?_) ?_ ?_
  rotate_left
  ·show Act.put _ (some 65) _ = _
   exact qp_
  refine qpu_ 7 (some 66) #[U,U,U,U,U,U,U,U] ?_
  refine a4u (a4c HT_.out (by kernel_rfl)) ?_
  try go_wp2
  go_ret
  exact ⟨by first | rfl | (simp [a4e,a4f] <;> rfl) | (simp only [← aX];first | rfl | (simp [a4e,a4f] <;> rfl)) | (simp [*,a4e,a4f] <;> rfl),qb_⟩
 rw [if_neg bD] at H
 have eE : (((a0b c (a)).f1) == aj) = false := beq_eq_false_iff_ne.mpr bD
 have eF : (((a0b c (a)).f1) != aj) = true := bne_iff_ne.mpr bD
 replace H := bm_ H
 obtain ⟨u,dE,H⟩ := H
 have d3 := am_ dE
 clear dE
 by_cases d4 : (wrap64 (((a0b c (a)).f1) - u)) = 0
 ·rw [if_pos d4] at H
  exact absurd H (by simp)
 rw [if_neg d4] at H
 have fg : ((wrap64 (((a0b c (a)).f1) - u)) == 0) = false := beq_eq_false_iff_ne.mpr d4
 have fh : ((wrap64 (((a0b c (a)).f1) - u)) != 0) = true := bne_iff_ne.mpr d4
 obtain ⟨ab,b6⟩ : ∃ y_ : List (S42),y_ = (([] : List (S42))) := ⟨_,rfl⟩
 replace H : (if 0 ≤ (wrap64 ((a) + 1)) then (if (wrap64 ((a) + 1)) ≤ (c.length : Int) then ((some (c.take ((wrap64 ((a) + 1)) : Int).toNat : List (S42))).bind fun y => (if ab.length + y.length < 5864062014805 then ((some (ab ++ y : List (S42))).bind fun d => (if (a) < (d.length : Int) then ((some (d.set ((a) : Int).toNat (⟨(a0b d (a)).f0,wrap64 (((a0b d (a)).f1) - (wrap64 (1 + (Int.tmod (wrap64 (a4)) (wrap64 (((a0b c (a)).f1) - u)))))),(a0b d (a)).f2⟩ : S42) : List (S42))).bind fun s => (if W = true then (if (wrap64 ((a) + 1)) ≤ (l0.length : Int) then ((a0j.f B (l0.take ((wrap64 ((a) + 1)) : Int).toNat) l1 (s.set ((a) : Int).toNat (⟨(a0b s (a)).f0,(a0b s (a)).f1,wrap64 (((a0b s (a)).f2) - (wrap64 (1 + (Int.tmod (wrap64 (a4)) (wrap64 (((a0b c (a)).f1) - u))))))⟩ : S42))).bind fun z => (if z = 0 then (some false) else ((a0j.f B (l0.take ((wrap64 ((a) + 1)) : Int).toNat) l1 (c.take ((wrap64 ((a) + 1)) : Int).toNat)).bind fun D => (some (D == 0))))) else (none)) else (some false))) else (none))) else (none))) else (none)) else (none)) = some r := by first | (rw [b6];with_reducible exact H) | (have A := (Option.bind_some _ _).symm.trans H;rw [b6];with_reducible exact A) | (have A := (Option.bind_some _ _).symm.trans H;with_reducible exact A) | with_reducible exact H | (rw [b6];exact H) | exact H
 have aY := am_ b6
 clear b6
 obtain ⟨q,aq⟩ : ∃ j_ : Int,(wrap64 ((a) + 1)) = j_ := ⟨_,rfl⟩
 replace H : (if 0 ≤ (q) then (if (q) ≤ (c.length : Int) then ((some (c.take ((q) : Int).toNat : List (S42))).bind fun y => (if ab.length + y.length < 5864062014805 then ((some (ab ++ y : List (S42))).bind fun d => (if (a) < (d.length : Int) then ((some (d.set ((a) : Int).toNat (⟨(a0b d (a)).f0,wrap64 (((a0b d (a)).f1) - (wrap64 (1 + (Int.tmod (wrap64 (a4)) (wrap64 (((a0b c (a)).f1) - u)))))),(a0b d (a)).f2⟩ : S42) : List (S42))).bind fun s => (if W = true then (if (q) ≤ (l0.length : Int) then ((a0j.f B (l0.take ((q) : Int).toNat) l1 (s.set ((a) : Int).toNat (⟨(a0b s (a)).f0,(a0b s (a)).f1,wrap64 (((a0b s (a)).f2) - (wrap64 (1 + (Int.tmod (wrap64 (a4)) (wrap64 (((a0b c (a)).f1) - u))))))⟩ : S42))).bind fun z => (if z = 0 then (some false) else ((a0j.f B (l0.take ((q) : Int).toNat) l1 (c.take ((q) : Int).toNat)).bind fun D => (some (D == 0))))) else (none)) else (some false))) else (none))) else (none))) else (none)) else (none)) = some r := by first | (rw [aq] at H;exact H) | (simp only [aq] at H ⊢;exact H)
 (try rw [aq] at ch)
 (try rw [aq] at d3)
 have hji39w : (IntKind.i64.wrap ((a) + 1)) = q := (a4j _).trans aq
 by_cases ci : 0 ≤ (q)
 rotate_left
 ·rw [if_neg ci] at H
  exact absurd H (by simp)
 rw [if_pos ci] at H
 have fi := eq_true ci
 have fj : decide (0 ≤ (q)) = true := decide_eq_true ci
 clear ci
 by_cases cj : (q) ≤ (c.length : Int)
 rotate_left
 ·rw [if_neg cj] at H
  exact absurd H (by simp)
 rw [if_pos cj] at H
 have fk := eq_true cj
 have fl : decide ((q) ≤ (c.length : Int)) = true := decide_eq_true cj
 clear cj
 obtain ⟨y,b7⟩ : ∃ y_ : List (S42),y_ = (c.take ((q) : Int).toNat) := ⟨_,rfl⟩
 replace H : (if ab.length + y.length < 5864062014805 then ((some (ab ++ y : List (S42))).bind fun d => (if (a) < (d.length : Int) then ((some (d.set ((a) : Int).toNat (⟨(a0b d (a)).f0,wrap64 (((a0b d (a)).f1) - (wrap64 (1 + (Int.tmod (wrap64 (a4)) (wrap64 (((a0b c (a)).f1) - u)))))),(a0b d (a)).f2⟩ : S42) : List (S42))).bind fun s => (if W = true then (if (q) ≤ (l0.length : Int) then ((a0j.f B (l0.take ((q) : Int).toNat) l1 (s.set ((a) : Int).toNat (⟨(a0b s (a)).f0,(a0b s (a)).f1,wrap64 (((a0b s (a)).f2) - (wrap64 (1 + (Int.tmod (wrap64 (a4)) (wrap64 (((a0b c (a)).f1) - u))))))⟩ : S42))).bind fun z => (if z = 0 then (some false) else ((a0j.f B (l0.take ((q) : Int).toNat) l1 (c.take ((q) : Int).toNat)).bind fun D => (some (D == 0))))) else (none)) else (some false))) else (none))) else (none)) = some r := by first | (rw [b7];with_reducible exact H) | (have A := (Option.bind_some _ _).symm.trans H;rw [b7];with_reducible exact A) | (have A := (Option.bind_some _ _).symm.trans H;with_reducible exact A) | with_reducible exact H | (rw [b7];exact H) | exact H
 have E := am_ b7
 clear b7
 by_cases d5 : ab.length + y.length < 5864062014805
 rotate_left
 ·rw [if_neg d5] at H
  exact absurd H (by simp)
 rw [if_pos d5] at H
 have bT := am_ d5
 clear d5
 obtain ⟨d,b8⟩ : ∃ y_ : List (S42),y_ = (ab ++ y) := ⟨_,rfl⟩
 replace H : (if (a) < (d.length : Int) then ((some (d.set ((a) : Int).toNat (⟨(a0b d (a)).f0,wrap64 (((a0b d (a)).f1) - (wrap64 (1 + (Int.tmod (wrap64 (a4)) (wrap64 (((a0b c (a)).f1) - u)))))),(a0b d (a)).f2⟩ : S42) : List (S42))).bind fun s => (if W = true then (if (q) ≤ (l0.length : Int) then ((a0j.f B (l0.take ((q) : Int).toNat) l1 (s.set ((a) : Int).toNat (⟨(a0b s (a)).f0,(a0b s (a)).f1,wrap64 (((a0b s (a)).f2) - (wrap64 (1 + (Int.tmod (wrap64 (a4)) (wrap64 (((a0b c (a)).f1) - u))))))⟩ : S42))).bind fun z => (if z = 0 then (some false) else ((a0j.f B (l0.take ((q) : Int).toNat) l1 (c.take ((q) : Int).toNat)).bind fun D => (some (D == 0))))) else (none)) else (some false))) else (none)) = some r := by first | (rw [b8];with_reducible exact H) | (have A := (Option.bind_some _ _).symm.trans H;rw [b8];with_reducible exact A) | (have A := (Option.bind_some _ _).symm.trans H;with_reducible exact A) | with_reducible exact H | (rw [b8];exact H) | exact H
 have bU := am_ b8
 clear b8
 obtain ⟨fm,H⟩ := qid_ H
 obtain ⟨s,b9⟩ : ∃ y_ : List (S42),y_ = (d.set ((a) : Int).toNat (⟨(a0b d (a)).f0,wrap64 (((a0b d (a)).f1) - (wrap64 (1 + (Int.tmod (wrap64 (a4)) (wrap64 (((a0b c (a)).f1) - u)))))),(a0b d (a)).f2⟩ : S42)) := ⟨_,rfl⟩
 replace H : (if W = true then (if (q) ≤ (l0.length : Int) then ((a0j.f B (l0.take ((q) : Int).toNat) l1 (s.set ((a) : Int).toNat (⟨(a0b s (a)).f0,(a0b s (a)).f1,wrap64 (((a0b s (a)).f2) - (wrap64 (1 + (Int.tmod (wrap64 (a4)) (wrap64 (((a0b c (a)).f1) - u))))))⟩ : S42))).bind fun z => (if z = 0 then (some false) else ((a0j.f B (l0.take ((q) : Int).toNat) l1 (c.take ((q) : Int).toNat)).bind fun D => (some (D == 0))))) else (none)) else (some false)) = some r := by first | (rw [b9];with_reducible exact H) | (have A := (Option.bind_some _ _).symm.trans H;rw [b9];with_reducible exact A) | (have A := (Option.bind_some _ _).symm.trans H;with_reducible exact A) | with_reducible exact H | (rw [b9];exact H) | exact H
 have aZ := am_ b9
 clear b9
 obtain ⟨ac,ba⟩ : ∃ y_ : List (S42),y_ = (s.set ((a) : Int).toNat (⟨(a0b s (a)).f0,(a0b s (a)).f1,wrap64 (((a0b s (a)).f2) - (wrap64 (1 + (Int.tmod (wrap64 (a4)) (wrap64 (((a0b c (a)).f1) - u))))))⟩ : S42)) := ⟨_,rfl⟩
 replace H : (if W = true then (if (q) ≤ (l0.length : Int) then ((a0j.f B (l0.take ((q) : Int).toNat) l1 ac).bind fun z => (if z = 0 then (some false) else ((a0j.f B (l0.take ((q) : Int).toNat) l1 (c.take ((q) : Int).toNat)).bind fun D => (some (D == 0))))) else (none)) else (some false)) = some r := by first | (rw [ba];with_reducible exact H) | (have A := (Option.bind_some _ _).symm.trans H;rw [ba];with_reducible exact A) | (have A := (Option.bind_some _ _).symm.trans H;with_reducible exact A) | with_reducible exact H | (rw [ba];exact H) | exact H
 have bV := am_ ba
 clear ba
 by_cases d6 : W = true
 rotate_left
 ·replace d6 := be_ d6
  subst d6
  replace H := qin_ H
  obtain rfl := si_ H
  try go_wp2
  replace HO_12 := am_ (Kd.a2i HO_12.out)
  replace HB := am_ (ld_ HB.out)
  obtain ⟨fC,aA,dF⟩ := Kd.a3c HO_12.out
  (first | subst dF | (injection dF with ag aH ah;have aI := ag.symm;have aJ := ah.symm;clear ag aH ah;subst aI;subst aJ))
  have a6 : 0 ≤ ((a) : Int) := ot_
  have a7 : (a) < (c.length : Int) := ot_
  obtain ⟨g,b3,G,J,L⟩ := a4h (Kd.a0s HO_12.out).2.2 (a) a6 a7
  cases b3
  replace a6 := eq_true a6
  replace a7 := eq_true a7
  refine a4l (n := 8) (S := fun w' => w'.cell? (g.add (((a)).toNat * 3)) = some (.int .i64 ((a0b c (a)).f0)) ∧ w'.cell? ⟨(g.add (((a)).toNat * 3)).block,(g.add (((a)).toNat * 3)).off + 1,none⟩ = some (.int .i64 ((a0b c (a)).f1)) ∧ w'.cell? ⟨(g.add (((a)).toNat * 3)).block,(g.add (((a)).toNat * 3)).off + 2,none⟩ = some (.int .i64 ((a0b c (a)).f2))) (ds := []) #[I,I,I,I,I,I,I,I] (by kernel_rfl) rfl rfl ⟨G,J,L⟩ (fun hHeld => ?_);refine a3s a0d.b3y a0d.b2c (fun HT_ HW_ => ?_)
  generalize wc.drew = bO at HO_12 HB G J L hHeld ⊢
  refine qpu_ 0 (some 59) #[U,I,I,I,I,I,I,I] ?_
  refine qpu_ 1 (some 60) #[U,U,I,I,I,I,I,I] ?_
  refine qpu_ 2 (some 61) #[U,U,U,I,I,I,I,I] ?_
  refine qpu_ 3 (some 62) #[U,U,U,U,I,I,I,I] ?_
  refine qpu_ 5 (some 64) #[U,U,U,U,I,U,I,I] ?_
  refine a7w 4 (some 63) #[U,U,U,U,U,U,I,I] hHeld ?_
  refine one_ (i := 6) (N := some 65) #[U,U,U,U,U,U,U,I] rfl rfl (a4m HT_.out (by kernel_rfl)) (by decide) (fun K hK => ?_)
  refine a5z Try.func25 (by kernel_rfl) rfl #[.int .u16 a2] (by rfl) rfl rfl ql_ ?_
  with_reducible refine (a2x.calls a2 aj _ ch.out).mono ?_
  rintro e w' ⟨rfl,⟨nd,rfl⟩⟩
  refine ⟨_,rfl,?_⟩
  refine hK.out _ _ ⟨hHeld.1,hHeld.2.1,hHeld.2.2⟩ (fun hHeld => ?_)
  clear hK K
  refine a4q (a' := ?_) ?_ ?_
  rotate_left
  ·show Act.put _ (some 65) _ = _
   exact qp_
  refine qpu_ 7 (some 66) #[U,U,U,U,U,U,U,U] ?_
  refine a4u (a4c HT_.out (by kernel_rfl)) ?_
  try go_wp2
  (try (rw [a6k bO];generalize hq_ : World.drewN bO _ = bO;replace HO_12 : Aside0 (Kd.R k42 42 bO w.heap.size (fun _ => True) (.slice (some g) c.length aA) c) := ⟨by rw [← hq_];exact (qr_ HO_12)⟩;replace HB : Aside0 (Below w.heap.size w bO) := ⟨by rw [← hq_];exact qb_⟩;clear hq_))
  replace HO_12 := am_ (Kd.a2i HO_12.out)
  replace HB := am_ (ld_ HB.out)
  have ak : 0 ≤ ((a) : Int) := ot_
  have al : (a) < (c.length : Int) := ot_
  obtain ⟨bb,bE,a8,a9,aa⟩ := a4h (Kd.a0s HO_12.out).2.2 (a) ak al
  obtain rfl : g = bb := (by injection bE)
  replace ak := eq_true ak
  replace al := eq_true al
  refine a4l (n := 13) (S := fun w' => w'.cell? (g.add (((a)).toNat * 3)) = some (.int .i64 ((a0b c (a)).f0)) ∧ w'.cell? ⟨(g.add (((a)).toNat * 3)).block,(g.add (((a)).toNat * 3)).off + 1,none⟩ = some (.int .i64 ((a0b c (a)).f1)) ∧ w'.cell? ⟨(g.add (((a)).toNat * 3)).block,(g.add (((a)).toNat * 3)).off + 2,none⟩ = some (.int .i64 ((a0b c (a)).f2))) (ds := []) #[I,I,I,I,I,I,I,I,I,I,I,I,I] (by kernel_rfl) rfl rfl ⟨a8,a9,aa⟩ (fun hHeld => ?_);refine a3s a0d.b6x a0d.b4q (fun HT_ HW_ => ?_)
  generalize bO.drew = g9 at HO_12 HB a8 a9 aa hHeld ⊢
  refine qpu_ 0 (some 68) #[U,I,I,I,I,I,I,I,I,I,I,I,I] ?_
  refine qpu_ 1 (some 69) #[U,U,I,I,I,I,I,I,I,I,I,I,I] ?_
  refine qpu_ 2 (some 70) #[U,U,U,I,I,I,I,I,I,I,I,I,I] ?_
  refine qpu_ 3 (some 71) #[U,U,U,U,I,I,I,I,I,I,I,I,I] ?_
  refine qpu_ 4 (some 72) #[U,U,U,U,U,I,I,I,I,I,I,I,I] ?_
  refine qpu_ 5 (some 73) #[U,U,U,U,U,U,I,I,I,I,I,I,I] ?_
  refine qpu_ 7 (some 75) #[U,U,U,U,U,U,I,U,I,I,I,I,I] ?_
  refine a7w 6 (some 74) #[U,U,U,U,U,U,U,U,I,I,I,I,I] hHeld ?_
  refine one_ (i := 8) (N := some 76) #[U,U,U,U,U,U,U,U,U,I,I,I,I] rfl rfl (a4m HT_.out (by kernel_rfl)) (by decide) (fun K hK => ?_)
  refine a5z Try.func25 (by kernel_rfl) rfl #[.int .u16 a2] (by rfl) rfl rfl ql_ ?_
  with_reducible refine (a2x.calls a2 u _ d3.out).mono ?_
  rintro e w' ⟨rfl,⟨nd,rfl⟩⟩
  refine ⟨_,rfl,?_⟩
  refine hK.out _ _ ⟨hHeld.1,hHeld.2.1,hHeld.2.2⟩ (fun hHeld => ?_)
  clear hK K
  refine a4q (a' := ?_) ?_ ?_
  rotate_left
  ·show Act.put _ (some 76) _ = _
   exact qp_
  refine qpu_ 9 (some 77) #[U,U,U,U,U,U,U,U,U,U,I,I,I] ?_
  refine qpu_ 10 (some 78) #[U,U,U,U,U,U,U,U,U,U,U,I,I] ?_
  refine qpu_ 11 (some 79) #[U,U,U,U,U,U,U,U,U,U,U,U,I] ?_
  refine qpu_ 12 (some 15) #[U,U,U,U,U,U,U,U,U,U,U,U,U] ?_
  refine a4u (a4c HT_.out (by kernel_rfl)) ?_
  try go_wp2_with (first | ((with_reducible refine a0t (N := 80) rfl ?_);(try (refine a3r (by rfl) ?_;dsimp only));refine Kd.a5q k42 _ 42 ?hg (N := 80) ?hd (xs := ([] : List (S42))) (inner := []) (ok := fun _ => True) (okp := fun _ => True) ?hr ?hp (fun _ hk => hk) trivial (Below.refl _ _) (Nat.le_refl _) (by simp) ?_;(case hd => rfl);(case hg => rfl);(case hr => exact qq_);(case hp => exact (Reps.none _ _));intro bF ga bq hb hg_ hnew_;clear hg_ hnew_;(first | rw [← aY.out] at bq | (simp only [Int.reduceToNat] at bq;rw [← aY.out] at bq));have ar := am_ (Kd.a4b (Kd.a4d bq (Kd.R_lt (qr_ HO_12))) (a0z qb_));replace HO_12 := qel_ HO_12 bq hb;replace HB := qbs_ hb;clear hb bq;have dG : ((q) : Int) ≤ ((c.length : Int) : Int) := ot_;obtain ⟨fD,d7,_,eG,_⟩ := info_parts a7c;have hroom94 : c.length ≤ aA := (Kd.a0s HO_12.out).2.1;have dH : Kd.C k42 _ (some g) c.length c := (Kd.a0s HO_12.out).2.2;have dI := a7m (P := Try.prog) 24 42 .i64 Try.underlying24 d7 (some g) c.length aA (q) (ot_) dG hroom94;have cB := Kd.a5t (m := ((q) : Int).toNat) dH (by omega);have cC : y.length = ((q) : Int).toNat := (by rw [E.out,List.length_take];omega);rw [← E.out] at cB;rw [← cC] at dI;have x := am_ cB;have d8 := am_ (show y.length ≤ aA from by omega);clear cB dH hroom94 d7 eG;have fE := am_ cC;clear cC;have cD := am_ (show ((q) : Int).toNat ≤ c.length from by omega);replace dG := eq_true dG) | ((with_reducible refine a6o (b := .append) (xs := #[.tmp 80, .tmp 84]) rfl ?_);(try (refine a3r (by rfl) ?_;dsimp only));at_builtin;refine Kd.a7h k42 (w0 := w) w.heap.size rfl (.tmp 80) (.tmp 84) 24 42 (.agg #[(.int .i64 0),(.int .i64 0),(.int .i64 0)]) 24 rfl Try.underlying24 a7c rfl (by decide) (by omega) bF ab y _ _ _ (fun k_ => some k_ ≠ (.slice (some g) c.length aA : Value).ownBlock) (fun _ => False) rfl rfl ?aO ?aR (fun _ _ h => h) (fun _ h => h.elim) ?aF ?aB ?aS ?aL ?_;(case aR => repeat (first | exact (by repeat (first | (with_reducible exact x.out) | (with_reducible refine Kd.a1t ?_ _) | (with_reducible refine Kd.a1u ?_ _) | (with_reducible refine Kd.a2h ?_) | exact x.out)) | (with_reducible refine Kd.a1t ?_ _) | (with_reducible refine Kd.a1u ?_ _) | (with_reducible refine Kd.a2h ?_)));(case aB => exact qb_);(case aF => exact (fun k_ hk => Kd.fresh' (Kd.R_lt (qr_ HO_12)) k_ hk));(case aO => exact (by (with_reducible repeat (first | apply Kd.a2n | apply Kd.a2o | apply Kd.a2i));exact Kd.a2f ar.out (fun _ hk => hk.2)));(case aS => exact (a0z qb_));(case aL => have := bT.out;omega);intro dJ b0 ho hb hg hat;rw [← bU.out] at ho;replace HB := am_ (hb);replace x := am_ ((show Kd.C k42 b0 (some g) y.length y from by rw [E.out];exact Kd.a5t (m := ((q) : Int).toNat) ((Kd.a0s (Kd.a5e (ok := (fun _ => True)) (qr_ HO_12) hg hat)).2.2) cD.out));replace HO_12 := am_ (Kd.a5e (ok := (fun _ => True)) (qr_ HO_12) hg hat);have o := am_ (ho);clear ar ho hb hg hat;obtain ⟨fF,ai,f7⟩ := Kd.a3c o.out;subst f7;have am : 0 ≤ ((a) : Int) := ot_;have an : (a) < (d.length : Int) := ot_;obtain ⟨d9,bG,au,av,aw⟩ := a4h (Kd.a0s o.out).2.2 (a) am an;cases bG;replace am := eq_true am;replace an := eq_true an;have p44 : 0 ≤ ((a) : Int) := ot_;have aK : ((a) : Int) < ((d.length : Int) : Int) := ot_;obtain ⟨l,dK,aM,aN,bH,dL,aP⟩ := Kd.a9a o.out (by omega);(first | cases aM | (injection aM with ea_ en_ ec_;(first | subst ea_ | (injection ea_ with ea_;subst ea_));subst ec_;clear en_));have aQ := am_ aN;have dM := am_ aP;clear aN bH aP;(first | simp only [add_plain] at au | skip);(first | simp only [add_plain] at av | skip);(first | simp only [add_plain] at aw | skip);obtain ⟨dN,bc,aT,X,Y⟩ := Kd.a5s o.out z42 ((a) : Int) p44 aK;obtain rfl := a4x aT;have ck : b0.cell? ⟨l,((a) : Int).toNat * 3,none⟩ = some (.int .i64 ((a0b d (a)).f0)) := X 0 _ rfl;have cl : b0.cell? ⟨l,((a) : Int).toNat * 3 + 1,none⟩ = some (.int .i64 ((a0b d (a)).f1)) := X 1 _ rfl;have cm : b0.cell? ⟨l,((a) : Int).toNat * 3 + 2,none⟩ = some (.int .i64 ((a0b d (a)).f2)) := X 2 _ rfl;have cn : b0.frozen? ⟨l,((a) : Int).toNat * 3,none⟩ = false := Y 0;have co : b0.frozen? ⟨l,((a) : Int).toNat * 3 + 1,none⟩ = false := Y 1;have cp : b0.frozen? ⟨l,((a) : Int).toNat * 3 + 2,none⟩ = false := Y 2;clear bc X Y aT;replace p44 := eq_true p44;replace aK := eq_true aK;have dO := am_ (show Kd.R k42 42 b0 w.heap.size (fun k_ => some k_ ≠ (.slice (some g) c.length aA : Value).ownBlock) (.slice (some ⟨l,0,none⟩) d.length ai) d from (qr_ o));obtain ⟨fG,da,dP,bW,db⟩ := Kd.a5s dO.out z42 ((a) : Int) (ot_) (by have h_ : ((a) : Int) < ((d.length : Int) : Int) := ot_;first | exact h_ | (have e_ := (Kd.a0s o.out).1;omega) | simpa using h_);obtain rfl := a4x dP;have cE := Kd.a8g dO.out ((a) : Int) (ot_) (by have h_ : ((a) : Int) < ((d.length : Int) : Int) := ot_;first | exact h_ | (have e_ := (Kd.a0s o.out).1;omega) | simpa using h_) (seg := [.int .i64 (wrap64 (((a0b d (a)).f1) - (wrap64 (1 + (Int.tmod (wrap64 (a4)) (wrap64 (((a0b c (a)).f1) - u)))))))]) (j := 1) da bW (show 2 ≤ 3 from by decide) (x' := (⟨(a0b d (a)).f0,wrap64 (((a0b d (a)).f1) - (wrap64 (1 + (Int.tmod (wrap64 (a4)) (wrap64 (((a0b c (a)).f1) - u)))))),(a0b d (a)).f2⟩ : S42)) (a4p _ _ _ (⟨(a0b d (a)).f0,wrap64 (((a0b d (a)).f1) - (wrap64 (1 + (Int.tmod (wrap64 (a4)) (wrap64 (((a0b c (a)).f1) - u)))))),(a0b d (a)).f2⟩ : S42) ) (fun _ hk => hk);have dQ := bW 1 _ rfl;(try simp only [show (k42).sz = 3 from rfl,Nat.mul_one,Nat.add_zero] at dQ);have dR := db 1;(try simp only [show (k42).sz = 3 from rfl,Nat.mul_one,Nat.add_zero] at dR);clear da bW db dP) | ((with_reducible refine a5f (t := 3) (p := 94) rfl ?_);refine a4w (t := 3) (p := 94) (v := ?vo_w98) (w1 := (b0.setCell ⟨l,((a) : Int).toNat * 3 + 1,none⟩ (.int .i64 (wrap64 (((a0b d (a)).f1) - (wrap64 (1 + (Int.tmod (wrap64 (a4)) (wrap64 (((a0b c (a)).f1) - u)))))))))) ?hg ?ho ?hn ?hr ?_;(case ho => rfl);(case hg => rfl);(case hn => rfl);(case hr => exact qq_);intro ax hw;have hg : b0.grownBy ax (some l) := (by rw [hw];exact cE.2);have hp_ : Kd.R k42 42 ax w.heap.size (fun k_ => some k_ ≠ (.slice (some g) c.length aA : Value).ownBlock) (.slice (some ⟨l,0,none⟩) d.length ai) s := (by rw [hw,aZ.out];exact cE.1);clear cE;replace o := am_ (hp_);replace HB := am_ ((by rw [hw];exact ls_ (HB.out) aQ.out : Below w.heap.size w ax));replace x := am_ ((show Kd.C k42 ax (some g) y.length y from by rw [E.out];exact Kd.a5t (m := ((q) : Int).toNat) ((Kd.a0s (Kd.a5e (v := (.slice (some ⟨l,0,none⟩) d.length ai)) (v1 := (.slice (some ⟨l,0,none⟩) d.length ai)) (ok := (fun _ => True)) (qr_ HO_12) hg (.inl rfl))).2.2) cD.out));replace HO_12 := am_ (Kd.a5e (v := (.slice (some ⟨l,0,none⟩) d.length ai)) (v1 := (.slice (some ⟨l,0,none⟩) d.length ai)) (ok := (fun _ => True)) (qr_ HO_12) hg (.inl rfl));clear hg hw hp_;have ao : 0 ≤ ((a) : Int) := ot_;have ap : (a) < (s.length : Int) := (by have h_ : ((a) : Int) < ((d.length : Int) : Int) := ot_;first | (have e_ := (Kd.a0s o.out).1;omega) | simpa only [aZ.out,List.length_set] using h_);have dc : (((a) : Int) < ((d.length : Int) : Int)) = True := eq_true (ot_);obtain ⟨bd,bI,M,O,T⟩ := a4h (Kd.a0s o.out).2.2 (a) ao ap;obtain rfl : (⟨l,0,none⟩ : Addr) = bd := (by injection bI);(first | simp only [add_plain] at M | simp only [a6y] at M | simp only [Addr.add,Nat.zero_add] at M | skip);(first | simp only [add_plain] at O | simp only [a6y] at O | simp only [Addr.add,Nat.zero_add] at O | skip);(first | simp only [add_plain] at T | simp only [a6y] at T | simp only [Addr.add,Nat.zero_add] at T | skip);replace ao := eq_true ao;replace ap := eq_true ap;have p45 : 0 ≤ ((a) : Int) := ot_;have aU : ((a) : Int) < ((d.length : Int) : Int) := ot_;obtain ⟨dS,be,aV,Z,a0⟩ := Kd.a5s o.out z42 ((a) : Int) p45 aU;obtain rfl := a4x aV;have cq : ax.cell? ⟨l,((a) : Int).toNat * 3,none⟩ = some (.int .i64 ((a0b s (a)).f0)) := Z 0 _ rfl;have cr : ax.cell? ⟨l,((a) : Int).toNat * 3 + 1,none⟩ = some (.int .i64 ((a0b s (a)).f1)) := Z 1 _ rfl;have cs : ax.cell? ⟨l,((a) : Int).toNat * 3 + 2,none⟩ = some (.int .i64 ((a0b s (a)).f2)) := Z 2 _ rfl;have ct : ax.frozen? ⟨l,((a) : Int).toNat * 3,none⟩ = false := a0 0;have cu : ax.frozen? ⟨l,((a) : Int).toNat * 3 + 1,none⟩ = false := a0 1;have cv : ax.frozen? ⟨l,((a) : Int).toNat * 3 + 2,none⟩ = false := a0 2;clear be Z a0 aV;replace p45 := eq_true p45;replace aU := eq_true aU;have dT := am_ (show Kd.R k42 42 ax w.heap.size (fun k_ => some k_ ≠ (.slice (some g) c.length aA : Value).ownBlock) (.slice (some ⟨l,0,none⟩) d.length ai) s from (qr_ o));obtain ⟨fH,dd,dU,bX,de⟩ := Kd.a5s dT.out z42 ((a) : Int) (ot_) (by have h_ : ((a) : Int) < ((d.length : Int) : Int) := ot_;first | exact h_ | (have e_ := (Kd.a0s o.out).1;omega) | simpa using h_);obtain rfl := a4x dU;have cF := Kd.a8g dT.out ((a) : Int) (ot_) (by have h_ : ((a) : Int) < ((d.length : Int) : Int) := ot_;first | exact h_ | (have e_ := (Kd.a0s o.out).1;omega) | simpa using h_) (seg := [.int .i64 (wrap64 (((a0b s (a)).f2) - (wrap64 (1 + (Int.tmod (wrap64 (a4)) (wrap64 (((a0b c (a)).f1) - u)))))))]) (j := 2) dd bX (show 3 ≤ 3 from by decide) (x' := (⟨(a0b s (a)).f0,(a0b s (a)).f1,wrap64 (((a0b s (a)).f2) - (wrap64 (1 + (Int.tmod (wrap64 (a4)) (wrap64 (((a0b c (a)).f1) - u))))))⟩ : S42)) (a4p _ _ _ (⟨(a0b s (a)).f0,(a0b s (a)).f1,wrap64 (((a0b s (a)).f2) - (wrap64 (1 + (Int.tmod (wrap64 (a4)) (wrap64 (((a0b c (a)).f1) - u))))))⟩ : S42) ) (fun _ hk => hk);have dV := bX 2 _ rfl;(try simp only [show (k42).sz = 3 from rfl,Nat.mul_one,Nat.add_zero] at dV);have dW := de 2;(try simp only [show (k42).sz = 3 from rfl,Nat.mul_one,Nat.add_zero] at dW);clear dd bX de dU) | ((with_reducible refine a5f (t := 3) (p := 103) rfl ?_);refine a4w (t := 3) (p := 103) (v := ?vo_w100) (w1 := (ax.setCell ⟨l,((a) : Int).toNat * 3 + 2,none⟩ (.int .i64 (wrap64 (((a0b s (a)).f2) - (wrap64 (1 + (Int.tmod (wrap64 (a4)) (wrap64 (((a0b c (a)).f1) - u)))))))))) ?hg ?ho ?hn ?hr ?_;(case ho => rfl);(case hg => rfl);(case hn => rfl);(case hr => exact qq_);intro bJ hw;have hg : ax.grownBy bJ (some l) := (by rw [hw];exact cF.2);have hp_ : Kd.R k42 42 bJ w.heap.size (fun k_ => some k_ ≠ (.slice (some g) c.length aA : Value).ownBlock) (.slice (some ⟨l,0,none⟩) d.length ai) ac := (by rw [hw,bV.out];exact cF.1);clear cF;replace o := am_ (hp_);replace HB := am_ ((by rw [hw];exact ls_ (HB.out) aQ.out : Below w.heap.size w bJ));replace x := am_ ((show Kd.C k42 bJ (some g) y.length y from by rw [E.out];exact Kd.a5t (m := ((q) : Int).toNat) ((Kd.a0s (Kd.a5e (v := (.slice (some ⟨l,0,none⟩) d.length ai)) (v1 := (.slice (some ⟨l,0,none⟩) d.length ai)) (ok := (fun _ => True)) (qr_ HO_12) hg (.inl rfl))).2.2) cD.out));replace HO_12 := am_ (Kd.a5e (v := (.slice (some ⟨l,0,none⟩) d.length ai)) (v1 := (.slice (some ⟨l,0,none⟩) d.length ai)) (ok := (fun _ => True)) (qr_ HO_12) hg (.inl rfl));clear hg hw hp_))
  replace HO_12 := am_ (Kd.a2i HO_12.out)
  replace o := am_ (Kd.a2i o.out)
  replace x := am_ (Kd.a2h x.out)
  replace HB := am_ (ld_ HB.out)
  refine a4l (n := 25) (S := fun w' => True) (ds := []) #[I,I,I,I,I,I,I,I,I,I,I,I,I,I,I,I,I,I,I,I,I,I,I,I,I] (by kernel_rfl) rfl rfl trivial (fun hHeld => ?_);refine a3s a0d.b6y a0d.b4r (fun HT_ HW_ => ?_)
  generalize bJ.drew = fI at HO_12 o x HB hHeld ⊢
  refine qpu_ 0 (some 104) #[U,I,I,I,I,I,I,I,I,I,I,I,I,I,I,I,I,I,I,I,I,I,I,I,I] ?_
  refine qpu_ 1 (some 105) #[U,U,I,I,I,I,I,I,I,I,I,I,I,I,I,I,I,I,I,I,I,I,I,I,I] ?_
  refine qpv_ 2 (some 106) #[U,U,U,I,I,I,I,I,I,I,I,I,I,I,I,I,I,I,I,I,I,I,I,I,I] ?_
  refine qpv_ 3 (some 107) #[U,U,U,U,I,I,I,I,I,I,I,I,I,I,I,I,I,I,I,I,I,I,I,I,I] ?_
  refine qpv_ 4 (some 108) #[U,U,U,U,U,I,I,I,I,I,I,I,I,I,I,I,I,I,I,I,I,I,I,I,I] ?_
  refine qpv_ 5 (some 109) #[U,U,U,U,U,U,I,I,I,I,I,I,I,I,I,I,I,I,I,I,I,I,I,I,I] ?_
  refine qpv_ 6 (some 110) #[U,U,U,U,U,U,U,I,I,I,I,I,I,I,I,I,I,I,I,I,I,I,I,I,I] ?_
  refine qpv_ 7 (some 111) #[U,U,U,U,U,U,U,U,I,I,I,I,I,I,I,I,I,I,I,I,I,I,I,I,I] ?_
  refine qpv_ 8 (some 112) #[U,U,U,U,U,U,U,U,U,I,I,I,I,I,I,I,I,I,I,I,I,I,I,I,I] ?_
  refine qpv_ 9 (some 113) #[U,U,U,U,U,U,U,U,U,U,I,I,I,I,I,I,I,I,I,I,I,I,I,I,I] ?_
  refine qpu_ 10 (some 114) #[U,U,U,U,U,U,U,U,U,U,U,I,I,I,I,I,I,I,I,I,I,I,I,I,I] ?_
  refine qpu_ 11 (some 115) #[U,U,U,U,U,U,U,U,U,U,U,U,I,I,I,I,I,I,I,I,I,I,I,I,I] ?_
  refine qpv_ 12 (some 116) #[U,U,U,U,U,U,U,U,U,U,U,U,U,I,I,I,I,I,I,I,I,I,I,I,I] ?_
  refine qpv_ 13 (some 117) #[U,U,U,U,U,U,U,U,U,U,U,U,U,U,I,I,I,I,I,I,I,I,I,I,I] ?_
  refine qpv_ 14 (some 118) #[U,U,U,U,U,U,U,U,U,U,U,U,U,U,U,I,I,I,I,I,I,I,I,I,I] ?_
  refine qpv_ 15 (some 119) #[U,U,U,U,U,U,U,U,U,U,U,U,U,U,U,U,I,I,I,I,I,I,I,I,I] ?_
  refine qpv_ 16 (some 120) #[U,U,U,U,U,U,U,U,U,U,U,U,U,U,U,U,U,I,I,I,I,I,I,I,I] ?_
  refine qpv_ 17 (some 121) #[U,U,U,U,U,U,U,U,U,U,U,U,U,U,U,U,U,U,I,I,I,I,I,I,I] ?_
  refine qpv_ 18 (some 122) #[U,U,U,U,U,U,U,U,U,U,U,U,U,U,U,U,U,U,U,I,I,I,I,I,I] ?_
  refine qpv_ 19 (some 123) #[U,U,U,U,U,U,U,U,U,U,U,U,U,U,U,U,U,U,U,U,I,I,I,I,I] ?_
  refine qpv_ 20 (some 124) #[U,U,U,U,U,U,U,U,U,U,U,U,U,U,U,U,U,U,U,U,U,I,I,I,I] ?_
  refine qpv_ 21 (some 125) #[U,U,U,U,U,U,U,U,U,U,U,U,U,U,U,U,U,U,U,U,U,U,I,I,I] ?_
  refine qpv_ 22 (some 126) #[U,U,U,U,U,U,U,U,U,U,U,U,U,U,U,U,U,U,U,U,U,U,U,I,I] ?_
  refine qpu_ 23 (some 127) #[U,U,U,U,U,U,U,U,U,U,U,U,U,U,U,U,U,U,U,U,U,U,U,U,I] ?_
  refine qpu_ 24 (some 10) #[U,U,U,U,U,U,U,U,U,U,U,U,U,U,U,U,U,U,U,U,U,U,U,U,U] ?_
  refine a4u (a4c HT_.out (by kernel_rfl)) ?_
  try go_wp2
  go_ret
  exact ⟨by first | rfl | (simp [a4e,a4f] <;> rfl) | (simp only [← aX, ← aq];first | rfl | (simp [a4e,a4f] <;> rfl)) | (simp [*,a4e,a4f] <;> rfl),qb_⟩
 subst d6
 replace H := qip_ H
 have fn := eq_true (ot_ : 0 ≤ (q))
 by_cases cw : (q) ≤ (l0.length : Int)
 rotate_left
 ·rw [if_neg cw] at H
  exact absurd H (by simp)
 rw [if_pos cw] at H
 have fo := eq_true cw
 have fp : decide ((q) ≤ (l0.length : Int)) = true := decide_eq_true cw
 clear cw
 obtain ⟨aC,bf⟩ : ∃ y_ : List (S51),y_ = (l0.take ((q) : Int).toNat) := ⟨_,rfl⟩
 replace H : ((a0j.f B aC l1 ac).bind fun z => (if z = 0 then (some false) else ((a0j.f B (l0.take ((q) : Int).toNat) l1 (c.take ((q) : Int).toNat)).bind fun D => (some (D == 0))))) = some r := by first | (rw [bf];with_reducible exact H) | (have A := (Option.bind_some _ _).symm.trans H;rw [bf];with_reducible exact A) | (have A := (Option.bind_some _ _).symm.trans H;with_reducible exact A) | with_reducible exact H | (rw [bf];exact H) | exact H
 have bg := am_ bf
 clear bf
 replace H := bm_ H
 obtain ⟨z,dX,H⟩ := H
 have f5 := am_ dX
 clear dX
 by_cases bK : z = 0
 ·rw [if_pos bK] at H
  have eH : (z == 0) = true := beq_iff_eq.mpr bK
  have eI : (z != 0) = false := bne_eq_false_iff_eq.mpr bK
  clear bK
  obtain rfl := si_ H
  try go_wp2
  replace HO_12 := am_ (Kd.a2i HO_12.out)
  replace HB := am_ (ld_ HB.out)
  obtain ⟨fJ,aD,dY⟩ := Kd.a3c HO_12.out
  (first | subst dY | (injection dY with ag aH ah;have aI := ag.symm;have aJ := ah.symm;clear ag aH ah;subst aI;subst aJ))
  have a6 : 0 ≤ ((a) : Int) := ot_
  have a7 : (a) < (c.length : Int) := ot_
  obtain ⟨g,b3,G,J,L⟩ := a4h (Kd.a0s HO_12.out).2.2 (a) a6 a7
  cases b3
  replace a6 := eq_true a6
  replace a7 := eq_true a7
  refine a4l (n := 8) (S := fun w' => w'.cell? (g.add (((a)).toNat * 3)) = some (.int .i64 ((a0b c (a)).f0)) ∧ w'.cell? ⟨(g.add (((a)).toNat * 3)).block,(g.add (((a)).toNat * 3)).off + 1,none⟩ = some (.int .i64 ((a0b c (a)).f1)) ∧ w'.cell? ⟨(g.add (((a)).toNat * 3)).block,(g.add (((a)).toNat * 3)).off + 2,none⟩ = some (.int .i64 ((a0b c (a)).f2))) (ds := []) #[I,I,I,I,I,I,I,I] (by kernel_rfl) rfl rfl ⟨G,J,L⟩ (fun hHeld => ?_);refine a3s a0d.b3y a0d.b2c (fun HT_ HW_ => ?_)
  generalize wc.drew = bP at HO_12 HB G J L hHeld ⊢
  refine qpu_ 0 (some 59) #[U,I,I,I,I,I,I,I] ?_
  refine qpu_ 1 (some 60) #[U,U,I,I,I,I,I,I] ?_
  refine qpu_ 2 (some 61) #[U,U,U,I,I,I,I,I] ?_
  refine qpu_ 3 (some 62) #[U,U,U,U,I,I,I,I] ?_
  refine qpu_ 5 (some 64) #[U,U,U,U,I,U,I,I] ?_
  refine a7w 4 (some 63) #[U,U,U,U,U,U,I,I] hHeld ?_
  refine one_ (i := 6) (N := some 65) #[U,U,U,U,U,U,U,I] rfl rfl (a4m HT_.out (by kernel_rfl)) (by decide) (fun K hK => ?_)
  refine a5z Try.func25 (by kernel_rfl) rfl #[.int .u16 a2] (by rfl) rfl rfl ql_ ?_
  with_reducible refine (a2x.calls a2 aj _ ch.out).mono ?_
  rintro e w' ⟨rfl,⟨nd,rfl⟩⟩
  refine ⟨_,rfl,?_⟩
  refine hK.out _ _ ⟨hHeld.1,hHeld.2.1,hHeld.2.2⟩ (fun hHeld => ?_)
  clear hK K
  refine a4q (a' := ?_) ?_ ?_
  rotate_left
  ·show Act.put _ (some 65) _ = _
   exact qp_
  refine qpu_ 7 (some 66) #[U,U,U,U,U,U,U,U] ?_
  refine a4u (a4c HT_.out (by kernel_rfl)) ?_
  try go_wp2
  (try (rw [a6k bP];generalize hq_ : World.drewN bP _ = bP;replace HO_12 : Aside0 (Kd.R k42 42 bP w.heap.size (fun _ => True) (.slice (some g) c.length aD) c) := ⟨by rw [← hq_];exact (qr_ HO_12)⟩;replace HB : Aside0 (Below w.heap.size w bP) := ⟨by rw [← hq_];exact qb_⟩;clear hq_))
  replace HO_12 := am_ (Kd.a2i HO_12.out)
  replace HB := am_ (ld_ HB.out)
  have ak : 0 ≤ ((a) : Int) := ot_
  have al : (a) < (c.length : Int) := ot_
  obtain ⟨bb,bE,a8,a9,aa⟩ := a4h (Kd.a0s HO_12.out).2.2 (a) ak al
  obtain rfl : g = bb := (by injection bE)
  replace ak := eq_true ak
  replace al := eq_true al
  refine a4l (n := 13) (S := fun w' => w'.cell? (g.add (((a)).toNat * 3)) = some (.int .i64 ((a0b c (a)).f0)) ∧ w'.cell? ⟨(g.add (((a)).toNat * 3)).block,(g.add (((a)).toNat * 3)).off + 1,none⟩ = some (.int .i64 ((a0b c (a)).f1)) ∧ w'.cell? ⟨(g.add (((a)).toNat * 3)).block,(g.add (((a)).toNat * 3)).off + 2,none⟩ = some (.int .i64 ((a0b c (a)).f2))) (ds := []) #[I,I,I,I,I,I,I,I,I,I,I,I,I] (by kernel_rfl) rfl rfl ⟨a8,a9,aa⟩ (fun hHeld => ?_);refine a3s a0d.b6x a0d.b4q (fun HT_ HW_ => ?_)
  generalize bP.drew = gb at HO_12 HB a8 a9 aa hHeld ⊢
  refine qpu_ 0 (some 68) #[U,I,I,I,I,I,I,I,I,I,I,I,I] ?_
  refine qpu_ 1 (some 69) #[U,U,I,I,I,I,I,I,I,I,I,I,I] ?_
  refine qpu_ 2 (some 70) #[U,U,U,I,I,I,I,I,I,I,I,I,I] ?_
  refine qpu_ 3 (some 71) #[U,U,U,U,I,I,I,I,I,I,I,I,I] ?_
  refine qpu_ 4 (some 72) #[U,U,U,U,U,I,I,I,I,I,I,I,I] ?_
  refine qpu_ 5 (some 73) #[U,U,U,U,U,U,I,I,I,I,I,I,I] ?_
  refine qpu_ 7 (some 75) #[U,U,U,U,U,U,I,U,I,I,I,I,I] ?_
  refine a7w 6 (some 74) #[U,U,U,U,U,U,U,U,I,I,I,I,I] hHeld ?_
  refine one_ (i := 8) (N := some 76) #[U,U,U,U,U,U,U,U,U,I,I,I,I] rfl rfl (a4m HT_.out (by kernel_rfl)) (by decide) (fun K hK => ?_)
  refine a5z Try.func25 (by kernel_rfl) rfl #[.int .u16 a2] (by rfl) rfl rfl ql_ ?_
  with_reducible refine (a2x.calls a2 u _ d3.out).mono ?_
  rintro e w' ⟨rfl,⟨nd,rfl⟩⟩
  refine ⟨_,rfl,?_⟩
  refine hK.out _ _ ⟨hHeld.1,hHeld.2.1,hHeld.2.2⟩ (fun hHeld => ?_)
  clear hK K
  refine a4q (a' := ?_) ?_ ?_
  rotate_left
  ·show Act.put _ (some 76) _ = _
   exact qp_
  refine qpu_ 9 (some 77) #[U,U,U,U,U,U,U,U,U,U,I,I,I] ?_
  refine qpu_ 10 (some 78) #[U,U,U,U,U,U,U,U,U,U,U,I,I] ?_
  refine qpu_ 11 (some 79) #[U,U,U,U,U,U,U,U,U,U,U,U,I] ?_
  refine qpu_ 12 (some 15) #[U,U,U,U,U,U,U,U,U,U,U,U,U] ?_
  refine a4u (a4c HT_.out (by kernel_rfl)) ?_
  try go_wp2_with (first | ((with_reducible refine a0t (N := 80) rfl ?_);(try (refine a3r (by rfl) ?_;dsimp only));refine Kd.a5q k42 _ 42 ?hg (N := 80) ?hd (xs := ([] : List (S42))) (inner := []) (ok := fun _ => True) (okp := fun _ => True) ?hr ?hp (fun _ hk => hk) trivial (Below.refl _ _) (Nat.le_refl _) (by simp) ?_;(case hd => rfl);(case hg => rfl);(case hr => exact qq_);(case hp => exact (Reps.none _ _));intro bF gc br hb hg_ hnew_;clear hg_ hnew_;(first | rw [← aY.out] at br | (simp only [Int.reduceToNat] at br;rw [← aY.out] at br));have ar := am_ (Kd.a4b (Kd.a4d br (Kd.R_lt (qr_ HO_12))) (a0z qb_));replace HO_12 := qel_ HO_12 br hb;replace HB := qbs_ hb;clear hb br;have dZ : ((q) : Int) ≤ ((c.length : Int) : Int) := ot_;obtain ⟨fK,df,_,eJ,_⟩ := info_parts a7c;have hroom56 : c.length ≤ aD := (Kd.a0s HO_12.out).2.1;have e0 : Kd.C k42 _ (some g) c.length c := (Kd.a0s HO_12.out).2.2;have e1 := a7m (P := Try.prog) 24 42 .i64 Try.underlying24 df (some g) c.length aD (q) (ot_) dZ hroom56;have cG := Kd.a5t (m := ((q) : Int).toNat) e0 (by omega);have cH : y.length = ((q) : Int).toNat := (by rw [E.out,List.length_take];omega);rw [← E.out] at cG;rw [← cH] at e1;have x := am_ cG;have d8 := am_ (show y.length ≤ aD from by omega);clear cG e0 hroom56 df eJ;have fL := am_ cH;clear cH;have cI := am_ (show ((q) : Int).toNat ≤ c.length from by omega);replace dZ := eq_true dZ) | ((with_reducible refine a6o (b := .append) (xs := #[.tmp 80, .tmp 84]) rfl ?_);(try (refine a3r (by rfl) ?_;dsimp only));at_builtin;refine Kd.a7h k42 (w0 := w) w.heap.size rfl (.tmp 80) (.tmp 84) 24 42 (.agg #[(.int .i64 0),(.int .i64 0),(.int .i64 0)]) 24 rfl Try.underlying24 a7c rfl (by decide) (by omega) bF ab y _ _ _ (fun k_ => some k_ ≠ (.slice (some g) c.length aD : Value).ownBlock) (fun _ => False) rfl rfl ?aO ?aR (fun _ _ h => h) (fun _ h => h.elim) ?aF ?aB ?aS ?aL ?_;(case aR => repeat (first | exact (by repeat (first | (with_reducible exact x.out) | (with_reducible refine Kd.a1t ?_ _) | (with_reducible refine Kd.a1u ?_ _) | (with_reducible refine Kd.a2h ?_) | exact x.out)) | (with_reducible refine Kd.a1t ?_ _) | (with_reducible refine Kd.a1u ?_ _) | (with_reducible refine Kd.a2h ?_)));(case aB => exact qb_);(case aF => exact (fun k_ hk => Kd.fresh' (Kd.R_lt (qr_ HO_12)) k_ hk));(case aO => exact (by (with_reducible repeat (first | apply Kd.a2n | apply Kd.a2o | apply Kd.a2i));exact Kd.a2f ar.out (fun _ hk => hk.2)));(case aS => exact (a0z qb_));(case aL => have := bT.out;omega);intro dJ b1 ho hb hg hat;rw [← bU.out] at ho;replace HB := am_ (hb);replace x := am_ ((show Kd.C k42 b1 (some g) y.length y from by rw [E.out];exact Kd.a5t (m := ((q) : Int).toNat) ((Kd.a0s (Kd.a5e (ok := (fun _ => True)) (qr_ HO_12) hg hat)).2.2) cI.out));replace HO_12 := am_ (Kd.a5e (ok := (fun _ => True)) (qr_ HO_12) hg hat);have o := am_ (ho);clear ar ho hb hg hat;obtain ⟨fM,ad,f8⟩ := Kd.a3c o.out;subst f8;have am : 0 ≤ ((a) : Int) := ot_;have an : (a) < (d.length : Int) := ot_;obtain ⟨d9,bG,au,av,aw⟩ := a4h (Kd.a0s o.out).2.2 (a) am an;cases bG;replace am := eq_true am;replace an := eq_true an;have p44 : 0 ≤ ((a) : Int) := ot_;have aK : ((a) : Int) < ((d.length : Int) : Int) := ot_;obtain ⟨l,dK,aM,aN,bH,dL,aP⟩ := Kd.a9a o.out (by omega);(first | cases aM | (injection aM with ea_ en_ ec_;(first | subst ea_ | (injection ea_ with ea_;subst ea_));subst ec_;clear en_));have aQ := am_ aN;have dM := am_ aP;clear aN bH aP;(first | simp only [add_plain] at au | skip);(first | simp only [add_plain] at av | skip);(first | simp only [add_plain] at aw | skip);obtain ⟨dN,bc,aT,X,Y⟩ := Kd.a5s o.out z42 ((a) : Int) p44 aK;obtain rfl := a4x aT;have ck : b1.cell? ⟨l,((a) : Int).toNat * 3,none⟩ = some (.int .i64 ((a0b d (a)).f0)) := X 0 _ rfl;have cl : b1.cell? ⟨l,((a) : Int).toNat * 3 + 1,none⟩ = some (.int .i64 ((a0b d (a)).f1)) := X 1 _ rfl;have cm : b1.cell? ⟨l,((a) : Int).toNat * 3 + 2,none⟩ = some (.int .i64 ((a0b d (a)).f2)) := X 2 _ rfl;have cn : b1.frozen? ⟨l,((a) : Int).toNat * 3,none⟩ = false := Y 0;have co : b1.frozen? ⟨l,((a) : Int).toNat * 3 + 1,none⟩ = false := Y 1;have cp : b1.frozen? ⟨l,((a) : Int).toNat * 3 + 2,none⟩ = false := Y 2;clear bc X Y aT;replace p44 := eq_true p44;replace aK := eq_true aK;have e2 := am_ (show Kd.R k42 42 b1 w.heap.size (fun k_ => some k_ ≠ (.slice (some g) c.length aD : Value).ownBlock) (.slice (some ⟨l,0,none⟩) d.length ad) d from (qr_ o));obtain ⟨fN,dg,e3,bY,dh⟩ := Kd.a5s e2.out z42 ((a) : Int) (ot_) (by have h_ : ((a) : Int) < ((d.length : Int) : Int) := ot_;first | exact h_ | (have e_ := (Kd.a0s o.out).1;omega) | simpa using h_);obtain rfl := a4x e3;have cJ := Kd.a8g e2.out ((a) : Int) (ot_) (by have h_ : ((a) : Int) < ((d.length : Int) : Int) := ot_;first | exact h_ | (have e_ := (Kd.a0s o.out).1;omega) | simpa using h_) (seg := [.int .i64 (wrap64 (((a0b d (a)).f1) - (wrap64 (1 + (Int.tmod (wrap64 (a4)) (wrap64 (((a0b c (a)).f1) - u)))))))]) (j := 1) dg bY (show 2 ≤ 3 from by decide) (x' := (⟨(a0b d (a)).f0,wrap64 (((a0b d (a)).f1) - (wrap64 (1 + (Int.tmod (wrap64 (a4)) (wrap64 (((a0b c (a)).f1) - u)))))),(a0b d (a)).f2⟩ : S42)) (a4p _ _ _ (⟨(a0b d (a)).f0,wrap64 (((a0b d (a)).f1) - (wrap64 (1 + (Int.tmod (wrap64 (a4)) (wrap64 (((a0b c (a)).f1) - u)))))),(a0b d (a)).f2⟩ : S42) ) (fun _ hk => hk);have e4 := bY 1 _ rfl;(try simp only [show (k42).sz = 3 from rfl,Nat.mul_one,Nat.add_zero] at e4);have e5 := dh 1;(try simp only [show (k42).sz = 3 from rfl,Nat.mul_one,Nat.add_zero] at e5);clear dg bY dh e3) | ((with_reducible refine a5f (t := 3) (p := 94) rfl ?_);refine a4w (t := 3) (p := 94) (v := ?vo_w60) (w1 := (b1.setCell ⟨l,((a) : Int).toNat * 3 + 1,none⟩ (.int .i64 (wrap64 (((a0b d (a)).f1) - (wrap64 (1 + (Int.tmod (wrap64 (a4)) (wrap64 (((a0b c (a)).f1) - u)))))))))) ?hg ?ho ?hn ?hr ?_;(case ho => rfl);(case hg => rfl);(case hn => rfl);(case hr => exact qq_);intro ay hw;have hg : b1.grownBy ay (some l) := (by rw [hw];exact cJ.2);have hp_ : Kd.R k42 42 ay w.heap.size (fun k_ => some k_ ≠ (.slice (some g) c.length aD : Value).ownBlock) (.slice (some ⟨l,0,none⟩) d.length ad) s := (by rw [hw,aZ.out];exact cJ.1);clear cJ;replace o := am_ (hp_);replace HB := am_ ((by rw [hw];exact ls_ (HB.out) aQ.out : Below w.heap.size w ay));replace x := am_ ((show Kd.C k42 ay (some g) y.length y from by rw [E.out];exact Kd.a5t (m := ((q) : Int).toNat) ((Kd.a0s (Kd.a5e (v := (.slice (some ⟨l,0,none⟩) d.length ad)) (v1 := (.slice (some ⟨l,0,none⟩) d.length ad)) (ok := (fun _ => True)) (qr_ HO_12) hg (.inl rfl))).2.2) cI.out));replace HO_12 := am_ (Kd.a5e (v := (.slice (some ⟨l,0,none⟩) d.length ad)) (v1 := (.slice (some ⟨l,0,none⟩) d.length ad)) (ok := (fun _ => True)) (qr_ HO_12) hg (.inl rfl));clear hg hw hp_;have ao : 0 ≤ ((a) : Int) := ot_;have ap : (a) < (s.length : Int) := (by have h_ : ((a) : Int) < ((d.length : Int) : Int) := ot_;first | (have e_ := (Kd.a0s o.out).1;omega) | simpa only [aZ.out,List.length_set] using h_);have dc : (((a) : Int) < ((d.length : Int) : Int)) = True := eq_true (ot_);obtain ⟨bd,bI,M,O,T⟩ := a4h (Kd.a0s o.out).2.2 (a) ao ap;obtain rfl : (⟨l,0,none⟩ : Addr) = bd := (by injection bI);(first | simp only [add_plain] at M | simp only [a6y] at M | simp only [Addr.add,Nat.zero_add] at M | skip);(first | simp only [add_plain] at O | simp only [a6y] at O | simp only [Addr.add,Nat.zero_add] at O | skip);(first | simp only [add_plain] at T | simp only [a6y] at T | simp only [Addr.add,Nat.zero_add] at T | skip);replace ao := eq_true ao;replace ap := eq_true ap;have p45 : 0 ≤ ((a) : Int) := ot_;have aU : ((a) : Int) < ((d.length : Int) : Int) := ot_;obtain ⟨dS,be,aV,Z,a0⟩ := Kd.a5s o.out z42 ((a) : Int) p45 aU;obtain rfl := a4x aV;have cq : ay.cell? ⟨l,((a) : Int).toNat * 3,none⟩ = some (.int .i64 ((a0b s (a)).f0)) := Z 0 _ rfl;have cr : ay.cell? ⟨l,((a) : Int).toNat * 3 + 1,none⟩ = some (.int .i64 ((a0b s (a)).f1)) := Z 1 _ rfl;have cs : ay.cell? ⟨l,((a) : Int).toNat * 3 + 2,none⟩ = some (.int .i64 ((a0b s (a)).f2)) := Z 2 _ rfl;have ct : ay.frozen? ⟨l,((a) : Int).toNat * 3,none⟩ = false := a0 0;have cu : ay.frozen? ⟨l,((a) : Int).toNat * 3 + 1,none⟩ = false := a0 1;have cv : ay.frozen? ⟨l,((a) : Int).toNat * 3 + 2,none⟩ = false := a0 2;clear be Z a0 aV;replace p45 := eq_true p45;replace aU := eq_true aU;have e6 := am_ (show Kd.R k42 42 ay w.heap.size (fun k_ => some k_ ≠ (.slice (some g) c.length aD : Value).ownBlock) (.slice (some ⟨l,0,none⟩) d.length ad) s from (qr_ o));obtain ⟨fO,di,e7,bZ,dj⟩ := Kd.a5s e6.out z42 ((a) : Int) (ot_) (by have h_ : ((a) : Int) < ((d.length : Int) : Int) := ot_;first | exact h_ | (have e_ := (Kd.a0s o.out).1;omega) | simpa using h_);obtain rfl := a4x e7;have cK := Kd.a8g e6.out ((a) : Int) (ot_) (by have h_ : ((a) : Int) < ((d.length : Int) : Int) := ot_;first | exact h_ | (have e_ := (Kd.a0s o.out).1;omega) | simpa using h_) (seg := [.int .i64 (wrap64 (((a0b s (a)).f2) - (wrap64 (1 + (Int.tmod (wrap64 (a4)) (wrap64 (((a0b c (a)).f1) - u)))))))]) (j := 2) di bZ (show 3 ≤ 3 from by decide) (x' := (⟨(a0b s (a)).f0,(a0b s (a)).f1,wrap64 (((a0b s (a)).f2) - (wrap64 (1 + (Int.tmod (wrap64 (a4)) (wrap64 (((a0b c (a)).f1) - u))))))⟩ : S42)) (a4p _ _ _ (⟨(a0b s (a)).f0,(a0b s (a)).f1,wrap64 (((a0b s (a)).f2) - (wrap64 (1 + (Int.tmod (wrap64 (a4)) (wrap64 (((a0b c (a)).f1) - u))))))⟩ : S42) ) (fun _ hk => hk);have e8 := bZ 2 _ rfl;(try simp only [show (k42).sz = 3 from rfl,Nat.mul_one,Nat.add_zero] at e8);have e9 := dj 2;(try simp only [show (k42).sz = 3 from rfl,Nat.mul_one,Nat.add_zero] at e9);clear di bZ dj e7) | ((with_reducible refine a5f (t := 3) (p := 103) rfl ?_);refine a4w (t := 3) (p := 103) (v := ?vo_w62) (w1 := (ay.setCell ⟨l,((a) : Int).toNat * 3 + 2,none⟩ (.int .i64 (wrap64 (((a0b s (a)).f2) - (wrap64 (1 + (Int.tmod (wrap64 (a4)) (wrap64 (((a0b c (a)).f1) - u)))))))))) ?hg ?ho ?hn ?hr ?_;(case ho => rfl);(case hg => rfl);(case hn => rfl);(case hr => exact qq_);intro cx hw;have hg : ay.grownBy cx (some l) := (by rw [hw];exact cK.2);have hp_ : Kd.R k42 42 cx w.heap.size (fun k_ => some k_ ≠ (.slice (some g) c.length aD : Value).ownBlock) (.slice (some ⟨l,0,none⟩) d.length ad) ac := (by rw [hw,bV.out];exact cK.1);clear cK;replace o := am_ (hp_);replace HB := am_ ((by rw [hw];exact ls_ (HB.out) aQ.out : Below w.heap.size w cx));replace x := am_ ((show Kd.C k42 cx (some g) y.length y from by rw [E.out];exact Kd.a5t (m := ((q) : Int).toNat) ((Kd.a0s (Kd.a5e (v := (.slice (some ⟨l,0,none⟩) d.length ad)) (v1 := (.slice (some ⟨l,0,none⟩) d.length ad)) (ok := (fun _ => True)) (qr_ HO_12) hg (.inl rfl))).2.2) cI.out));replace HO_12 := am_ (Kd.a5e (v := (.slice (some ⟨l,0,none⟩) d.length ad)) (v1 := (.slice (some ⟨l,0,none⟩) d.length ad)) (ok := (fun _ => True)) (qr_ HO_12) hg (.inl rfl));clear hg hw hp_))
  replace HO_12 := am_ (Kd.a2i HO_12.out)
  replace o := am_ (Kd.a2i o.out)
  replace x := am_ (Kd.a2h x.out)
  replace HB := am_ (ld_ HB.out)
  have ea : ((q) : Int) ≤ ((l0.length : Int) : Int) := ot_
  obtain ⟨fP,dk,_,eK,_⟩ := info_parts b4i
  have hroom64 : l0.length ≤ c0 := bx.out
  have eb : Kd.C k51 _ A0 l0.length l0 := bw.out
  have ec := a7m (P := Try.prog) 22 51 .i64 Try.underlying22 dk A0 l0.length c0 (q) (ot_) ea hroom64
  have cL := Kd.a5t (m := ((q) : Int).toNat) eb (by omega)
  have cM : aC.length = ((q) : Int).toNat := (by rw [bg.out,List.length_take];omega)
  rw [← bg.out] at cL
  rw [← cM] at ec
  have bh := am_ cL
  have ca := am_ (show aC.length ≤ c0 from by omega)
  clear cL eb hroom64 dk eK
  have fQ := am_ cM
  clear cM
  replace ea := eq_true ea
  refine a4l (n := 25) (S := fun w' => True) (ds := []) #[I,I,I,I,I,I,I,I,I,I,I,I,I,I,I,I,I,I,I,I,I,I,I,I,I] (by kernel_rfl) rfl rfl trivial (fun hHeld => ?_);refine a3s a0d.b6y a0d.b4r (fun HT_ HW_ => ?_)
  generalize cx.drew = ge at HO_12 o x HB bh hHeld ⊢
  refine qpu_ 0 (some 104) #[U,I,I,I,I,I,I,I,I,I,I,I,I,I,I,I,I,I,I,I,I,I,I,I,I] ?_
  refine qpu_ 1 (some 105) #[U,U,I,I,I,I,I,I,I,I,I,I,I,I,I,I,I,I,I,I,I,I,I,I,I] ?_
  refine qpu_ 2 (some 106) #[U,U,U,I,I,I,I,I,I,I,I,I,I,I,I,I,I,I,I,I,I,I,I,I,I] ?_
  refine qpu_ 3 (some 107) #[U,U,U,U,I,I,I,I,I,I,I,I,I,I,I,I,I,I,I,I,I,I,I,I,I] ?_
  refine qpu_ 4 (some 108) #[U,U,U,U,U,I,I,I,I,I,I,I,I,I,I,I,I,I,I,I,I,I,I,I,I] ?_
  refine qpu_ 5 (some 109) #[U,U,U,U,U,U,I,I,I,I,I,I,I,I,I,I,I,I,I,I,I,I,I,I,I] ?_
  refine qpu_ 6 (some 110) #[U,U,U,U,U,U,U,I,I,I,I,I,I,I,I,I,I,I,I,I,I,I,I,I,I] ?_
  refine qpu_ 7 (some 111) #[U,U,U,U,U,U,U,U,I,I,I,I,I,I,I,I,I,I,I,I,I,I,I,I,I] ?_
  refine one_ (i := 8) (N := some 112) #[U,U,U,U,U,U,U,U,U,I,I,I,I,I,I,I,I,I,I,I,I,I,I,I,I] rfl rfl (a4m HT_.out (by kernel_rfl)) (by decide) (fun K hK => ?_)
  refine a5z Try.func17 (by kernel_rfl) rfl #[.slice A0 aC.length c0, .slice A1 l1.length c1, .slice (some ⟨l,0,none⟩) ac.length ad] (by rfl) rfl rfl (by (try simp only [List.map_toArray,List.map_cons,List.map_nil]);first | done | (rw [show ac.length = d.length from (Kd.a0s o.out).1.symm] <;> rfl) | rfl | (simp only [List.length_drop,List.length_take];rfl)) ?_
  with_reducible refine (a0j.calls B _ _ aC _ _ l1 _ _ ac z _ ?s1 ca.out ?s3 bA.out ?s5 ?s6 f5.out).mono ?_
  (case s1 => exact qc_ bh)
  (case s3 => exact qc_ bz)
  (case s5 => exact qv_ (Kd.a0s o.out).2.2)
  (case s6 => rw [show ac.length = d.length from (Kd.a0s o.out).1.symm];exact (Kd.a0s o.out).2.1)
  rintro e gf ⟨rfl,hb⟩
  refine ⟨_,rfl,?_⟩
  replace HO_12 := qrb_ HO_12 hb
  replace o := qrb_ o hb
  replace x := am_ (Kd.a2s (by repeat (first | (with_reducible exact x.out) | (with_reducible refine Kd.a1t ?_ _) | (with_reducible refine Kd.a1u ?_ _) | (with_reducible refine Kd.a2h ?_) | exact x.out)) hb)
  replace HB := qbs_ hb
  (try clear hb)
  (try clear bB)
  (try clear hk)
  (try clear hi)
  refine hK.out _ _ trivial (fun hHeld => ?_)
  clear hK K
  refine a4q (a' := ?_) ?_ ?_
  rotate_left
  ·show Act.put _ (some 112) _ = _
   exact qp_
  refine qpu_ 9 (some 113) #[U,U,U,U,U,U,U,U,U,U,I,I,I,I,I,I,I,I,I,I,I,I,I,I,I] ?_
  refine qpu_ 10 (some 114) #[U,U,U,U,U,U,U,U,U,U,U,I,I,I,I,I,I,I,I,I,I,I,I,I,I] ?_
  refine qpu_ 11 (some 115) #[U,U,U,U,U,U,U,U,U,U,U,U,I,I,I,I,I,I,I,I,I,I,I,I,I] ?_
  refine qpv_ 12 (some 116) #[U,U,U,U,U,U,U,U,U,U,U,U,U,I,I,I,I,I,I,I,I,I,I,I,I] ?_
  refine qpv_ 13 (some 117) #[U,U,U,U,U,U,U,U,U,U,U,U,U,U,I,I,I,I,I,I,I,I,I,I,I] ?_
  refine qpv_ 14 (some 118) #[U,U,U,U,U,U,U,U,U,U,U,U,U,U,U,I,I,I,I,I,I,I,I,I,I] ?_
  refine qpv_ 15 (some 119) #[U,U,U,U,U,U,U,U,U,U,U,U,U,U,U,U,I,I,I,I,I,I,I,I,I] ?_
  refine qpv_ 16 (some 120) #[U,U,U,U,U,U,U,U,U,U,U,U,U,U,U,U,U,I,I,I,I,I,I,I,I] ?_
  refine qpv_ 17 (some 121) #[U,U,U,U,U,U,U,U,U,U,U,U,U,U,U,U,U,U,I,I,I,I,I,I,I] ?_
  refine qpv_ 18 (some 122) #[U,U,U,U,U,U,U,U,U,U,U,U,U,U,U,U,U,U,U,I,I,I,I,I,I] ?_
  refine qpv_ 19 (some 123) #[U,U,U,U,U,U,U,U,U,U,U,U,U,U,U,U,U,U,U,U,I,I,I,I,I] ?_
  refine qpv_ 20 (some 124) #[U,U,U,U,U,U,U,U,U,U,U,U,U,U,U,U,U,U,U,U,U,I,I,I,I] ?_
  refine qpv_ 21 (some 125) #[U,U,U,U,U,U,U,U,U,U,U,U,U,U,U,U,U,U,U,U,U,U,I,I,I] ?_
  refine qpv_ 22 (some 126) #[U,U,U,U,U,U,U,U,U,U,U,U,U,U,U,U,U,U,U,U,U,U,U,I,I] ?_
  refine qpu_ 23 (some 127) #[U,U,U,U,U,U,U,U,U,U,U,U,U,U,U,U,U,U,U,U,U,U,U,U,I] ?_
  refine qpu_ 24 (some 10) #[U,U,U,U,U,U,U,U,U,U,U,U,U,U,U,U,U,U,U,U,U,U,U,U,U] ?_
  refine a4u (a4c HT_.out (by kernel_rfl)) ?_
  try go_wp2
  go_ret
  exact ⟨by first | rfl | (simp [a4e,a4f] <;> rfl) | (simp only [← aX, ← aq];first | rfl | (simp [a4e,a4f] <;> rfl)) | (simp [*,a4e,a4f] <;> rfl),qb_⟩
 rw [if_neg bK] at H
 have eH : (z == 0) = false := beq_eq_false_iff_ne.mpr bK
 have eI : (z != 0) = true := bne_iff_ne.mpr bK
 have fq := eq_true (ot_ : 0 ≤ (q))
 have fr := eq_true (ot_ : (q) ≤ (l0.length : Int))
 obtain ⟨bs,bi⟩ : ∃ y_ : List (S51),y_ = (l0.take ((q) : Int).toNat) := ⟨_,rfl⟩
 replace H : ((a0j.f B bs l1 (c.take ((q) : Int).toNat)).bind fun D => (some (D == 0))) = some r := by first | (rw [bi];with_reducible exact H) | (have A := (Option.bind_some _ _).symm.trans H;rw [bi];with_reducible exact A) | (have A := (Option.bind_some _ _).symm.trans H;with_reducible exact A) | with_reducible exact H | (rw [bi];exact H) | exact H
 have cb := am_ bi
 clear bi
 have fs := eq_true (ot_ : 0 ≤ (q))
 have ft := eq_true (ot_ : (q) ≤ (c.length : Int))
 obtain ⟨bL,bj⟩ : ∃ y_ : List (S42),y_ = (c.take ((q) : Int).toNat) := ⟨_,rfl⟩
 replace H : ((a0j.f B bs l1 bL).bind fun D => (some (D == 0))) = some r := by first | (rw [bj];with_reducible exact H) | (have A := (Option.bind_some _ _).symm.trans H;rw [bj];with_reducible exact A) | (have A := (Option.bind_some _ _).symm.trans H;with_reducible exact A) | with_reducible exact H | (rw [bj];exact H) | exact H
 have cc := am_ bj
 clear bj
 replace H := bm_ H
 obtain ⟨D,ed,H⟩ := H
 have fd := am_ ed
 clear ed
 obtain rfl := si_ H
 try go_wp2
 replace HO_12 := am_ (Kd.a2i HO_12.out)
 replace HB := am_ (ld_ HB.out)
 obtain ⟨fR,ae,ee⟩ := Kd.a3c HO_12.out
 (first | subst ee | (injection ee with ag aH ah;have aI := ag.symm;have aJ := ah.symm;clear ag aH ah;subst aI;subst aJ))
 have a6 : 0 ≤ ((a) : Int) := ot_
 have a7 : (a) < (c.length : Int) := ot_
 obtain ⟨g,b3,G,J,L⟩ := a4h (Kd.a0s HO_12.out).2.2 (a) a6 a7
 cases b3
 replace a6 := eq_true a6
 replace a7 := eq_true a7
 refine a4l (n := 8) (S := fun w' => w'.cell? (g.add (((a)).toNat * 3)) = some (.int .i64 ((a0b c (a)).f0)) ∧ w'.cell? ⟨(g.add (((a)).toNat * 3)).block,(g.add (((a)).toNat * 3)).off + 1,none⟩ = some (.int .i64 ((a0b c (a)).f1)) ∧ w'.cell? ⟨(g.add (((a)).toNat * 3)).block,(g.add (((a)).toNat * 3)).off + 2,none⟩ = some (.int .i64 ((a0b c (a)).f2))) (ds := []) #[I,I,I,I,I,I,I,I] (by kernel_rfl) rfl rfl ⟨G,J,L⟩ (fun hHeld => ?_);refine a3s a0d.b3y a0d.b2c (fun HT_ HW_ => ?_)
 generalize wc.drew = bQ at HO_12 HB G J L hHeld ⊢
 refine qpu_ 0 (some 59) #[U,I,I,I,I,I,I,I] ?_
 refine qpu_ 1 (some 60) #[U,U,I,I,I,I,I,I] ?_
 refine qpu_ 2 (some 61) #[U,U,U,I,I,I,I,I] ?_
 refine qpu_ 3 (some 62) #[U,U,U,U,I,I,I,I] ?_
 refine qpu_ 5 (some 64) #[U,U,U,U,I,U,I,I] ?_
 refine a7w 4 (some 63) #[U,U,U,U,U,U,I,I] hHeld ?_
 refine one_ (i := 6) (N := some 65) #[U,U,U,U,U,U,U,I] rfl rfl (a4m HT_.out (by kernel_rfl)) (by decide) (fun K hK => ?_)
 refine a5z Try.func25 (by kernel_rfl) rfl #[.int .u16 a2] (by rfl) rfl rfl ql_ ?_
 with_reducible refine (a2x.calls a2 aj _ ch.out).mono ?_
 rintro e w' ⟨rfl,⟨nd,rfl⟩⟩
 refine ⟨_,rfl,?_⟩
 refine hK.out _ _ ⟨hHeld.1,hHeld.2.1,hHeld.2.2⟩ (fun hHeld => ?_)
 clear hK K
 refine a4q (a' := ?_) ?_ ?_
 rotate_left
 ·show Act.put _ (some 65) _ = _
  exact qp_
 refine qpu_ 7 (some 66) #[U,U,U,U,U,U,U,U] ?_
 refine a4u (a4c HT_.out (by kernel_rfl)) ?_
 try go_wp2
 (try (rw [a6k bQ];generalize hq_ : World.drewN bQ _ = bQ;replace HO_12 : Aside0 (Kd.R k42 42 bQ w.heap.size (fun _ => True) (.slice (some g) c.length ae) c) := ⟨by rw [← hq_];exact (qr_ HO_12)⟩;replace HB : Aside0 (Below w.heap.size w bQ) := ⟨by rw [← hq_];exact qb_⟩;clear hq_))
 replace HO_12 := am_ (Kd.a2i HO_12.out)
 replace HB := am_ (ld_ HB.out)
 have ak : 0 ≤ ((a) : Int) := ot_
 have al : (a) < (c.length : Int) := ot_
 obtain ⟨bb,bE,a8,a9,aa⟩ := a4h (Kd.a0s HO_12.out).2.2 (a) ak al
 obtain rfl : g = bb := (by injection bE)
 replace ak := eq_true ak
 replace al := eq_true al
 refine a4l (n := 13) (S := fun w' => w'.cell? (g.add (((a)).toNat * 3)) = some (.int .i64 ((a0b c (a)).f0)) ∧ w'.cell? ⟨(g.add (((a)).toNat * 3)).block,(g.add (((a)).toNat * 3)).off + 1,none⟩ = some (.int .i64 ((a0b c (a)).f1)) ∧ w'.cell? ⟨(g.add (((a)).toNat * 3)).block,(g.add (((a)).toNat * 3)).off + 2,none⟩ = some (.int .i64 ((a0b c (a)).f2))) (ds := []) #[I,I,I,I,I,I,I,I,I,I,I,I,I] (by kernel_rfl) rfl rfl ⟨a8,a9,aa⟩ (fun hHeld => ?_);refine a3s a0d.b6x a0d.b4q (fun HT_ HW_ => ?_)
 generalize bQ.drew = gg at HO_12 HB a8 a9 aa hHeld ⊢
 refine qpu_ 0 (some 68) #[U,I,I,I,I,I,I,I,I,I,I,I,I] ?_
 refine qpu_ 1 (some 69) #[U,U,I,I,I,I,I,I,I,I,I,I,I] ?_
 refine qpu_ 2 (some 70) #[U,U,U,I,I,I,I,I,I,I,I,I,I] ?_
 refine qpu_ 3 (some 71) #[U,U,U,U,I,I,I,I,I,I,I,I,I] ?_
 refine qpu_ 4 (some 72) #[U,U,U,U,U,I,I,I,I,I,I,I,I] ?_
 refine qpu_ 5 (some 73) #[U,U,U,U,U,U,I,I,I,I,I,I,I] ?_
 refine qpu_ 7 (some 75) #[U,U,U,U,U,U,I,U,I,I,I,I,I] ?_
 refine a7w 6 (some 74) #[U,U,U,U,U,U,U,U,I,I,I,I,I] hHeld ?_
 refine one_ (i := 8) (N := some 76) #[U,U,U,U,U,U,U,U,U,I,I,I,I] rfl rfl (a4m HT_.out (by kernel_rfl)) (by decide) (fun K hK => ?_)
 refine a5z Try.func25 (by kernel_rfl) rfl #[.int .u16 a2] (by rfl) rfl rfl ql_ ?_
 with_reducible refine (a2x.calls a2 u _ d3.out).mono ?_
 rintro e w' ⟨rfl,⟨nd,rfl⟩⟩
 refine ⟨_,rfl,?_⟩
 refine hK.out _ _ ⟨hHeld.1,hHeld.2.1,hHeld.2.2⟩ (fun hHeld => ?_)
 clear hK K
 refine a4q (a' := ?_) ?_ ?_
 rotate_left
 ·show Act.put _ (some 76) _ = _
  exact qp_
 refine qpu_ 9 (some 77) #[U,U,U,U,U,U,U,U,U,U,I,I,I] ?_
 refine qpu_ 10 (some 78) #[U,U,U,U,U,U,U,U,U,U,U,I,I] ?_
 refine qpu_ 11 (some 79) #[U,U,U,U,U,U,U,U,U,U,U,U,I] ?_
 refine qpu_ 12 (some 15) #[U,U,U,U,U,U,U,U,U,U,U,U,U] ?_
 refine a4u (a4c HT_.out (by kernel_rfl)) ?_
 try go_wp2_with (first | ((with_reducible refine a0t (N := 80) rfl ?_);(try (refine a3r (by rfl) ?_;dsimp only));refine Kd.a5q k42 _ 42 ?hg (N := 80) ?hd (xs := ([] : List (S42))) (inner := []) (ok := fun _ => True) (okp := fun _ => True) ?hr ?hp (fun _ hk => hk) trivial (Below.refl _ _) (Nat.le_refl _) (by simp) ?_;(case hd => rfl);(case hg => rfl);(case hr => exact qq_);(case hp => exact (Reps.none _ _));intro bF gh bt hb hg_ hnew_;clear hg_ hnew_;(first | rw [← aY.out] at bt | (simp only [Int.reduceToNat] at bt;rw [← aY.out] at bt));have ar := am_ (Kd.a4b (Kd.a4d bt (Kd.R_lt (qr_ HO_12))) (a0z qb_));replace HO_12 := qel_ HO_12 bt hb;replace HB := qbs_ hb;clear hb bt;have ef : ((q) : Int) ≤ ((c.length : Int) : Int) := ot_;obtain ⟨fS,dl,_,eL,_⟩ := info_parts a7c;have hroom76 : c.length ≤ ae := (Kd.a0s HO_12.out).2.1;have eg : Kd.C k42 _ (some g) c.length c := (Kd.a0s HO_12.out).2.2;have eh := a7m (P := Try.prog) 24 42 .i64 Try.underlying24 dl (some g) c.length ae (q) (ot_) ef hroom76;have cN := Kd.a5t (m := ((q) : Int).toNat) eg (by omega);have cO : y.length = ((q) : Int).toNat := (by rw [E.out,List.length_take];omega);rw [← E.out] at cN;rw [← cO] at eh;have x := am_ cN;have d8 := am_ (show y.length ≤ ae from by omega);clear cN eg hroom76 dl eL;have fT := am_ cO;clear cO;have cP := am_ (show ((q) : Int).toNat ≤ c.length from by omega);replace ef := eq_true ef) | ((with_reducible refine a6o (b := .append) (xs := #[.tmp 80, .tmp 84]) rfl ?_);(try (refine a3r (by rfl) ?_;dsimp only));at_builtin;refine Kd.a7h k42 (w0 := w) w.heap.size rfl (.tmp 80) (.tmp 84) 24 42 (.agg #[(.int .i64 0),(.int .i64 0),(.int .i64 0)]) 24 rfl Try.underlying24 a7c rfl (by decide) (by omega) bF ab y _ _ _ (fun k_ => some k_ ≠ (.slice (some g) c.length ae : Value).ownBlock) (fun _ => False) rfl rfl ?aO ?aR (fun _ _ h => h) (fun _ h => h.elim) ?aF ?aB ?aS ?aL ?_;(case aR => repeat (first | exact (by repeat (first | (with_reducible exact x.out) | (with_reducible refine Kd.a1t ?_ _) | (with_reducible refine Kd.a1u ?_ _) | (with_reducible refine Kd.a2h ?_) | exact x.out)) | (with_reducible refine Kd.a1t ?_ _) | (with_reducible refine Kd.a1u ?_ _) | (with_reducible refine Kd.a2h ?_)));(case aB => exact qb_);(case aF => exact (fun k_ hk => Kd.fresh' (Kd.R_lt (qr_ HO_12)) k_ hk));(case aO => exact (by (with_reducible repeat (first | apply Kd.a2n | apply Kd.a2o | apply Kd.a2i));exact Kd.a2f ar.out (fun _ hk => hk.2)));(case aS => exact (a0z qb_));(case aL => have := bT.out;omega);intro dJ b2 ho hb hg hat;rw [← bU.out] at ho;replace HB := am_ (hb);replace x := am_ ((show Kd.C k42 b2 (some g) y.length y from by rw [E.out];exact Kd.a5t (m := ((q) : Int).toNat) ((Kd.a0s (Kd.a5e (ok := (fun _ => True)) (qr_ HO_12) hg hat)).2.2) cP.out));replace HO_12 := am_ (Kd.a5e (ok := (fun _ => True)) (qr_ HO_12) hg hat);have o := am_ (ho);clear ar ho hb hg hat;obtain ⟨fU,af,f9⟩ := Kd.a3c o.out;subst f9;have am : 0 ≤ ((a) : Int) := ot_;have an : (a) < (d.length : Int) := ot_;obtain ⟨d9,bG,au,av,aw⟩ := a4h (Kd.a0s o.out).2.2 (a) am an;cases bG;replace am := eq_true am;replace an := eq_true an;have p44 : 0 ≤ ((a) : Int) := ot_;have aK : ((a) : Int) < ((d.length : Int) : Int) := ot_;obtain ⟨l,dK,aM,aN,bH,dL,aP⟩ := Kd.a9a o.out (by omega);(first | cases aM | (injection aM with ea_ en_ ec_;(first | subst ea_ | (injection ea_ with ea_;subst ea_));subst ec_;clear en_));have aQ := am_ aN;have dM := am_ aP;clear aN bH aP;(first | simp only [add_plain] at au | skip);(first | simp only [add_plain] at av | skip);(first | simp only [add_plain] at aw | skip);obtain ⟨dN,bc,aT,X,Y⟩ := Kd.a5s o.out z42 ((a) : Int) p44 aK;obtain rfl := a4x aT;have ck : b2.cell? ⟨l,((a) : Int).toNat * 3,none⟩ = some (.int .i64 ((a0b d (a)).f0)) := X 0 _ rfl;have cl : b2.cell? ⟨l,((a) : Int).toNat * 3 + 1,none⟩ = some (.int .i64 ((a0b d (a)).f1)) := X 1 _ rfl;have cm : b2.cell? ⟨l,((a) : Int).toNat * 3 + 2,none⟩ = some (.int .i64 ((a0b d (a)).f2)) := X 2 _ rfl;have cn : b2.frozen? ⟨l,((a) : Int).toNat * 3,none⟩ = false := Y 0;have co : b2.frozen? ⟨l,((a) : Int).toNat * 3 + 1,none⟩ = false := Y 1;have cp : b2.frozen? ⟨l,((a) : Int).toNat * 3 + 2,none⟩ = false := Y 2;clear bc X Y aT;replace p44 := eq_true p44;replace aK := eq_true aK;have ei := am_ (show Kd.R k42 42 b2 w.heap.size (fun k_ => some k_ ≠ (.slice (some g) c.length ae : Value).ownBlock) (.slice (some ⟨l,0,none⟩) d.length af) d from (qr_ o));obtain ⟨fV,dm,ej,cd,dn⟩ := Kd.a5s ei.out z42 ((a) : Int) (ot_) (by have h_ : ((a) : Int) < ((d.length : Int) : Int) := ot_;first | exact h_ | (have e_ := (Kd.a0s o.out).1;omega) | simpa using h_);obtain rfl := a4x ej;have cQ := Kd.a8g ei.out ((a) : Int) (ot_) (by have h_ : ((a) : Int) < ((d.length : Int) : Int) := ot_;first | exact h_ | (have e_ := (Kd.a0s o.out).1;omega) | simpa using h_) (seg := [.int .i64 (wrap64 (((a0b d (a)).f1) - (wrap64 (1 + (Int.tmod (wrap64 (a4)) (wrap64 (((a0b c (a)).f1) - u)))))))]) (j := 1) dm cd (show 2 ≤ 3 from by decide) (x' := (⟨(a0b d (a)).f0,wrap64 (((a0b d (a)).f1) - (wrap64 (1 + (Int.tmod (wrap64 (a4)) (wrap64 (((a0b c (a)).f1) - u)))))),(a0b d (a)).f2⟩ : S42)) (a4p _ _ _ (⟨(a0b d (a)).f0,wrap64 (((a0b d (a)).f1) - (wrap64 (1 + (Int.tmod (wrap64 (a4)) (wrap64 (((a0b c (a)).f1) - u)))))),(a0b d (a)).f2⟩ : S42) ) (fun _ hk => hk);have ek := cd 1 _ rfl;(try simp only [show (k42).sz = 3 from rfl,Nat.mul_one,Nat.add_zero] at ek);have el := dn 1;(try simp only [show (k42).sz = 3 from rfl,Nat.mul_one,Nat.add_zero] at el);clear dm cd dn ej) | ((with_reducible refine a5f (t := 3) (p := 94) rfl ?_);refine a4w (t := 3) (p := 94) (v := ?vo_w80) (w1 := (b2.setCell ⟨l,((a) : Int).toNat * 3 + 1,none⟩ (.int .i64 (wrap64 (((a0b d (a)).f1) - (wrap64 (1 + (Int.tmod (wrap64 (a4)) (wrap64 (((a0b c (a)).f1) - u)))))))))) ?hg ?ho ?hn ?hr ?_;(case ho => rfl);(case hg => rfl);(case hn => rfl);(case hr => exact qq_);intro az hw;have hg : b2.grownBy az (some l) := (by rw [hw];exact cQ.2);have hp_ : Kd.R k42 42 az w.heap.size (fun k_ => some k_ ≠ (.slice (some g) c.length ae : Value).ownBlock) (.slice (some ⟨l,0,none⟩) d.length af) s := (by rw [hw,aZ.out];exact cQ.1);clear cQ;replace o := am_ (hp_);replace HB := am_ ((by rw [hw];exact ls_ (HB.out) aQ.out : Below w.heap.size w az));replace x := am_ ((show Kd.C k42 az (some g) y.length y from by rw [E.out];exact Kd.a5t (m := ((q) : Int).toNat) ((Kd.a0s (Kd.a5e (v := (.slice (some ⟨l,0,none⟩) d.length af)) (v1 := (.slice (some ⟨l,0,none⟩) d.length af)) (ok := (fun _ => True)) (qr_ HO_12) hg (.inl rfl))).2.2) cP.out));replace HO_12 := am_ (Kd.a5e (v := (.slice (some ⟨l,0,none⟩) d.length af)) (v1 := (.slice (some ⟨l,0,none⟩) d.length af)) (ok := (fun _ => True)) (qr_ HO_12) hg (.inl rfl));clear hg hw hp_;have ao : 0 ≤ ((a) : Int) := ot_;have ap : (a) < (s.length : Int) := (by have h_ : ((a) : Int) < ((d.length : Int) : Int) := ot_;first | (have e_ := (Kd.a0s o.out).1;omega) | simpa only [aZ.out,List.length_set] using h_);have dc : (((a) : Int) < ((d.length : Int) : Int)) = True := eq_true (ot_);obtain ⟨bd,bI,M,O,T⟩ := a4h (Kd.a0s o.out).2.2 (a) ao ap;obtain rfl : (⟨l,0,none⟩ : Addr) = bd := (by injection bI);(first | simp only [add_plain] at M | simp only [a6y] at M | simp only [Addr.add,Nat.zero_add] at M | skip);(first | simp only [add_plain] at O | simp only [a6y] at O | simp only [Addr.add,Nat.zero_add] at O | skip);(first | simp only [add_plain] at T | simp only [a6y] at T | simp only [Addr.add,Nat.zero_add] at T | skip);replace ao := eq_true ao;replace ap := eq_true ap;have p45 : 0 ≤ ((a) : Int) := ot_;have aU : ((a) : Int) < ((d.length : Int) : Int) := ot_;obtain ⟨dS,be,aV,Z,a0⟩ := Kd.a5s o.out z42 ((a) : Int) p45 aU;obtain rfl := a4x aV;have cq : az.cell? ⟨l,((a) : Int).toNat * 3,none⟩ = some (.int .i64 ((a0b s (a)).f0)) := Z 0 _ rfl;have cr : az.cell? ⟨l,((a) : Int).toNat * 3 + 1,none⟩ = some (.int .i64 ((a0b s (a)).f1)) := Z 1 _ rfl;have cs : az.cell? ⟨l,((a) : Int).toNat * 3 + 2,none⟩ = some (.int .i64 ((a0b s (a)).f2)) := Z 2 _ rfl;have ct : az.frozen? ⟨l,((a) : Int).toNat * 3,none⟩ = false := a0 0;have cu : az.frozen? ⟨l,((a) : Int).toNat * 3 + 1,none⟩ = false := a0 1;have cv : az.frozen? ⟨l,((a) : Int).toNat * 3 + 2,none⟩ = false := a0 2;clear be Z a0 aV;replace p45 := eq_true p45;replace aU := eq_true aU;have em := am_ (show Kd.R k42 42 az w.heap.size (fun k_ => some k_ ≠ (.slice (some g) c.length ae : Value).ownBlock) (.slice (some ⟨l,0,none⟩) d.length af) s from (qr_ o));obtain ⟨fW,dp,en,ce,dq⟩ := Kd.a5s em.out z42 ((a) : Int) (ot_) (by have h_ : ((a) : Int) < ((d.length : Int) : Int) := ot_;first | exact h_ | (have e_ := (Kd.a0s o.out).1;omega) | simpa using h_);obtain rfl := a4x en;have cR := Kd.a8g em.out ((a) : Int) (ot_) (by have h_ : ((a) : Int) < ((d.length : Int) : Int) := ot_;first | exact h_ | (have e_ := (Kd.a0s o.out).1;omega) | simpa using h_) (seg := [.int .i64 (wrap64 (((a0b s (a)).f2) - (wrap64 (1 + (Int.tmod (wrap64 (a4)) (wrap64 (((a0b c (a)).f1) - u)))))))]) (j := 2) dp ce (show 3 ≤ 3 from by decide) (x' := (⟨(a0b s (a)).f0,(a0b s (a)).f1,wrap64 (((a0b s (a)).f2) - (wrap64 (1 + (Int.tmod (wrap64 (a4)) (wrap64 (((a0b c (a)).f1) - u))))))⟩ : S42)) (a4p _ _ _ (⟨(a0b s (a)).f0,(a0b s (a)).f1,wrap64 (((a0b s (a)).f2) - (wrap64 (1 + (Int.tmod (wrap64 (a4)) (wrap64 (((a0b c (a)).f1) - u))))))⟩ : S42) ) (fun _ hk => hk);have eo := ce 2 _ rfl;(try simp only [show (k42).sz = 3 from rfl,Nat.mul_one,Nat.add_zero] at eo);have ep := dq 2;(try simp only [show (k42).sz = 3 from rfl,Nat.mul_one,Nat.add_zero] at ep);clear dp ce dq en) | ((with_reducible refine a5f (t := 3) (p := 103) rfl ?_);refine a4w (t := 3) (p := 103) (v := ?vo_w82) (w1 := (az.setCell ⟨l,((a) : Int).toNat * 3 + 2,none⟩ (.int .i64 (wrap64 (((a0b s (a)).f2) - (wrap64 (1 + (Int.tmod (wrap64 (a4)) (wrap64 (((a0b c (a)).f1) - u)))))))))) ?hg ?ho ?hn ?hr ?_;(case ho => rfl);(case hg => rfl);(case hn => rfl);(case hr => exact qq_);intro cy hw;have hg : az.grownBy cy (some l) := (by rw [hw];exact cR.2);have hp_ : Kd.R k42 42 cy w.heap.size (fun k_ => some k_ ≠ (.slice (some g) c.length ae : Value).ownBlock) (.slice (some ⟨l,0,none⟩) d.length af) ac := (by rw [hw,bV.out];exact cR.1);clear cR;replace o := am_ (hp_);replace HB := am_ ((by rw [hw];exact ls_ (HB.out) aQ.out : Below w.heap.size w cy));replace x := am_ ((show Kd.C k42 cy (some g) y.length y from by rw [E.out];exact Kd.a5t (m := ((q) : Int).toNat) ((Kd.a0s (Kd.a5e (v := (.slice (some ⟨l,0,none⟩) d.length af)) (v1 := (.slice (some ⟨l,0,none⟩) d.length af)) (ok := (fun _ => True)) (qr_ HO_12) hg (.inl rfl))).2.2) cP.out));replace HO_12 := am_ (Kd.a5e (v := (.slice (some ⟨l,0,none⟩) d.length af)) (v1 := (.slice (some ⟨l,0,none⟩) d.length af)) (ok := (fun _ => True)) (qr_ HO_12) hg (.inl rfl));clear hg hw hp_))
 replace HO_12 := am_ (Kd.a2i HO_12.out)
 replace o := am_ (Kd.a2i o.out)
 replace x := am_ (Kd.a2h x.out)
 replace HB := am_ (ld_ HB.out)
 have eq : ((q) : Int) ≤ ((l0.length : Int) : Int) := ot_
 obtain ⟨fX,dr,_,eM,_⟩ := info_parts b4i
 have hroom84 : l0.length ≤ c0 := bx.out
 have er : Kd.C k51 _ A0 l0.length l0 := bw.out
 have es := a7m (P := Try.prog) 22 51 .i64 Try.underlying22 dr A0 l0.length c0 (q) (ot_) eq hroom84
 have cS := Kd.a5t (m := ((q) : Int).toNat) er (by omega)
 have cT : aC.length = ((q) : Int).toNat := (by rw [bg.out,List.length_take];omega)
 rw [← bg.out] at cS
 rw [← cT] at es
 have bh := am_ cS
 have ca := am_ (show aC.length ≤ c0 from by omega)
 clear cS er hroom84 dr eM
 have fY := am_ cT
 clear cT
 replace eq := eq_true eq
 refine a4l (n := 25) (S := fun w' => True) (ds := []) #[I,I,I,I,I,I,I,I,I,I,I,I,I,I,I,I,I,I,I,I,I,I,I,I,I] (by kernel_rfl) rfl rfl trivial (fun hHeld => ?_);refine a3s a0d.b6y a0d.b4r (fun HT_ HW_ => ?_)
 generalize cy.drew = gi at HO_12 o x HB bh hHeld ⊢
 refine qpu_ 0 (some 104) #[U,I,I,I,I,I,I,I,I,I,I,I,I,I,I,I,I,I,I,I,I,I,I,I,I] ?_
 refine qpu_ 1 (some 105) #[U,U,I,I,I,I,I,I,I,I,I,I,I,I,I,I,I,I,I,I,I,I,I,I,I] ?_
 refine qpu_ 2 (some 106) #[U,U,U,I,I,I,I,I,I,I,I,I,I,I,I,I,I,I,I,I,I,I,I,I,I] ?_
 refine qpu_ 3 (some 107) #[U,U,U,U,I,I,I,I,I,I,I,I,I,I,I,I,I,I,I,I,I,I,I,I,I] ?_
 refine qpu_ 4 (some 108) #[U,U,U,U,U,I,I,I,I,I,I,I,I,I,I,I,I,I,I,I,I,I,I,I,I] ?_
 refine qpu_ 5 (some 109) #[U,U,U,U,U,U,I,I,I,I,I,I,I,I,I,I,I,I,I,I,I,I,I,I,I] ?_
 refine qpu_ 6 (some 110) #[U,U,U,U,U,U,U,I,I,I,I,I,I,I,I,I,I,I,I,I,I,I,I,I,I] ?_
 refine qpu_ 7 (some 111) #[U,U,U,U,U,U,U,U,I,I,I,I,I,I,I,I,I,I,I,I,I,I,I,I,I] ?_
 refine one_ (i := 8) (N := some 112) #[U,U,U,U,U,U,U,U,U,I,I,I,I,I,I,I,I,I,I,I,I,I,I,I,I] rfl rfl (a4m HT_.out (by kernel_rfl)) (by decide) (fun K hK => ?_)
 refine a5z Try.func17 (by kernel_rfl) rfl #[.slice A0 aC.length c0, .slice A1 l1.length c1, .slice (some ⟨l,0,none⟩) ac.length af] (by rfl) rfl rfl (by (try simp only [List.map_toArray,List.map_cons,List.map_nil]);first | done | (rw [show ac.length = d.length from (Kd.a0s o.out).1.symm] <;> rfl) | rfl | (simp only [List.length_drop,List.length_take];rfl)) ?_
 with_reducible refine (a0j.calls B _ _ aC _ _ l1 _ _ ac z _ ?s1 ca.out ?s3 bA.out ?s5 ?s6 f5.out).mono ?_
 (case s1 => exact qc_ bh)
 (case s3 => exact qc_ bz)
 (case s5 => exact qv_ (Kd.a0s o.out).2.2)
 (case s6 => rw [show ac.length = d.length from (Kd.a0s o.out).1.symm];exact (Kd.a0s o.out).2.1)
 rintro e gj ⟨rfl,hb⟩
 refine ⟨_,rfl,?_⟩
 replace HO_12 := qrb_ HO_12 hb
 replace o := qrb_ o hb
 replace x := am_ (Kd.a2s (by repeat (first | (with_reducible exact x.out) | (with_reducible refine Kd.a1t ?_ _) | (with_reducible refine Kd.a1u ?_ _) | (with_reducible refine Kd.a2h ?_) | exact x.out)) hb)
 replace HB := qbs_ hb
 (try clear hb)
 (try clear bB)
 (try clear hk)
 (try clear hi)
 have et : ((q) : Int) ≤ ((l0.length : Int) : Int) := ot_
 obtain ⟨fZ,dt,_,eN,_⟩ := info_parts b4i
 have hroom86 : l0.length ≤ c0 := bx.out
 have eu : Kd.C k51 _ A0 l0.length l0 := bw.out
 have ev := a7m (P := Try.prog) 22 51 .i64 Try.underlying22 dt A0 l0.length c0 (q) (ot_) et hroom86
 have cU := Kd.a5t (m := ((q) : Int).toNat) eu (by omega)
 have cV : bs.length = ((q) : Int).toNat := (by rw [cb.out,List.length_take];omega)
 rw [← cb.out] at cU
 rw [← cV] at ev
 have eO := am_ cU
 have eP := am_ (show bs.length ≤ c0 from by omega)
 clear cU eu hroom86 dt eN
 have g0 := am_ cV
 clear cV
 replace et := eq_true et
 have ew : ((q) : Int) ≤ ((c.length : Int) : Int) := ot_
 obtain ⟨g1,du,_,eQ,_⟩ := info_parts a7c
 have hroom87 : c.length ≤ ae := (Kd.a0s HO_12.out).2.1
 have ex : Kd.C k42 _ (some g) c.length c := (Kd.a0s HO_12.out).2.2
 have ey := a7m (P := Try.prog) 24 42 .i64 Try.underlying24 du (some g) c.length ae (q) (ot_) ew hroom87
 have cW := Kd.a5t (m := ((q) : Int).toNat) ex (by omega)
 have cX : bL.length = ((q) : Int).toNat := (by rw [cc.out,List.length_take];omega)
 rw [← cc.out] at cW
 rw [← cX] at ey
 have bk := am_ cW
 have eR := am_ (show bL.length ≤ ae from by omega)
 clear cW ex hroom87 du eQ
 have g2 := am_ cX
 clear cX
 have g3 := am_ (show ((q) : Int).toNat ≤ c.length from by omega)
 replace ew := eq_true ew
 refine hK.out _ _ trivial (fun hHeld => ?_)
 clear hK K
 refine a4q (a' := ?_) ?_ ?_
 rotate_left
 ·show Act.put _ (some 112) _ = _
  exact qp_
 refine qpu_ 9 (some 113) #[U,U,U,U,U,U,U,U,U,U,I,I,I,I,I,I,I,I,I,I,I,I,I,I,I] ?_
 refine qpu_ 10 (some 114) #[U,U,U,U,U,U,U,U,U,U,U,I,I,I,I,I,I,I,I,I,I,I,I,I,I] ?_
 refine qpu_ 11 (some 115) #[U,U,U,U,U,U,U,U,U,U,U,U,I,I,I,I,I,I,I,I,I,I,I,I,I] ?_
 refine qpu_ 12 (some 116) #[U,U,U,U,U,U,U,U,U,U,U,U,U,I,I,I,I,I,I,I,I,I,I,I,I] ?_
 refine qpu_ 13 (some 117) #[U,U,U,U,U,U,U,U,U,U,U,U,U,U,I,I,I,I,I,I,I,I,I,I,I] ?_
 refine qpu_ 14 (some 118) #[U,U,U,U,U,U,U,U,U,U,U,U,U,U,U,I,I,I,I,I,I,I,I,I,I] ?_
 refine qpu_ 15 (some 119) #[U,U,U,U,U,U,U,U,U,U,U,U,U,U,U,U,I,I,I,I,I,I,I,I,I] ?_
 refine qpu_ 16 (some 120) #[U,U,U,U,U,U,U,U,U,U,U,U,U,U,U,U,U,I,I,I,I,I,I,I,I] ?_
 refine qpu_ 17 (some 121) #[U,U,U,U,U,U,U,U,U,U,U,U,U,U,U,U,U,U,I,I,I,I,I,I,I] ?_
 refine qpu_ 18 (some 122) #[U,U,U,U,U,U,U,U,U,U,U,U,U,U,U,U,U,U,U,I,I,I,I,I,I] ?_
 refine qpu_ 19 (some 123) #[U,U,U,U,U,U,U,U,U,U,U,U,U,U,U,U,U,U,U,U,I,I,I,I,I] ?_
 refine qpu_ 20 (some 124) #[U,U,U,U,U,U,U,U,U,U,U,U,U,U,U,U,U,U,U,U,U,I,I,I,I] ?_
 refine one_ (i := 21) (N := some 125) #[U,U,U,U,U,U,U,U,U,U,U,U,U,U,U,U,U,U,U,U,U,U,I,I,I] rfl rfl (a4m HT_.out (by kernel_rfl)) (by decide) (fun K hK => ?_)
 refine a5z Try.func17 (by kernel_rfl) rfl #[.slice A0 bs.length c0, .slice A1 l1.length c1, .slice (some g) bL.length ae] (by rfl) rfl rfl (by (try simp only [List.map_toArray,List.map_cons,List.map_nil]);go_simp;exact ⟨by rw [bg.out,cb.out],by rw [E.out,cc.out]⟩) ?_
 with_reducible refine (a0j.calls B _ _ bs _ _ l1 _ _ bL D _ ?s1 eP.out ?s3 bA.out ?s5 eR.out fd.out).mono ?_
 (case s1 => exact qc_ eO)
 (case s3 => exact qc_ bz)
 (case s5 => repeat (first | exact (by repeat (first | (with_reducible exact bk.out) | (with_reducible refine Kd.a1t ?_ _) | (with_reducible refine Kd.a1u ?_ _) | (with_reducible refine Kd.a2h ?_) | exact bk.out)) | (with_reducible refine Kd.a1t ?_ _) | (with_reducible refine Kd.a1u ?_ _) | (with_reducible refine Kd.a2h ?_)))
 rintro e gk ⟨rfl,hb⟩
 refine ⟨_,rfl,?_⟩
 replace HO_12 := qrb_ HO_12 hb
 replace o := qrb_ o hb
 replace x := am_ (Kd.a2s (by repeat (first | (with_reducible exact x.out) | (with_reducible refine Kd.a1t ?_ _) | (with_reducible refine Kd.a1u ?_ _) | (with_reducible refine Kd.a2h ?_) | exact x.out)) hb)
 replace bk := am_ (Kd.a2s (by repeat (first | (with_reducible exact bk.out) | (with_reducible refine Kd.a1t ?_ _) | (with_reducible refine Kd.a1u ?_ _) | (with_reducible refine Kd.a2h ?_) | exact bk.out)) hb)
 replace HB := qbs_ hb
 (try clear hb)
 (try clear bB)
 (try clear hk)
 (try clear hi)
 refine hK.out _ _ trivial (fun hHeld => ?_)
 clear hK K
 refine a4q (a' := ?_) ?_ ?_
 rotate_left
 ·show Act.put _ (some 125) _ = _
  exact qp_
 refine qpu_ 22 (some 126) #[U,U,U,U,U,U,U,U,U,U,U,U,U,U,U,U,U,U,U,U,U,U,U,I,I] ?_
 refine qpu_ 23 (some 127) #[U,U,U,U,U,U,U,U,U,U,U,U,U,U,U,U,U,U,U,U,U,U,U,U,I] ?_
 refine qpu_ 24 (some 10) #[U,U,U,U,U,U,U,U,U,U,U,U,U,U,U,U,U,U,U,U,U,U,U,U,U] ?_
 refine a4u (a4c HT_.out (by kernel_rfl)) ?_
 try go_wp2
 go_ret
 exact ⟨by first | rfl | (simp [a4e,a4f] <;> rfl) | (simp only [← aX, ← aq];first | rfl | (simp [a4e,a4f] <;> rfl)) | (simp [*,a4e,a4f] <;> rfl),qb_⟩
end Go.Proofs.Ytheibjkjmkanoaa.Px
