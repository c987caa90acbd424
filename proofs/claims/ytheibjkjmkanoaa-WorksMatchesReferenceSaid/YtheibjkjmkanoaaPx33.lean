/- Contracts of Go functions, printed. Conditions: as each theorem states. -/
import Derived.Test.YtheibjkjmkanoaaPx0
import Derived.Test.YtheibjkjmkanoaaPx21
import Derived.Test.YtheibjkjmkanoaaPx25
import Derived.Test.YtheibjkjmkanoaaPx28
import Derived.Test.YtheibjkjmkanoaaPx32
namespace Go.Proofs.Ytheibjkjmkanoaa.Px
open Go.Proofs.Ytheibjkjmkanoaa.Given
open Go.RowKit Go.Proofs.YtheibjkjmkanoaaW.PrintWords Go.Proofs.YtheibjkjmkanoaaW.PrintLast Go.Proofs.YtheibjkjmkanoaaW.PrintMore
attribute [local go_sem] a3r a3s a4b a4c a3f a3g a3t a3u
set_option linter.unusedVariables false
set_option linter.unusedSimpArgs false
mutual
def a0j.j0 : Nat → List (S51) → List (S42) → Int → Bool → Option ((List (S56)) × Int)
 | 0,_,_,_,_ => none
 | k + 1,x0,x1,x2,a => if a = true then (some (([] : List (S56)),1)) else (a0j.l0 k x0 x1 x2 ([] : List (S56)) 0)
def a0j.l0 : Nat → List (S51) → List (S42) → Int → List (S56) → Int → Option ((List (S56)) × Int)
 | 0,_,_,_,_,_ => none
 | k + 1,x0,x1,x2,x9,a => if a < (x1.length : Int) then (if 0 ≤ a then ((a3c.f ((a0b x1 a).f1) ((a0b x1 a).f2)).bind fun c => (if c = true then (if a < (x0.length : Int) then ((a1w.f k ((a0a x0 a).f4) x2).bind fun d => (if d = true then (if x9.length < 8796093022208 then (a0j.l0 k x0 x1 x2 (x9 ++ [(⟨(a0b x1 a).f1,(a0b x1 a).f2⟩ : S56)]) (wrap64 (a + 1))) else (none)) else (a0j.l0 k x0 x1 x2 x9 (wrap64 (a + 1))))) else (none)) else (some (([] : List (S56)),1)))) else (none)) else ((a2d.f k x9).bind fun b => (if b.2 = 0 then (some (b.1,0)) else (some (([] : List (S56)),1))))
end
def a0j.f (k : Nat) (l0 : List (S51)) (l1 : List (S42)) (a2 : Int) : Option ((List (S56)) × Int) := (a1y.f k l0 l1).bind fun a => (if a = true then (if a2 < 1 then (a0j.j0 k l0 l1 a2 true) else (a0j.j0 k l0 l1 a2 (decide (a2 > 64)))) else (a0j.j0 k l0 l1 a2 true))
theorem a0j.a1u : ∀ k,(∀ y0 y1 y2 y3,LeO (a0j.j0 k y0 y1 y2 y3) (a0j.j0 (k + 1) y0 y1 y2 y3)) ∧ (∀ y0 y1 y2 y3 y4,LeO (a0j.l0 k y0 y1 y2 y3 y4) (a0j.l0 (k + 1) y0 y1 y2 y3 y4))
 | 0 => ⟨fun _ _ _ _ r h => by simp [a0j.j0] at h,fun _ _ _ _ _ r h => by simp [a0j.l0] at h⟩
 | k + 1 => by
  obtain ⟨a,b⟩ := a0j.a1u k
  refine ⟨?_,?_⟩ <;> intros <;> (first | unfold a0j.j0 | unfold a0j.l0) <;> with_reducible (repeat' first | apply a | apply b | apply a2d.mono | apply a1w.mono | apply a1y.mono | apply LeO.refl | apply LeO.none | apply LeO.ite | refine LeO.bind ?_ (fun _ => ?_))
theorem a0j.mono : ∀ a0 a1 a2 k,LeO (a0j.f k a0 a1 a2) (a0j.f (k + 1) a0 a1 a2) := by
 intro a0 a1 a2 k
 obtain ⟨a,b⟩ := a0j.a1u k
 unfold a0j.f
 with_reducible (repeat' first | apply a | apply b | apply a2d.mono | apply a1w.mono | apply a1y.mono | apply LeO.refl | apply LeO.none | apply LeO.ite | refine LeO.bind ?_ (fun _ => ?_))
def a0j.T8 : Bool × List (List Nat × List Nat) := (true,[([],[]),([],[]),([0,1],[0,1]),([2],[2]),([3],[3]),([],[]),([],[]),([5,6],[5,6]),([7],[7]),([8],[8]),([4,9],[4,9]),([],[]),([11,10,0,1,2,3,4,5,6,7,8,9,10,11],[10,11])])
def a0j.B8 : List Nat := [0,0,3,7,15,0,0,96,224,480,1023,0,4095]
theorem a0j.tab8 : rtab .any (opsOf Try.f22 8) = a0j.T8 := by kernel_rfl
theorem a0j.b3e : a5m a0j.T8.2 a0j.B8 = true := by kernel_rfl
set_option maxHeartbeats 8000000 in
set_option maxRecDepth 100000 in
theorem a0j.calls (k : Nat) (A0 : Option Addr) (c0 : Nat) (l0 : List (S51)) (A1 : Option Addr) (c1 : Nat) (l1 : List (S42)) (a2 : Int) (r1 : List (S56)) (r2 : Int) (w : World) (aU : Kd.C k51 w A0 l0.length l0) (aV : l0.length ≤ c0) (aW : Kd.C k42 w A1 l1.length l1) (aX : l1.length ≤ c1) (h : a0j.f k l0 l1 a2 = some (r1,r2)) :
  Calls Try.prog 22 #[.slice A0 l0.length c0, .slice A1 l1.length c1, .int .i64 a2] w fun e w' => ∃ aY : Value,e = .returned (.tuple #[aY, .int .i64 r2]) ∧ Kd.R k56 56 w' w.heap.size (fun _ => True) aY r1 ∧ Below w.heap.size w w' := by
 have bJ := Try.underlying56
 have ay := am_ aU
 have bg := am_ aV
 clear aU aV
 have ac := am_ aW
 have bh := am_ aX
 clear aW aX
 have HB := am_ (Below.refl w.heap.size w)
 have H : ((a1y.f k l0 l1).bind fun aj => (if aj = true then (if a2 < 1 then (a0j.j0 k l0 l1 a2 true) else (a0j.j0 k l0 l1 a2 (decide (a2 > 64)))) else (a0j.j0 k l0 l1 a2 true))) = some (r1,r2) := h
 clear h
 replace H := bm_ H
 obtain ⟨aj,aZ,H⟩ := H
 have A4 := am_ aZ
 clear aZ
 have az := am_ H
 clear H
 go_enter Try.func22,Try.ntmps22
 go_upto_region 2 with (first | ((with_reducible refine a0k (f := 43) rfl ?_);refine a1n (some 18) rfl rfl Try.func43 (by kernel_rfl) rfl #[.slice A0 l0.length c0, .slice A1 l1.length c1] rfl ql_ ?_;(with_reducible refine (a1y.calls k _ _ l0 _ _ l1 aj _ ?s1 bg.out ?s3 bh.out A4.out).mono ?_);(case s1 => repeat (first | exact ay.out | (with_reducible refine Kd.a2n ?_ _) | (with_reducible refine Kd.a2o ?_ _) | (with_reducible refine Kd.a2u ?_)));(case s3 => repeat (first | exact ac.out | (with_reducible refine Kd.a2n ?_ _) | (with_reducible refine Kd.a2o ?_ _) | (with_reducible refine Kd.a2u ?_)));rintro e w' ⟨rfl,⟨nd,rfl⟩⟩;refine ⟨_,rfl,?_⟩))
 (try simp only [Act.put,List.setIfInBounds_toArray,List.set_cons_zero,List.set_cons_succ])
 go_cut [28] (fun bi wc => ∃ (kq : Nat) (ab : Bool),bi = .bool ab ∧ Aside0 (a0j.j0 kq l0 l1 a2 ab = some (r1,r2)) ∧ Aside0 (kq ≤ k) ∧ Aside0 (Below w.heap.size w wc))
 case first =>
  have H := az.out
  clear az
  by_cases c6 : aj = true
  rotate_left
  ·replace c6 := be_ c6
   subst c6
   replace H := qin_ H
   have H' := am_ H
   clear H
   go_wp2
   go_meet
   case rel => exact ⟨_,(true),qs_,H',⟨qo_⟩,⟨qb_⟩⟩
  subst c6
  replace H := qip_ H
  by_cases c7 : a2 < 1
  ·rw [if_pos c7] at H
   have a4 : decide (a2 < 1) = true := decide_eq_true c7
   clear c7
   (first | rw [a4] | (simp only [a3x,a4g];rw [a4]) | skip)
   have H' := am_ H
   clear H
   go_wp2
   go_meet
   case rel => exact ⟨_,(true),qs_,H',⟨qo_⟩,⟨qb_⟩⟩
  rw [if_neg c7] at H
  have a4 : decide (a2 < 1) = false := decide_eq_false c7
  clear c7
  (first | rw [a4] | (simp only [a3x,a4g];rw [a4]) | skip)
  have H' := am_ H
  clear H
  go_wp2
  go_meet
  case rel => exact ⟨_,(decide (a2 > 64)),qs_,H',⟨qo_⟩,⟨qb_⟩⟩
 case rest =>
 clear az
 try clear c1
 try clear c6
 try clear a4
 obtain ⟨kq,ab,rfl,HA,am,HB⟩ := hcut
 cases kq with
 | zero => exact absurd HA.out (by simp [a0j.j0])
 | succ b0 =>
 have H := HA.out
 clear HA
 simp only [a0j.j0] at H
 by_cases c8 : ab = true
 ·subst c8
  replace H := qip_ H
  simp only [Option.some.injEq,Prod.mk.injEq] at H
  obtain ⟨rfl,rfl⟩ := H
  go_wp2
  go_ret2
  exact ⟨_,qx_,by first | exact Kd.a5p _ _ _ _ _ | exact Kd.N_nil _ _ _ _ _ | exact Kd.a5r _ _ _ _ _ | exact Kd.Q_nil _ _ _ _ _ | exact Kd.S_nil _ _ _ _ _,qb_⟩
 replace c8 := be_ c8
 subst c8
 replace H := qin_ H
 have H' := am_ H
 clear H
 go_wp2
 go_loopg [9,10] b0 (fun kq v9 bj w' => ∃ (E : List (S56)) (a : Int),bj = .int .i64 a ∧ Aside0 (a0j.l0 kq l0 l1 a2 E a = some (r1,r2)) ∧ Aside0 (kq ≤ b0) ∧ Aside0 (Kd.R k56 56 w' w.heap.size (fun _ => True) v9 E) ∧ Aside0 (Below w.heap.size w w'))
 case atStart => exact ⟨(([] : List (S56))),(0),qs_,H',⟨Nat.le_refl _⟩,⟨by first | exact Kd.a5p _ _ _ _ _ | exact Kd.N_nil _ _ _ _ _ | exact Kd.a5r _ _ _ _ _ | exact Kd.Q_nil _ _ _ _ _ | exact Kd.S_nil _ _ _ _ _⟩,⟨qb_⟩⟩
 case round =>
 clear H'
 try clear c1
 try clear c6
 try clear a4
 try clear c8
 obtain ⟨E,a,rfl,HA,an,HO_9,HB⟩ := hrel
 cases gk with
 | zero => exact absurd HA.out (by simp [a0j.l0])
 | succ k2 =>
 have H := HA.out
 clear HA
 simp only [a0j.l0] at H
 by_cases c9 : a < (l1.length : Int)
 rotate_left
 ·rw [if_neg c9] at H
  have b6 : decide (a < (l1.length : Int)) = false := decide_eq_false c9
  clear c9
  replace H := bm_ H
  obtain ⟨⟨ak,a3⟩,aA,H⟩ := H
  replace H : (if a3 = 0 then (some (ak,0)) else (some (([] : List (S56)),1))) = some (r1,r2) := H
  have b1 := am_ aA
  clear aA
  by_cases ad : a3 = 0
  rotate_left
  ·rw [if_neg ad] at H
   have aK : (a3 == 0) = false := beq_eq_false_iff_ne.mpr ad
   have aM : (a3 != 0) = true := bne_iff_ne.mpr ad
   simp only [Option.some.injEq,Prod.mk.injEq] at H
   obtain ⟨rfl,rfl⟩ := H
   obtain ⟨b7,b8,b9⟩ := Kd.a2v HO_9.out
   subst b9
   go_wp2_with (first | ((with_reducible refine a0k (f := 53) rfl ?_);refine a1n (some 64) rfl rfl Try.func53 (by kernel_rfl) rfl #[.slice b7 E.length b8] rfl ql_ ?_;(with_reducible refine (a2d.calls k2 _ _ E ak a3 _ ?s1 ?s2 b1.out).mono ?_);(case s1 => exact qv_ (Kd.a1b HO_9.out).2.2);(case s2 => exact (Kd.a1b HO_9.out).2.1);rintro e bR ⟨ba,rfl,ae,hb⟩;refine ⟨_,rfl,?_⟩;have ao := am_ (Kd.a3d (Kd.a3z ae (Kd.R_lt (qr_ HO_9))) (a0w qb_));replace HO_9 := qel_ HO_9 ae hb;replace HB := qbs_ hb;(try clear hb);(try clear ap);(try clear hk);(try clear hi);(try clear ae)))
   go_ret2
   exact ⟨_,qx_,by first | exact Kd.a5p _ _ _ _ _ | exact Kd.N_nil _ _ _ _ _ | exact Kd.a5r _ _ _ _ _ | exact Kd.Q_nil _ _ _ _ _ | exact Kd.S_nil _ _ _ _ _,qb_⟩
  rw [if_pos ad] at H
  have aK : (a3 == 0) = true := beq_iff_eq.mpr ad
  have aM : (a3 != 0) = false := bne_eq_false_iff_eq.mpr ad
  clear ad
  simp only [Option.some.injEq,Prod.mk.injEq] at H
  obtain ⟨rfl,rfl⟩ := H
  obtain ⟨bb,bc,bd⟩ := Kd.a2v HO_9.out
  subst bd
  go_wp2_with (first | ((with_reducible refine a0k (f := 53) rfl ?_);refine a1n (some 64) rfl rfl Try.func53 (by kernel_rfl) rfl #[.slice bb E.length bc] rfl ql_ ?_;(with_reducible refine (a2d.calls k2 _ _ E ak a3 _ ?s1 ?s2 b1.out).mono ?_);(case s1 => exact qv_ (Kd.a1b HO_9.out).2.2);(case s2 => exact (Kd.a1b HO_9.out).2.1);rintro e bS ⟨ba,rfl,ae,hb⟩;refine ⟨_,rfl,?_⟩;have ao := am_ (Kd.a3d (Kd.a3z ae (Kd.R_lt (qr_ HO_9))) (a0w qb_));replace HO_9 := qel_ HO_9 ae hb;replace HB := qbs_ hb;(try clear hb);(try clear ap);(try clear hk);(try clear hi);(try clear ae)))
  go_ret2
  exact ⟨_,qx_,by (with_reducible repeat (first | apply Kd.a2a | apply Kd.a2b | apply Kd.a2f));exact Kd.a2h ao.out (fun _ hk => trivial),qb_⟩
 rw [if_pos c9] at H
 have b6 : decide (a < (l1.length : Int)) = true := decide_eq_true c9
 clear c9
 obtain ⟨bB,H⟩ := qid_ H
 replace H := bm_ H
 obtain ⟨be,aC,H⟩ := H
 have aD := am_ aC
 clear aC
 by_cases aq : be = true
 rotate_left
 ·replace aq := be_ aq
  subst aq
  replace H := qin_ H
  simp only [Option.some.injEq,Prod.mk.injEq] at H
  obtain ⟨rfl,rfl⟩ := H
  try go_wp2
  replace HO_9 := am_ (Kd.a2f HO_9.out)
  replace HB := am_ (ld_ HB.out)
  have G : 0 ≤ (a : Int) := ot_
  have I : a < (l1.length : Int) := ot_
  obtain ⟨j,af,x,y,z⟩ := a3w ac.out a G I
  have m := z
  have q := y
  have r := x
  cases af
  replace x := qh_ HB x
  replace y := qh_ HB y
  replace z := qh_ HB z
  replace G := eq_true G
  replace I := eq_true I
  have J : 0 ≤ (a : Int) := ot_
  have L : a < (l1.length : Int) := ot_
  obtain ⟨a7,ag,A,B,D⟩ := a3w ac.out a J L
  have s := D
  have u := B
  have v := A
  obtain rfl : j = a7 := (by injection ag)
  replace A := qh_ HB A
  replace B := qh_ HB B
  replace D := qh_ HB D
  replace J := eq_true J
  replace L := eq_true L
  refine a4s (n := 13) (S := fun w' => w'.cell? (j.add ((a).toNat * 3)) = some (.int .i64 ((a0b l1 a).f0)) ∧ w'.cell? ⟨(j.add ((a).toNat * 3)).block,(j.add ((a).toNat * 3)).off + 1,none⟩ = some (.int .i64 ((a0b l1 a).f1)) ∧ w'.cell? ⟨(j.add ((a).toNat * 3)).block,(j.add ((a).toNat * 3)).off + 2,none⟩ = some (.int .i64 ((a0b l1 a).f2)) ∧ w'.cell? (j.add ((a).toNat * 3)) = some (.int .i64 ((a0b l1 a).f0)) ∧ w'.cell? ⟨(j.add ((a).toNat * 3)).block,(j.add ((a).toNat * 3)).off + 1,none⟩ = some (.int .i64 ((a0b l1 a).f1)) ∧ w'.cell? ⟨(j.add ((a).toNat * 3)).block,(j.add ((a).toNat * 3)).off + 2,none⟩ = some (.int .i64 ((a0b l1 a).f2))) (ds := []) #[Y,Y,Y,Y,Y,Y,Y,Y,Y,Y,Y,Y,Y] (by kernel_rfl) rfl rfl ⟨((HB.out.cell (World.block_lt_of_cell? w _ r)).trans r),((HB.out.cell (World.block_lt_of_cell? w _ q)).trans q),((HB.out.cell (World.block_lt_of_cell? w _ m)).trans m),((HB.out.cell (World.block_lt_of_cell? w _ v)).trans v),((HB.out.cell (World.block_lt_of_cell? w _ u)).trans u),((HB.out.cell (World.block_lt_of_cell? w _ s)).trans s)⟩ (fun hHeld => ?_);refine a3y a0j.tab8 a0j.b3e (fun HT_ HW_ => ?_)
  generalize wr.drew = bT at HO_9 HB x y z A B D hHeld ⊢
  refine qpu_ 0 (some 35) #[Z,Y,Y,Y,Y,Y,Y,Y,Y,Y,Y,Y,Y] ?_
  refine qpu_ 1 (some 36) #[Z,Z,Y,Y,Y,Y,Y,Y,Y,Y,Y,Y,Y] ?_
  refine qpu_ 2 (some 37) #[Z,Z,Z,Y,Y,Y,Y,Y,Y,Y,Y,Y,Y] ?_
  refine qpu_ 3 (some 38) #[Z,Z,Z,Z,Y,Y,Y,Y,Y,Y,Y,Y,Y] ?_
  refine qpu_ 5 (some 40) #[Z,Z,Z,Z,Y,Z,Y,Y,Y,Y,Y,Y,Y] ?_
  refine qpu_ 6 (some 41) #[Z,Z,Z,Z,Y,Z,Z,Y,Y,Y,Y,Y,Y] ?_
  refine qpu_ 7 (some 42) #[Z,Z,Z,Z,Y,Z,Z,Z,Y,Y,Y,Y,Y] ?_
  refine qpu_ 8 (some 43) #[Z,Z,Z,Z,Y,Z,Z,Z,Z,Y,Y,Y,Y] ?_
  refine a5q 4 (some 39) #[Z,Z,Z,Z,Z,Z,Z,Z,Z,Y,Y,Y,Y] hHeld ?_
  refine a5q 9 (some 44) #[Z,Z,Z,Z,Z,Z,Z,Z,Z,Z,Y,Y,Y] hHeld ?_
  refine qpu_ 10 (some 45) #[Z,Z,Z,Z,Z,Z,Z,Z,Z,Z,Z,Y,Y] ?_
  refine one_ (i := 11) (N := some 11) #[Z,Z,Z,Z,Z,Z,Z,Z,Z,Z,Z,Z,Y] rfl rfl (a4m HT_.out (by kernel_rfl)) (by decide) (fun K hK => ?_)
  refine a7k ?hg (N := 11) ?hd (cs := #[.int .i64 0, .int .i64 0]) (t := 56) ?hr ?_;(case hd => rfl);(case hg => rfl);(case hr => exact qq_)
  intro c hg b2 hbox hb
  replace HO_9 := am_ (Kd.a4t (Kd.a5j (qr_ HO_9) c (Nat.le_of_eq hg.symm)) hb)
  have l := am_ (hbox)
  have d := qga_ hg
  have ar := qga_ hg
  replace HB := qbs_ hb
  clear hb hbox hg
  refine hK.out _ _ ⟨((HB.out.cell (World.block_lt_of_cell? w _ r)).trans r),((HB.out.cell (World.block_lt_of_cell? w _ q)).trans q),((HB.out.cell (World.block_lt_of_cell? w _ m)).trans m),((HB.out.cell (World.block_lt_of_cell? w _ v)).trans v),((HB.out.cell (World.block_lt_of_cell? w _ u)).trans u),((HB.out.cell (World.block_lt_of_cell? w _ s)).trans s)⟩ (fun hHeld => ?_)
  clear hK K
  refine a4r (a' := ?_) ?_ ?_
  rotate_left
  ·show Act.put _ (some 11) _ = _
   exact qp_
  refine one_ (i := 12) (N := none) #[Z,Z,Z,Z,Z,Z,Z,Z,Z,Z,Z,Z,Z] rfl rfl (a4m HT_.out (by kernel_rfl)) (by decide) (fun K hK => ?_)
  have bK : b2.cell? ⟨c,0,none⟩ = some (.int .i64 0) := (bc_ l.out 0).trans rfl
  have bC := bf_ l.out 0
  have bL : b2.cell? ⟨c,1,none⟩ = some (.int .i64 0) := (bc_ l.out 1).trans rfl
  have bD := bf_ l.out 1
  refine b1w (w1 := ?_) (by rfl) rfl ?_ ?_
  rotate_left
  ·go_simp
   rfl
  refine hK.out _ _ ⟨((cell_far (p := ⟨c,_,none⟩) (qcl_ r d) _).trans (((cell_far (p := ⟨c,_,none⟩) (qcl_ r d) _).trans (hHeld.1)))),((cell_far (p := ⟨c,_,none⟩) (qcl_ q d) _).trans (((cell_far (p := ⟨c,_,none⟩) (qcl_ q d) _).trans (hHeld.2.1)))),((cell_far (p := ⟨c,_,none⟩) (qcl_ m d) _).trans (((cell_far (p := ⟨c,_,none⟩) (qcl_ m d) _).trans (hHeld.2.2.1)))),((cell_far (p := ⟨c,_,none⟩) (qcl_ v d) _).trans (((cell_far (p := ⟨c,_,none⟩) (qcl_ v d) _).trans (hHeld.2.2.2.1)))),((cell_far (p := ⟨c,_,none⟩) (qcl_ u d) _).trans (((cell_far (p := ⟨c,_,none⟩) (qcl_ u d) _).trans (hHeld.2.2.2.2.1)))),((cell_far (p := ⟨c,_,none⟩) (qcl_ s d) _).trans (((cell_far (p := ⟨c,_,none⟩) (qcl_ s d) _).trans (hHeld.2.2.2.2.2))))⟩ (fun hHeld => ?_)
  clear hK K
  refine a4z (a4l HT_.out (by kernel_rfl)) ?_
  obtain ⟨bk,bl⟩ := qz2_ l;obtain ⟨bm,bn⟩ := qf2_ l
  try go_wp2_with (first | ((with_reducible refine a0k (f := 51) rfl ?_);refine a1n (some 47) rfl rfl Try.func51 (by kernel_rfl) rfl #[.agg #[.int .i64 ((a0b l1 a).f1), .int .i64 ((a0b l1 a).f2)]] rfl ql_ ?_;(with_reducible refine (a3c.calls ((a0b l1 a).f1) ((a0b l1 a).f2) false _ aD.out).mono ?_);rintro e bU ⟨rfl,hb⟩;refine ⟨_,rfl,?_⟩;replace HO_9 := am_ (Kd.a4t (by (with_reducible repeat (first | apply Kd.a2a | apply Kd.a2b | apply Kd.a2f));exact (Kd.a2h (Kd.a4a (p := ⟨c,1,none⟩) (Kd.a4a (p := ⟨c,0,none⟩) (Kd.a2h HO_9.out (fun k_ hk => (⟨hk,hk.2⟩ : _ ∧ k_ ≠ c))) (fun _ hk => hk.2) (.int .i64 ((a0b l1 a).f1))) (fun _ hk => hk.2) (.int .i64 ((a0b l1 a).f2))) (fun _ h_ => h_.1))) hb);replace l := am_ (a2q (g := c) (o := .cells #[.int .i64 ((a0b l1 a).f1), .int .i64 ((a0b l1 a).f2)] 56 (0,0)) (by refine qd_ ?_;refine a0h (cs := #[.int .i64 ((a0b l1 a).f1), .int .i64 0]) ?_ 1 _ rfl;refine qd_ ?_;refine a0h (cs := #[.int .i64 0, .int .i64 0]) ?_ 0 _ rfl;refine qd_ ?_;exact l.out) hb);replace HB := qbs_ hb;(try clear hb);(try clear ap);(try clear hk);(try clear hi)))
  go_ret2
  exact ⟨_,qx_,by first | exact Kd.a5p _ _ _ _ _ | exact Kd.N_nil _ _ _ _ _ | exact Kd.a5r _ _ _ _ _ | exact Kd.Q_nil _ _ _ _ _ | exact Kd.S_nil _ _ _ _ _,qb_⟩
 subst aq
 replace H := qip_ H
 obtain ⟨bE,H⟩ := qid_ H
 replace H := bm_ H
 obtain ⟨bf,aE,H⟩ := H
 have b3 := am_ aE
 clear aE
 by_cases au : bf = true
 rotate_left
 ·replace au := be_ au
  subst au
  replace H := qin_ H
  have H' := am_ H
  clear H
  try go_wp2
  replace HO_9 := am_ (Kd.a2f HO_9.out)
  replace HB := am_ (ld_ HB.out)
  have G : 0 ≤ (a : Int) := ot_
  have I : a < (l1.length : Int) := ot_
  obtain ⟨j,af,x,y,z⟩ := a3w ac.out a G I
  have m := z
  have q := y
  have r := x
  cases af
  replace x := qh_ HB x
  replace y := qh_ HB y
  replace z := qh_ HB z
  replace G := eq_true G
  replace I := eq_true I
  have J : 0 ≤ (a : Int) := ot_
  have L : a < (l1.length : Int) := ot_
  obtain ⟨a7,ag,A,B,D⟩ := a3w ac.out a J L
  have s := D
  have u := B
  have v := A
  obtain rfl : j = a7 := (by injection ag)
  replace A := qh_ HB A
  replace B := qh_ HB B
  replace D := qh_ HB D
  replace J := eq_true J
  replace L := eq_true L
  refine a4s (n := 13) (S := fun w' => w'.cell? (j.add ((a).toNat * 3)) = some (.int .i64 ((a0b l1 a).f0)) ∧ w'.cell? ⟨(j.add ((a).toNat * 3)).block,(j.add ((a).toNat * 3)).off + 1,none⟩ = some (.int .i64 ((a0b l1 a).f1)) ∧ w'.cell? ⟨(j.add ((a).toNat * 3)).block,(j.add ((a).toNat * 3)).off + 2,none⟩ = some (.int .i64 ((a0b l1 a).f2)) ∧ w'.cell? (j.add ((a).toNat * 3)) = some (.int .i64 ((a0b l1 a).f0)) ∧ w'.cell? ⟨(j.add ((a).toNat * 3)).block,(j.add ((a).toNat * 3)).off + 1,none⟩ = some (.int .i64 ((a0b l1 a).f1)) ∧ w'.cell? ⟨(j.add ((a).toNat * 3)).block,(j.add ((a).toNat * 3)).off + 2,none⟩ = some (.int .i64 ((a0b l1 a).f2))) (ds := []) #[Y,Y,Y,Y,Y,Y,Y,Y,Y,Y,Y,Y,Y] (by kernel_rfl) rfl rfl ⟨((HB.out.cell (World.block_lt_of_cell? w _ r)).trans r),((HB.out.cell (World.block_lt_of_cell? w _ q)).trans q),((HB.out.cell (World.block_lt_of_cell? w _ m)).trans m),((HB.out.cell (World.block_lt_of_cell? w _ v)).trans v),((HB.out.cell (World.block_lt_of_cell? w _ u)).trans u),((HB.out.cell (World.block_lt_of_cell? w _ s)).trans s)⟩ (fun hHeld => ?_);refine a3y a0j.tab8 a0j.b3e (fun HT_ HW_ => ?_)
  generalize wr.drew = bV at HO_9 HB x y z A B D hHeld ⊢
  refine qpu_ 0 (some 35) #[Z,Y,Y,Y,Y,Y,Y,Y,Y,Y,Y,Y,Y] ?_
  refine qpu_ 1 (some 36) #[Z,Z,Y,Y,Y,Y,Y,Y,Y,Y,Y,Y,Y] ?_
  refine qpu_ 2 (some 37) #[Z,Z,Z,Y,Y,Y,Y,Y,Y,Y,Y,Y,Y] ?_
  refine qpu_ 3 (some 38) #[Z,Z,Z,Z,Y,Y,Y,Y,Y,Y,Y,Y,Y] ?_
  refine qpu_ 5 (some 40) #[Z,Z,Z,Z,Y,Z,Y,Y,Y,Y,Y,Y,Y] ?_
  refine qpu_ 6 (some 41) #[Z,Z,Z,Z,Y,Z,Z,Y,Y,Y,Y,Y,Y] ?_
  refine qpu_ 7 (some 42) #[Z,Z,Z,Z,Y,Z,Z,Z,Y,Y,Y,Y,Y] ?_
  refine qpu_ 8 (some 43) #[Z,Z,Z,Z,Y,Z,Z,Z,Z,Y,Y,Y,Y] ?_
  refine a5q 4 (some 39) #[Z,Z,Z,Z,Z,Z,Z,Z,Z,Y,Y,Y,Y] hHeld ?_
  refine a5q 9 (some 44) #[Z,Z,Z,Z,Z,Z,Z,Z,Z,Z,Y,Y,Y] hHeld ?_
  refine qpu_ 10 (some 45) #[Z,Z,Z,Z,Z,Z,Z,Z,Z,Z,Z,Y,Y] ?_
  refine one_ (i := 11) (N := some 11) #[Z,Z,Z,Z,Z,Z,Z,Z,Z,Z,Z,Z,Y] rfl rfl (a4m HT_.out (by kernel_rfl)) (by decide) (fun K hK => ?_)
  refine a7k ?hg (N := 11) ?hd (cs := #[.int .i64 0, .int .i64 0]) (t := 56) ?hr ?_;(case hd => rfl);(case hg => rfl);(case hr => exact qq_)
  intro c hg b4 hbox hb
  replace HO_9 := am_ (Kd.a4t (Kd.a5j (qr_ HO_9) c (Nat.le_of_eq hg.symm)) hb)
  have l := am_ (hbox)
  have d := qga_ hg
  have ar := qga_ hg
  replace HB := qbs_ hb
  clear hb hbox hg
  refine hK.out _ _ ⟨((HB.out.cell (World.block_lt_of_cell? w _ r)).trans r),((HB.out.cell (World.block_lt_of_cell? w _ q)).trans q),((HB.out.cell (World.block_lt_of_cell? w _ m)).trans m),((HB.out.cell (World.block_lt_of_cell? w _ v)).trans v),((HB.out.cell (World.block_lt_of_cell? w _ u)).trans u),((HB.out.cell (World.block_lt_of_cell? w _ s)).trans s)⟩ (fun hHeld => ?_)
  clear hK K
  refine a4r (a' := ?_) ?_ ?_
  rotate_left
  ·show Act.put _ (some 11) _ = _
   exact qp_
  refine one_ (i := 12) (N := none) #[Z,Z,Z,Z,Z,Z,Z,Z,Z,Z,Z,Z,Z] rfl rfl (a4m HT_.out (by kernel_rfl)) (by decide) (fun K hK => ?_)
  have bM : b4.cell? ⟨c,0,none⟩ = some (.int .i64 0) := (bc_ l.out 0).trans rfl
  have bF := bf_ l.out 0
  have bN : b4.cell? ⟨c,1,none⟩ = some (.int .i64 0) := (bc_ l.out 1).trans rfl
  have bG := bf_ l.out 1
  refine b1w (w1 := ?_) (by rfl) rfl ?_ ?_
  rotate_left
  ·go_simp
   rfl
  refine hK.out _ _ ⟨((cell_far (p := ⟨c,_,none⟩) (qcl_ r d) _).trans (((cell_far (p := ⟨c,_,none⟩) (qcl_ r d) _).trans (hHeld.1)))),((cell_far (p := ⟨c,_,none⟩) (qcl_ q d) _).trans (((cell_far (p := ⟨c,_,none⟩) (qcl_ q d) _).trans (hHeld.2.1)))),((cell_far (p := ⟨c,_,none⟩) (qcl_ m d) _).trans (((cell_far (p := ⟨c,_,none⟩) (qcl_ m d) _).trans (hHeld.2.2.1)))),((cell_far (p := ⟨c,_,none⟩) (qcl_ v d) _).trans (((cell_far (p := ⟨c,_,none⟩) (qcl_ v d) _).trans (hHeld.2.2.2.1)))),((cell_far (p := ⟨c,_,none⟩) (qcl_ u d) _).trans (((cell_far (p := ⟨c,_,none⟩) (qcl_ u d) _).trans (hHeld.2.2.2.2.1)))),((cell_far (p := ⟨c,_,none⟩) (qcl_ s d) _).trans (((cell_far (p := ⟨c,_,none⟩) (qcl_ s d) _).trans (hHeld.2.2.2.2.2))))⟩ (fun hHeld => ?_)
  clear hK K
  refine a4z (a4l HT_.out (by kernel_rfl)) ?_
  obtain ⟨bo,bp⟩ := qz2_ l;obtain ⟨bq,br⟩ := qf2_ l
  try go_wp2_with (first | ((with_reducible refine a0k (f := 51) rfl ?_);refine a1n (some 47) rfl rfl Try.func51 (by kernel_rfl) rfl #[.agg #[.int .i64 ((a0b l1 a).f1), .int .i64 ((a0b l1 a).f2)]] rfl ql_ ?_;(with_reducible refine (a3c.calls ((a0b l1 a).f1) ((a0b l1 a).f2) true _ aD.out).mono ?_);rintro e bW ⟨rfl,hb⟩;refine ⟨_,rfl,?_⟩;replace HO_9 := am_ (Kd.a4t (by (with_reducible repeat (first | apply Kd.a2a | apply Kd.a2b | apply Kd.a2f));exact (Kd.a2h (Kd.a4a (p := ⟨c,1,none⟩) (Kd.a4a (p := ⟨c,0,none⟩) (Kd.a2h HO_9.out (fun k_ hk => (⟨hk,hk.2⟩ : _ ∧ k_ ≠ c))) (fun _ hk => hk.2) (.int .i64 ((a0b l1 a).f1))) (fun _ hk => hk.2) (.int .i64 ((a0b l1 a).f2))) (fun _ h_ => h_.1))) hb);replace l := am_ (a2q (g := c) (o := .cells #[.int .i64 ((a0b l1 a).f1), .int .i64 ((a0b l1 a).f2)] 56 (0,0)) (by refine qd_ ?_;refine a0h (cs := #[.int .i64 ((a0b l1 a).f1), .int .i64 0]) ?_ 1 _ rfl;refine qd_ ?_;refine a0h (cs := #[.int .i64 0, .int .i64 0]) ?_ 0 _ rfl;refine qd_ ?_;exact l.out) hb);replace HB := qbs_ hb;(try clear hb);(try clear ap);(try clear hk);(try clear hi);have a5 : 0 ≤ (a : Int) := ot_;have a6 : a < (l0.length : Int) := ot_;obtain ⟨aN,aG,aH,ah,ai,al,M,O,P,T,U,W,X,a0,a1⟩ := a4f ay.out a a5 a6;cases al;replace M := qh_ HB M;replace O := qh_ HB O;replace P := qh_ HB P;replace T := qh_ HB T;replace U := qh_ HB U;have aw := am_ X;have ax := am_ W;clear X W;have a9 := am_ a1;have aa := am_ a0;clear a1 a0;replace a5 := eq_true a5;replace a6 := eq_true a6) | ((with_reducible refine a0k (f := 52) rfl ?_);refine a1n (some 56) rfl rfl Try.func52 (by kernel_rfl) rfl #[.slice ah ((a0a l0 a).f4).length ai, .int .i64 a2] rfl ql_ ?_;(with_reducible refine (a1w.calls k2 _ _ ((a0a l0 a).f4) a2 false _ ?s1 aa.out b3.out).mono ?_);(case s1 => exact qc_ a9);rintro e w' ⟨rfl,⟨nd,rfl⟩⟩;refine ⟨_,rfl,?_⟩))
  go_roundg k2
  case measure => have := am.out;have := an.out;omega
  case rel => exact ⟨(E),(wrap64 (a + 1)),qs_,H',⟨by have := am.out;have := an.out;omega⟩,⟨by (with_reducible repeat (first | apply Kd.a2a | apply Kd.a2b | apply Kd.a2f));exact Kd.a2h HO_9.out (fun _ hk => trivial)⟩,⟨qb_⟩⟩
 subst au
 replace H := qip_ H
 by_cases av : E.length < 8796093022208
 rotate_left
 ·rw [if_neg av] at H
  exact absurd H (by simp)
 rw [if_pos av] at H
 have aQ := am_ av
 clear av
 obtain ⟨aI,a8⟩ : ∃ y_ : List (S56),y_ = (E ++ [(⟨(a0b l1 a).f1,(a0b l1 a).f2⟩ : S56)]) := ⟨_,rfl⟩
 replace H : (a0j.l0 k2 l0 l1 a2 aI (wrap64 (a + 1))) = some (r1,r2) := by first | (rw [a8];with_reducible exact H) | (have aJ := (Option.bind_some _ _).symm.trans H;rw [a8];with_reducible exact aJ) | (have aJ := (Option.bind_some _ _).symm.trans H;with_reducible exact aJ) | with_reducible exact H | (rw [a8];exact H) | exact H
 have aR := am_ a8
 clear a8
 have H' := am_ H
 clear H
 try go_wp2
 replace HO_9 := am_ (Kd.a2f HO_9.out)
 replace HB := am_ (ld_ HB.out)
 have G : 0 ≤ (a : Int) := ot_
 have I : a < (l1.length : Int) := ot_
 obtain ⟨j,af,x,y,z⟩ := a3w ac.out a G I
 have m := z
 have q := y
 have r := x
 cases af
 replace x := qh_ HB x
 replace y := qh_ HB y
 replace z := qh_ HB z
 replace G := eq_true G
 replace I := eq_true I
 have J : 0 ≤ (a : Int) := ot_
 have L : a < (l1.length : Int) := ot_
 obtain ⟨a7,ag,A,B,D⟩ := a3w ac.out a J L
 have s := D
 have u := B
 have v := A
 obtain rfl : j = a7 := (by injection ag)
 replace A := qh_ HB A
 replace B := qh_ HB B
 replace D := qh_ HB D
 replace J := eq_true J
 replace L := eq_true L
 refine a4s (n := 13) (S := fun w' => w'.cell? (j.add ((a).toNat * 3)) = some (.int .i64 ((a0b l1 a).f0)) ∧ w'.cell? ⟨(j.add ((a).toNat * 3)).block,(j.add ((a).toNat * 3)).off + 1,none⟩ = some (.int .i64 ((a0b l1 a).f1)) ∧ w'.cell? ⟨(j.add ((a).toNat * 3)).block,(j.add ((a).toNat * 3)).off + 2,none⟩ = some (.int .i64 ((a0b l1 a).f2)) ∧ w'.cell? (j.add ((a).toNat * 3)) = some (.int .i64 ((a0b l1 a).f0)) ∧ w'.cell? ⟨(j.add ((a).toNat * 3)).block,(j.add ((a).toNat * 3)).off + 1,none⟩ = some (.int .i64 ((a0b l1 a).f1)) ∧ w'.cell? ⟨(j.add ((a).toNat * 3)).block,(j.add ((a).toNat * 3)).off + 2,none⟩ = some (.int .i64 ((a0b l1 a).f2))) (ds := []) #[Y,Y,Y,Y,Y,Y,Y,Y,Y,Y,Y,Y,Y] (by kernel_rfl) rfl rfl ⟨((HB.out.cell (World.block_lt_of_cell? w _ r)).trans r),((HB.out.cell (World.block_lt_of_cell? w _ q)).trans q),((HB.out.cell (World.block_lt_of_cell? w _ m)).trans m),((HB.out.cell (World.block_lt_of_cell? w _ v)).trans v),((HB.out.cell (World.block_lt_of_cell? w _ u)).trans u),((HB.out.cell (World.block_lt_of_cell? w _ s)).trans s)⟩ (fun hHeld => ?_);refine a3y a0j.tab8 a0j.b3e (fun HT_ HW_ => ?_)
 generalize wr.drew = bX at HO_9 HB x y z A B D hHeld ⊢
 refine qpu_ 0 (some 35) #[Z,Y,Y,Y,Y,Y,Y,Y,Y,Y,Y,Y,Y] ?_
 refine qpu_ 1 (some 36) #[Z,Z,Y,Y,Y,Y,Y,Y,Y,Y,Y,Y,Y] ?_
 refine qpu_ 2 (some 37) #[Z,Z,Z,Y,Y,Y,Y,Y,Y,Y,Y,Y,Y] ?_
 refine qpu_ 3 (some 38) #[Z,Z,Z,Z,Y,Y,Y,Y,Y,Y,Y,Y,Y] ?_
 refine qpu_ 5 (some 40) #[Z,Z,Z,Z,Y,Z,Y,Y,Y,Y,Y,Y,Y] ?_
 refine qpu_ 6 (some 41) #[Z,Z,Z,Z,Y,Z,Z,Y,Y,Y,Y,Y,Y] ?_
 refine qpu_ 7 (some 42) #[Z,Z,Z,Z,Y,Z,Z,Z,Y,Y,Y,Y,Y] ?_
 refine qpu_ 8 (some 43) #[Z,Z,Z,Z,Y,Z,Z,Z,Z,Y,Y,Y,Y] ?_
 refine a5q 4 (some 39) #[Z,Z,Z,Z,Z,Z,Z,Z,Z,Y,Y,Y,Y] hHeld ?_
 refine a5q 9 (some 44) #[Z,Z,Z,Z,Z,Z,Z,Z,Z,Z,Y,Y,Y] hHeld ?_
 refine qpu_ 10 (some 45) #[Z,Z,Z,Z,Z,Z,Z,Z,Z,Z,Z,Y,Y] ?_
 refine one_ (i := 11) (N := some 11) #[Z,Z,Z,Z,Z,Z,Z,Z,Z,Z,Z,Z,Y] rfl rfl (a4m HT_.out (by kernel_rfl)) (by decide) (fun K hK => ?_)
 refine a7k ?hg (N := 11) ?hd (cs := #[.int .i64 0, .int .i64 0]) (t := 56) ?hr ?_;(case hd => rfl);(case hg => rfl);(case hr => exact qq_)
 intro c hg b5 hbox hb
 replace HO_9 := am_ (Kd.a4t (Kd.a5j (qr_ HO_9) c (Nat.le_of_eq hg.symm)) hb)
 have l := am_ (hbox)
 have d := qga_ hg
 have ar := qga_ hg
 replace HB := qbs_ hb
 clear hb hbox hg
 refine hK.out _ _ ⟨((HB.out.cell (World.block_lt_of_cell? w _ r)).trans r),((HB.out.cell (World.block_lt_of_cell? w _ q)).trans q),((HB.out.cell (World.block_lt_of_cell? w _ m)).trans m),((HB.out.cell (World.block_lt_of_cell? w _ v)).trans v),((HB.out.cell (World.block_lt_of_cell? w _ u)).trans u),((HB.out.cell (World.block_lt_of_cell? w _ s)).trans s)⟩ (fun hHeld => ?_)
 clear hK K
 refine a4r (a' := ?_) ?_ ?_
 rotate_left
 ·show Act.put _ (some 11) _ = _
  exact qp_
 refine one_ (i := 12) (N := none) #[Z,Z,Z,Z,Z,Z,Z,Z,Z,Z,Z,Z,Z] rfl rfl (a4m HT_.out (by kernel_rfl)) (by decide) (fun K hK => ?_)
 have bO : b5.cell? ⟨c,0,none⟩ = some (.int .i64 0) := (bc_ l.out 0).trans rfl
 have bH := bf_ l.out 0
 have bP : b5.cell? ⟨c,1,none⟩ = some (.int .i64 0) := (bc_ l.out 1).trans rfl
 have bI := bf_ l.out 1
 refine b1w (w1 := ?_) (by rfl) rfl ?_ ?_
 rotate_left
 ·go_simp
  rfl
 refine hK.out _ _ ⟨((cell_far (p := ⟨c,_,none⟩) (qcl_ r d) _).trans (((cell_far (p := ⟨c,_,none⟩) (qcl_ r d) _).trans (hHeld.1)))),((cell_far (p := ⟨c,_,none⟩) (qcl_ q d) _).trans (((cell_far (p := ⟨c,_,none⟩) (qcl_ q d) _).trans (hHeld.2.1)))),((cell_far (p := ⟨c,_,none⟩) (qcl_ m d) _).trans (((cell_far (p := ⟨c,_,none⟩) (qcl_ m d) _).trans (hHeld.2.2.1)))),((cell_far (p := ⟨c,_,none⟩) (qcl_ v d) _).trans (((cell_far (p := ⟨c,_,none⟩) (qcl_ v d) _).trans (hHeld.2.2.2.1)))),((cell_far (p := ⟨c,_,none⟩) (qcl_ u d) _).trans (((cell_far (p := ⟨c,_,none⟩) (qcl_ u d) _).trans (hHeld.2.2.2.2.1)))),((cell_far (p := ⟨c,_,none⟩) (qcl_ s d) _).trans (((cell_far (p := ⟨c,_,none⟩) (qcl_ s d) _).trans (hHeld.2.2.2.2.2))))⟩ (fun hHeld => ?_)
 clear hK K
 refine a4z (a4l HT_.out (by kernel_rfl)) ?_
 obtain ⟨bs,bt⟩ := qz2_ l;obtain ⟨bu,bv⟩ := qf2_ l
 try go_wp2_with (first | ((with_reducible refine a0k (f := 51) rfl ?_);refine a1n (some 47) rfl rfl Try.func51 (by kernel_rfl) rfl #[.agg #[.int .i64 ((a0b l1 a).f1), .int .i64 ((a0b l1 a).f2)]] rfl ql_ ?_;(with_reducible refine (a3c.calls ((a0b l1 a).f1) ((a0b l1 a).f2) true _ aD.out).mono ?_);rintro e bY ⟨rfl,hb⟩;refine ⟨_,rfl,?_⟩;replace HO_9 := am_ (Kd.a4t (by (with_reducible repeat (first | apply Kd.a2a | apply Kd.a2b | apply Kd.a2f));exact (Kd.a2h (Kd.a4a (p := ⟨c,1,none⟩) (Kd.a4a (p := ⟨c,0,none⟩) (Kd.a2h HO_9.out (fun k_ hk => (⟨hk,hk.2⟩ : _ ∧ k_ ≠ c))) (fun _ hk => hk.2) (.int .i64 ((a0b l1 a).f1))) (fun _ hk => hk.2) (.int .i64 ((a0b l1 a).f2))) (fun _ h_ => h_.1))) hb);replace l := am_ (a2q (g := c) (o := .cells #[.int .i64 ((a0b l1 a).f1), .int .i64 ((a0b l1 a).f2)] 56 (0,0)) (by refine qd_ ?_;refine a0h (cs := #[.int .i64 ((a0b l1 a).f1), .int .i64 0]) ?_ 1 _ rfl;refine qd_ ?_;refine a0h (cs := #[.int .i64 0, .int .i64 0]) ?_ 0 _ rfl;refine qd_ ?_;exact l.out) hb);replace HB := qbs_ hb;(try clear hb);(try clear ap);(try clear hk);(try clear hi);have a5 : 0 ≤ (a : Int) := ot_;have a6 : a < (l0.length : Int) := ot_;obtain ⟨aN,aG,aH,ah,ai,al,M,O,P,T,U,W,X,a0,a1⟩ := a4f ay.out a a5 a6;cases al;replace M := qh_ HB M;replace O := qh_ HB O;replace P := qh_ HB P;replace T := qh_ HB T;replace U := qh_ HB U;have aw := am_ X;have ax := am_ W;clear X W;have a9 := am_ a1;have aa := am_ a0;clear a1 a0;replace a5 := eq_true a5;replace a6 := eq_true a6) | ((with_reducible refine a0k (f := 52) rfl ?_);refine a1n (some 56) rfl rfl Try.func52 (by kernel_rfl) rfl #[.slice ah ((a0a l0 a).f4).length ai, .int .i64 a2] rfl ql_ ?_;(with_reducible refine (a1w.calls k2 _ _ ((a0a l0 a).f4) a2 true _ ?s1 aa.out b3.out).mono ?_);(case s1 => exact qc_ a9);rintro e w' ⟨rfl,⟨nd,rfl⟩⟩;refine ⟨_,rfl,?_⟩;obtain ⟨bw,bx⟩ := qz2_ l;obtain ⟨bz,bA⟩ := qf2_ l) | ((with_reducible refine a6p (b := .append) (xs := #[.tmp 58, .tmp 60]) rfl ?_);at_builtin;refine Kd.a8b k56 (w0 := w) w.heap.size rfl (.tmp 58) (.tmp 60) 34 56 (.agg #[(.int .i64 0),(.int .i64 0)]) 16 rfl Try.underlying34 a9h rfl (by decide) (by omega) u9 E (⟨(a0b l1 a).f1,(a0b l1 a).f2⟩ : S56) [.int .i64 ((a0b l1 a).f1), .int .i64 ((a0b l1 a).f2)] (fun k_ => k_ ≠ c) (fun _ => False) rfl rfl ?aP (fun _ hk => hk.elim) ?aF ?aO ?aB ?aS ?aL ?_;(case aP => exact a5y _ _ _ (⟨(a0b l1 a).f1,(a0b l1 a).f2⟩ : S56));(case aB => exact qb_);(case aF => exact (fun k_ hk => Kd.a6l (g := c) (o := .cells #[.int .i64 ((a0b l1 a).f1), .int .i64 ((a0b l1 a).f2)] 56 (0,0)) (qk_ l) k_ hk));(case aO => exact (by (with_reducible repeat (first | apply Kd.a2a | apply Kd.a2b | apply Kd.a2f));exact Kd.a2h HO_9.out (fun _ hk => hk.2)));(case aS => exact (a0w qb_));(case aL => have := aQ.out;omega);intro bQ bZ ho hb hg hat;rw [← aR.out] at ho;replace l := am_ (a4i (g := c) (o := .cells #[.int .i64 ((a0b l1 a).f1), .int .i64 ((a0b l1 a).f2)] 56 (0,0)) (qk_ l) hg (Kd.a7v HO_9.out (fun _ hk => hk.2)));replace HB := am_ (hb);have aT := am_ (ho);clear HO_9 ho hb hg hat))
 go_roundg k2
 case measure => have := am.out;have := an.out;omega
 case rel => exact ⟨(aI),(wrap64 (a + 1)),qs_,H',⟨by have := am.out;have := an.out;omega⟩,⟨by (with_reducible repeat (first | apply Kd.a2a | apply Kd.a2b | apply Kd.a2f));exact Kd.a2h aT.out (fun _ hk => trivial)⟩,⟨qb_⟩⟩
end Go.Proofs.Ytheibjkjmkanoaa.Px
