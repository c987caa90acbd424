/- Contracts of Go functions, printed. Conditions: as each theorem states. -/
import Derived.Test.YtheibjkjmkanoaaPx0
import Derived.Test.YtheibjkjmkanoaaPx3
namespace Go.Proofs.Ytheibjkjmkanoaa.Px
open Go.Proofs.Ytheibjkjmkanoaa.Given
open Go.RowKit Go.Proofs.YtheibjkjmkanoaaW.PrintWords Go.Proofs.YtheibjkjmkanoaaW.PrintLast Go.Proofs.YtheibjkjmkanoaaW.PrintMore
attribute [local go_sem] a3m a3n a3x a3y a3e a3f a3o a3p
set_option linter.unusedVariables false
set_option linter.unusedSimpArgs false
mutual
def a1m.l0 : Nat → List (S56) → Int → Int → Option (Bool)
 | 0,_,_,_ => none
 | k + 1,x0,x5,x6 => if x6 < x5 then (if 0 ≤ x6 then (if x6 < (x0.length : Int) then ((a5b.f ((a0h x0 x6).f0) ((a0h x0 x6).f1)).bind fun a => (if a = true then (if x6 > 0 then (if 0 ≤ (wrap64 (x6 - 1)) then (if (wrap64 (x6 - 1)) < (x0.length : Int) then (a1m.j1 k x0 x5 x6 (decide (((a0h x0 (wrap64 (x6 - 1))).f1) ≥ ((a0h x0 x6).f0)))) else (none)) else (none)) else (a1m.j1 k x0 x5 x6 false)) else (a1m.j1 k x0 x5 x6 true))) else (none)) else (none)) else (some (decide ((x0.length : Int) ≤ 1000)))
def a1m.j1 : Nat → List (S56) → Int → Int → Bool → Option (Bool)
 | 0,_,_,_,_ => none
 | k + 1,x0,x5,x6,a => if a = true then (some false) else (a1m.l0 k x0 x5 (wrap64 (x6 + 1)))
end
def a1m.f (k : Nat) (l0 : List (S56)) : Option (Bool) := a1m.l0 k l0 (l0.length : Int) 0
theorem a1m.a1h : ∀ k,(∀ y0 y1 y2,LeO (a1m.l0 k y0 y1 y2) (a1m.l0 (k + 1) y0 y1 y2)) ∧ (∀ y0 y1 y2 y3,LeO (a1m.j1 k y0 y1 y2 y3) (a1m.j1 (k + 1) y0 y1 y2 y3))
 | 0 => ⟨fun _ _ _ r h => by simp [a1m.l0] at h,fun _ _ _ _ r h => by simp [a1m.j1] at h⟩
 | k + 1 => by
  obtain ⟨a,b⟩ := a1m.a1h k
  refine ⟨?_,?_⟩ <;> intros <;> (first | unfold a1m.l0 | unfold a1m.j1) <;> with_reducible (repeat' first | apply a | apply b | apply LeO.refl | apply LeO.none | apply LeO.ite | refine LeO.bind ?_ (fun _ => ?_))
theorem a1m.mono : ∀ a0 k,LeO (a1m.f k a0) (a1m.f (k + 1) a0) := by
 intro a0 k
 obtain ⟨a,b⟩ := a1m.a1h k
 unfold a1m.f
 with_reducible (repeat' first | apply a | apply b | apply LeO.refl | apply LeO.none | apply LeO.ite | refine LeO.bind ?_ (fun _ => ?_))
def a1m.T4 : Bool × List (List Nat × List Nat) := (true,[([],[]),([],[]),([0,1],[0,1]),([2],[2]),([3],[3]),([4],[4]),([5,4],[5]),([6],[6]),([7,6],[6,7]),([8,6,6],[6,8]),([9],[9]),([9],[9]),([11,9],[9,11]),([10,12,9],[9,10,12]),([13,9],[9,13]),([14,9],[9,14]),([9],[9]),([9],[9]),([16,17,9],[9,16,17]),([18,9],[9,18]),([19,9],[9,19]),([15,20,9],[9,15,20]),([9,21,6],[6,9,21]),([6,22],[6,22])])
def a1m.B4 : List Nat := [0,0,3,7,15,31,63,127,255,511,1023,1023,3071,8191,16383,32767,1023,1023,197631,459775,984063,2097151,4194303,8388607]
theorem a1m.tab4 : rtab .any (opsOf Try.f49 4) = a1m.T4 := by kernel_rfl
theorem a1m.b1z : a5i a1m.T4.2 a1m.B4 = true := by kernel_rfl
set_option maxHeartbeats 8000000 in
set_option maxRecDepth 100000 in
theorem a1m.calls (k : Nat) (A0 : Option Addr) (c0 : Nat) (l0 : List (S56)) (r : Bool) (w : World) (Z : Kd.C k56 w A0 l0.length l0) (a0 : l0.length ≤ c0) (h : a1m.f k l0 = some r) :
  Calls Try.prog 49 #[.slice A0 l0.length c0] w fun e w' => e = .returned (.bool r) ∧ Below w.heap.size w w' := by
 have ac := Try.underlying56
 have L := am_ Z
 have ae := am_ a0
 clear Z a0
 have HB := am_ (Below.refl w.heap.size w)
 have H : (a1m.l0 k l0 (l0.length : Int) 0) = some r := h
 clear h
 have H' := am_ H
 clear H
 go_enter Try.func49,Try.ntmps49
 go_wp2
 go_loopg [6] k (fun kq v6 w' => ∃ (a : Int),v6 = .int .i64 a ∧ Aside0 (a1m.l0 kq l0 (l0.length : Int) a = some r) ∧ Aside0 (kq ≤ k) ∧ Aside0 (Below w.heap.size w w'))
 case atStart => exact ⟨(0),qs_,H',⟨Nat.le_refl _⟩,⟨qb_⟩⟩
 case round =>
 clear H'
 obtain ⟨a,rfl,HA,M,HB⟩ := hrel
 cases gk with
 | zero => exact absurd HA.out (by simp [a1m.l0])
 | succ k1 =>
 have H := HA.out
 clear HA
 simp only [a1m.l0] at H
 by_cases c2 : a < (l0.length : Int)
 rotate_left
 ·rw [if_neg c2] at H
  have a4 : decide (a < (l0.length : Int)) = false := decide_eq_false c2
  clear c2
  obtain rfl := si_ H
  go_wp2
  go_ret
  exact ⟨qx_,qb_⟩
 rw [if_pos c2] at H
 have a4 : decide (a < (l0.length : Int)) = true := decide_eq_true c2
 clear c2
 have P := am_ H
 clear H
 go_upto_region 4 with (fail)
 go_cut [32] (fun a8 wc => ∃ (kq : Nat) (A : Bool),a8 = .bool A ∧ Aside0 (a1m.j1 kq l0 (l0.length : Int) a A = some r) ∧ Aside0 (kq ≤ k1) ∧ Aside0 (Below w.heap.size w wc))
 case first =>
  have H := P.out
  clear P
  obtain ⟨T,H⟩ := qid_ H
  (first | rw [T] | (simp only [a4j,a4v];rw [T]) | skip)
  obtain ⟨ad,H⟩ := qid_ H
  replace H := bm_ H
  obtain ⟨a5,a1,H⟩ := H
  have A6 := am_ a1
  clear a1
  by_cases c7 : a5 = true
  rotate_left
  ·replace c7 := be_ c7
   subst c7
   replace H := qin_ H
   have H' := am_ H
   clear H
   try go_wp2
   replace HB := am_ (ld_ HB.out)
   have l : 0 ≤ (a : Int) := ot_
   have m : a < (l0.length : Int) := ot_
   obtain ⟨j,B,b,c⟩ := a5k L.out a l m
   have d := c
   have g := b
   cases B
   replace b := qh_ HB b
   replace c := qh_ HB c
   replace l := eq_true l
   replace m := eq_true m
   refine a4l (n := 24) (S := fun w' => w'.cell? (j.add ((a).toNat * 2)) = some (.int .i64 ((a0h l0 a).f0)) ∧ w'.cell? ⟨(j.add ((a).toNat * 2)).block,(j.add ((a).toNat * 2)).off + 1,none⟩ = some (.int .i64 ((a0h l0 a).f1))) (ds := []) #[I,I,I,I,I,I,I,I,I,I,I,I,I,I,I,I,I,I,I,I,I,I,I,I] (by kernel_rfl) rfl rfl ⟨((HB.out.cell (World.block_lt_of_cell? w _ g)).trans g),((HB.out.cell (World.block_lt_of_cell? w _ d)).trans d)⟩ (fun hHeld => ?_);refine a3s a1m.tab4 a1m.b1z (fun HT_ HW_ => ?_)
   generalize wr.drew = af at HB b c hHeld ⊢
   refine qpu_ 0 (some 9) #[U,I,I,I,I,I,I,I,I,I,I,I,I,I,I,I,I,I,I,I,I,I,I,I] ?_
   refine qpu_ 1 (some 10) #[U,U,I,I,I,I,I,I,I,I,I,I,I,I,I,I,I,I,I,I,I,I,I,I] ?_
   refine qpu_ 2 (some 11) #[U,U,U,I,I,I,I,I,I,I,I,I,I,I,I,I,I,I,I,I,I,I,I,I] ?_
   refine b9p 3 (some 12) #[U,U,U,U,I,I,I,I,I,I,I,I,I,I,I,I,I,I,I,I,I,I,I,I] hHeld ?_
   refine one_ (i := 4) (N := some 13) #[U,U,U,U,U,I,I,I,I,I,I,I,I,I,I,I,I,I,I,I,I,I,I,I] rfl rfl (a4m HT_.out (by kernel_rfl)) (by decide) (fun K hK => ?_)
   refine a5z Try.func66 (by kernel_rfl) rfl #[.agg #[.int .i64 ((a0h l0 a).f0), .int .i64 ((a0h l0 a).f1)]] (by rfl) rfl rfl ql_ ?_
   with_reducible refine (a5b.calls ((a0h l0 a).f0) ((a0h l0 a).f1) false _ A6.out).mono ?_
   rintro e ag ⟨rfl,hb⟩
   refine ⟨_,rfl,?_⟩
   replace HB := qbs_ hb
   (try clear hb)
   (try clear a2)
   (try clear hk)
   (try clear hi)
   refine hK.out _ _ ⟨((HB.out.cell (World.block_lt_of_cell? w _ g)).trans g),((HB.out.cell (World.block_lt_of_cell? w _ d)).trans d)⟩ (fun hHeld => ?_)
   clear hK K
   refine a4q (a' := ?_) ?_ ?_
   rotate_left
   ·show Act.put _ (some 13) _ = _
    exact qp_
   refine qpu_ 5 (some 14) #[U,U,U,U,U,U,I,I,I,I,I,I,I,I,I,I,I,I,I,I,I,I,I,I] ?_
   refine qpu_ 6 (some 15) #[U,U,U,U,U,U,U,I,I,I,I,I,I,I,I,I,I,I,I,I,I,I,I,I] ?_
   refine qpv_ 7 (some 16) #[U,U,U,U,U,U,U,U,I,I,I,I,I,I,I,I,I,I,I,I,I,I,I,I] ?_
   refine qpv_ 8 (some 17) #[U,U,U,U,U,U,U,U,U,I,I,I,I,I,I,I,I,I,I,I,I,I,I,I] ?_
   refine qpv_ 9 (some 18) #[U,U,U,U,U,U,U,U,U,U,I,I,I,I,I,I,I,I,I,I,I,I,I,I] ?_
   refine qpv_ 10 (some 19) #[U,U,U,U,U,U,U,U,U,U,U,I,I,I,I,I,I,I,I,I,I,I,I,I] ?_
   refine qpv_ 11 (some 20) #[U,U,U,U,U,U,U,U,U,U,U,U,I,I,I,I,I,I,I,I,I,I,I,I] ?_
   refine qpv_ 12 (some 21) #[U,U,U,U,U,U,U,U,U,U,U,U,U,I,I,I,I,I,I,I,I,I,I,I] ?_
   refine qpv_ 13 (some 22) #[U,U,U,U,U,U,U,U,U,U,U,U,U,U,I,I,I,I,I,I,I,I,I,I] ?_
   refine qpv_ 14 (some 23) #[U,U,U,U,U,U,U,U,U,U,U,U,U,U,U,I,I,I,I,I,I,I,I,I] ?_
   refine qpv_ 15 (some 24) #[U,U,U,U,U,U,U,U,U,U,U,U,U,U,U,U,I,I,I,I,I,I,I,I] ?_
   refine qpv_ 16 (some 25) #[U,U,U,U,U,U,U,U,U,U,U,U,U,U,U,U,U,I,I,I,I,I,I,I] ?_
   refine qpv_ 17 (some 26) #[U,U,U,U,U,U,U,U,U,U,U,U,U,U,U,U,U,U,I,I,I,I,I,I] ?_
   refine qpv_ 18 (some 27) #[U,U,U,U,U,U,U,U,U,U,U,U,U,U,U,U,U,U,U,I,I,I,I,I] ?_
   refine qpv_ 19 (some 28) #[U,U,U,U,U,U,U,U,U,U,U,U,U,U,U,U,U,U,U,U,I,I,I,I] ?_
   refine qpv_ 20 (some 29) #[U,U,U,U,U,U,U,U,U,U,U,U,U,U,U,U,U,U,U,U,U,I,I,I] ?_
   refine qpv_ 21 (some 30) #[U,U,U,U,U,U,U,U,U,U,U,U,U,U,U,U,U,U,U,U,U,U,I,I] ?_
   refine qpv_ 22 (some 31) #[U,U,U,U,U,U,U,U,U,U,U,U,U,U,U,U,U,U,U,U,U,U,U,I] ?_
   refine qpu_ 23 (some 32) #[U,U,U,U,U,U,U,U,U,U,U,U,U,U,U,U,U,U,U,U,U,U,U,U] ?_
   refine a4u (a4c HT_.out (by kernel_rfl)) ?_
   try go_wp2
   go_meet
   case rel => exact ⟨_,(true),qs_,H',⟨by have := M.out;first | omega | exact Nat.le_refl _⟩,⟨qb_⟩⟩
  subst c7
  replace H := qip_ H
  by_cases c8 : a > 0
  rotate_left
  ·rw [if_neg c8] at H
   have W : decide (0 < a) = false := decide_eq_false c8
   clear c8
   have H' := am_ H
   clear H
   try go_wp2
   replace HB := am_ (ld_ HB.out)
   have l : 0 ≤ (a : Int) := ot_
   have m : a < (l0.length : Int) := ot_
   obtain ⟨j,B,b,c⟩ := a5k L.out a l m
   have d := c
   have g := b
   cases B
   replace b := qh_ HB b
   replace c := qh_ HB c
   replace l := eq_true l
   replace m := eq_true m
   refine a4l (n := 24) (S := fun w' => w'.cell? (j.add ((a).toNat * 2)) = some (.int .i64 ((a0h l0 a).f0)) ∧ w'.cell? ⟨(j.add ((a).toNat * 2)).block,(j.add ((a).toNat * 2)).off + 1,none⟩ = some (.int .i64 ((a0h l0 a).f1))) (ds := []) #[I,I,I,I,I,I,I,I,I,I,I,I,I,I,I,I,I,I,I,I,I,I,I,I] (by kernel_rfl) rfl rfl ⟨((HB.out.cell (World.block_lt_of_cell? w _ g)).trans g),((HB.out.cell (World.block_lt_of_cell? w _ d)).trans d)⟩ (fun hHeld => ?_);refine a3s a1m.tab4 a1m.b1z (fun HT_ HW_ => ?_)
   generalize wr.drew = ah at HB b c hHeld ⊢
   refine qpu_ 0 (some 9) #[U,I,I,I,I,I,I,I,I,I,I,I,I,I,I,I,I,I,I,I,I,I,I,I] ?_
   refine qpu_ 1 (some 10) #[U,U,I,I,I,I,I,I,I,I,I,I,I,I,I,I,I,I,I,I,I,I,I,I] ?_
   refine qpu_ 2 (some 11) #[U,U,U,I,I,I,I,I,I,I,I,I,I,I,I,I,I,I,I,I,I,I,I,I] ?_
   refine b9p 3 (some 12) #[U,U,U,U,I,I,I,I,I,I,I,I,I,I,I,I,I,I,I,I,I,I,I,I] hHeld ?_
   refine one_ (i := 4) (N := some 13) #[U,U,U,U,U,I,I,I,I,I,I,I,I,I,I,I,I,I,I,I,I,I,I,I] rfl rfl (a4m HT_.out (by kernel_rfl)) (by decide) (fun K hK => ?_)
   refine a5z Try.func66 (by kernel_rfl) rfl #[.agg #[.int .i64 ((a0h l0 a).f0), .int .i64 ((a0h l0 a).f1)]] (by rfl) rfl rfl ql_ ?_
   with_reducible refine (a5b.calls ((a0h l0 a).f0) ((a0h l0 a).f1) true _ A6.out).mono ?_
   rintro e ai ⟨rfl,hb⟩
   refine ⟨_,rfl,?_⟩
   replace HB := qbs_ hb
   (try clear hb)
   (try clear a2)
   (try clear hk)
   (try clear hi)
   refine hK.out _ _ ⟨((HB.out.cell (World.block_lt_of_cell? w _ g)).trans g),((HB.out.cell (World.block_lt_of_cell? w _ d)).trans d)⟩ (fun hHeld => ?_)
   clear hK K
   refine a4q (a' := ?_) ?_ ?_
   rotate_left
   ·show Act.put _ (some 13) _ = _
    exact qp_
   refine qpu_ 5 (some 14) #[U,U,U,U,U,U,I,I,I,I,I,I,I,I,I,I,I,I,I,I,I,I,I,I] ?_
   refine qpu_ 6 (some 15) #[U,U,U,U,U,U,U,I,I,I,I,I,I,I,I,I,I,I,I,I,I,I,I,I] ?_
   refine qpu_ 7 (some 16) #[U,U,U,U,U,U,U,U,I,I,I,I,I,I,I,I,I,I,I,I,I,I,I,I] ?_
   refine qpu_ 8 (some 17) #[U,U,U,U,U,U,U,U,U,I,I,I,I,I,I,I,I,I,I,I,I,I,I,I] ?_
   refine qpu_ 9 (some 18) #[U,U,U,U,U,U,U,U,U,U,I,I,I,I,I,I,I,I,I,I,I,I,I,I] ?_
   refine qpv_ 10 (some 19) #[U,U,U,U,U,U,U,U,U,U,U,I,I,I,I,I,I,I,I,I,I,I,I,I] ?_
   refine qpv_ 11 (some 20) #[U,U,U,U,U,U,U,U,U,U,U,U,I,I,I,I,I,I,I,I,I,I,I,I] ?_
   refine qpv_ 12 (some 21) #[U,U,U,U,U,U,U,U,U,U,U,U,U,I,I,I,I,I,I,I,I,I,I,I] ?_
   refine qpv_ 13 (some 22) #[U,U,U,U,U,U,U,U,U,U,U,U,U,U,I,I,I,I,I,I,I,I,I,I] ?_
   refine qpv_ 14 (some 23) #[U,U,U,U,U,U,U,U,U,U,U,U,U,U,U,I,I,I,I,I,I,I,I,I] ?_
   refine qpv_ 15 (some 24) #[U,U,U,U,U,U,U,U,U,U,U,U,U,U,U,U,I,I,I,I,I,I,I,I] ?_
   refine qpv_ 16 (some 25) #[U,U,U,U,U,U,U,U,U,U,U,U,U,U,U,U,U,I,I,I,I,I,I,I] ?_
   refine qpv_ 17 (some 26) #[U,U,U,U,U,U,U,U,U,U,U,U,U,U,U,U,U,U,I,I,I,I,I,I] ?_
   refine qpv_ 18 (some 27) #[U,U,U,U,U,U,U,U,U,U,U,U,U,U,U,U,U,U,U,I,I,I,I,I] ?_
   refine qpv_ 19 (some 28) #[U,U,U,U,U,U,U,U,U,U,U,U,U,U,U,U,U,U,U,U,I,I,I,I] ?_
   refine qpv_ 20 (some 29) #[U,U,U,U,U,U,U,U,U,U,U,U,U,U,U,U,U,U,U,U,U,I,I,I] ?_
   refine qpv_ 21 (some 30) #[U,U,U,U,U,U,U,U,U,U,U,U,U,U,U,U,U,U,U,U,U,U,I,I] ?_
   refine qpu_ 22 (some 31) #[U,U,U,U,U,U,U,U,U,U,U,U,U,U,U,U,U,U,U,U,U,U,U,I] ?_
   refine qpu_ 23 (some 32) #[U,U,U,U,U,U,U,U,U,U,U,U,U,U,U,U,U,U,U,U,U,U,U,U] ?_
   refine a4u (a4c HT_.out (by kernel_rfl)) ?_
   try go_wp2
   go_meet
   case rel => exact ⟨_,(false),qs_,H',⟨by have := M.out;first | omega | exact Nat.le_refl _⟩,⟨qb_⟩⟩
  rw [if_pos c8] at H
  have W : decide (0 < a) = true := decide_eq_true c8
  clear c8
  obtain ⟨t,z⟩ : ∃ j_ : Int,(wrap64 (a - 1)) = j_ := ⟨_,rfl⟩
  replace H : (if 0 ≤ (t) then (if (t) < (l0.length : Int) then (a1m.j1 k1 l0 (l0.length : Int) a (decide (((a0h l0 (t)).f1) ≥ ((a0h l0 a).f0)))) else (none)) else (none)) = some r := by first | (rw [z] at H;exact H) | (simp only [z] at H ⊢;exact H)
  (try rw [z] at A6)
  have hji9w : (IntKind.i64.wrap (a - 1)) = t := (a4j _).trans z
  obtain ⟨aa,H⟩ := qid_ H
  obtain ⟨ab,H⟩ := qid_ H
  have H' := am_ H
  clear H
  try go_wp2
  replace HB := am_ (ld_ HB.out)
  have l : 0 ≤ (a : Int) := ot_
  have m : a < (l0.length : Int) := ot_
  obtain ⟨j,B,b,c⟩ := a5k L.out a l m
  have d := c
  have g := b
  cases B
  replace b := qh_ HB b
  replace c := qh_ HB c
  replace l := eq_true l
  replace m := eq_true m
  have D : 0 ≤ ((t) : Int) := ot_
  have E : (t) < (l0.length : Int) := ot_
  obtain ⟨X,a6,o,p⟩ := a5k L.out (t) D E
  have u := p
  have v := o
  obtain rfl : j = X := (by injection a6)
  replace o := qh_ HB o
  replace p := qh_ HB p
  replace D := eq_true D
  replace E := eq_true E
  have G : 0 ≤ (a : Int) := ot_
  have J : a < (l0.length : Int) := ot_
  obtain ⟨Y,a7,q,s⟩ := a5k L.out a G J
  have x := s
  have y := q
  obtain rfl : j = Y := (by injection a7)
  replace q := qh_ HB q
  replace s := qh_ HB s
  replace G := eq_true G
  replace J := eq_true J
  refine a4l (n := 24) (S := fun w' => w'.cell? (j.add ((a).toNat * 2)) = some (.int .i64 ((a0h l0 a).f0)) ∧ w'.cell? ⟨(j.add ((a).toNat * 2)).block,(j.add ((a).toNat * 2)).off + 1,none⟩ = some (.int .i64 ((a0h l0 a).f1)) ∧ w'.cell? (j.add (((t)).toNat * 2)) = some (.int .i64 ((a0h l0 (t)).f0)) ∧ w'.cell? ⟨(j.add (((t)).toNat * 2)).block,(j.add (((t)).toNat * 2)).off + 1,none⟩ = some (.int .i64 ((a0h l0 (t)).f1)) ∧ w'.cell? (j.add ((a).toNat * 2)) = some (.int .i64 ((a0h l0 a).f0)) ∧ w'.cell? ⟨(j.add ((a).toNat * 2)).block,(j.add ((a).toNat * 2)).off + 1,none⟩ = some (.int .i64 ((a0h l0 a).f1))) (ds := []) #[I,I,I,I,I,I,I,I,I,I,I,I,I,I,I,I,I,I,I,I,I,I,I,I] (by kernel_rfl) rfl rfl ⟨((HB.out.cell (World.block_lt_of_cell? w _ g)).trans g),((HB.out.cell (World.block_lt_of_cell? w _ d)).trans d),((HB.out.cell (World.block_lt_of_cell? w _ v)).trans v),((HB.out.cell (World.block_lt_of_cell? w _ u)).trans u),((HB.out.cell (World.block_lt_of_cell? w _ y)).trans y),((HB.out.cell (World.block_lt_of_cell? w _ x)).trans x)⟩ (fun hHeld => ?_);refine a3s a1m.tab4 a1m.b1z (fun HT_ HW_ => ?_)
  generalize wr.drew = aj at HB b c o p q s hHeld ⊢
  refine qpu_ 0 (some 9) #[U,I,I,I,I,I,I,I,I,I,I,I,I,I,I,I,I,I,I,I,I,I,I,I] ?_
  refine qpu_ 1 (some 10) #[U,U,I,I,I,I,I,I,I,I,I,I,I,I,I,I,I,I,I,I,I,I,I,I] ?_
  refine qpu_ 2 (some 11) #[U,U,U,I,I,I,I,I,I,I,I,I,I,I,I,I,I,I,I,I,I,I,I,I] ?_
  refine a6i 3 (some 12) #[U,U,U,U,I,I,I,I,I,I,I,I,I,I,I,I,I,I,I,I,I,I,I,I] hHeld ?_
  refine one_ (i := 4) (N := some 13) #[U,U,U,U,U,I,I,I,I,I,I,I,I,I,I,I,I,I,I,I,I,I,I,I] rfl rfl (a4m HT_.out (by kernel_rfl)) (by decide) (fun K hK => ?_)
  refine a5z Try.func66 (by kernel_rfl) rfl #[.agg #[.int .i64 ((a0h l0 a).f0), .int .i64 ((a0h l0 a).f1)]] (by rfl) rfl rfl ql_ ?_
  with_reducible refine (a5b.calls ((a0h l0 a).f0) ((a0h l0 a).f1) true _ A6.out).mono ?_
  rintro e ak ⟨rfl,hb⟩
  refine ⟨_,rfl,?_⟩
  replace HB := qbs_ hb
  (try clear hb)
  (try clear a2)
  (try clear hk)
  (try clear hi)
  refine hK.out _ _ ⟨((HB.out.cell (World.block_lt_of_cell? w _ g)).trans g),((HB.out.cell (World.block_lt_of_cell? w _ d)).trans d),((HB.out.cell (World.block_lt_of_cell? w _ v)).trans v),((HB.out.cell (World.block_lt_of_cell? w _ u)).trans u),((HB.out.cell (World.block_lt_of_cell? w _ y)).trans y),((HB.out.cell (World.block_lt_of_cell? w _ x)).trans x)⟩ (fun hHeld => ?_)
  clear hK K
  refine a4q (a' := ?_) ?_ ?_
  rotate_left
  ·show Act.put _ (some 13) _ = _
   exact qp_
  refine qpu_ 5 (some 14) #[U,U,U,U,U,U,I,I,I,I,I,I,I,I,I,I,I,I,I,I,I,I,I,I] ?_
  refine qpu_ 6 (some 15) #[U,U,U,U,U,U,U,I,I,I,I,I,I,I,I,I,I,I,I,I,I,I,I,I] ?_
  refine qpu_ 7 (some 16) #[U,U,U,U,U,U,U,U,I,I,I,I,I,I,I,I,I,I,I,I,I,I,I,I] ?_
  refine qpu_ 8 (some 17) #[U,U,U,U,U,U,U,U,U,I,I,I,I,I,I,I,I,I,I,I,I,I,I,I] ?_
  refine qpu_ 9 (some 18) #[U,U,U,U,U,U,U,U,U,U,I,I,I,I,I,I,I,I,I,I,I,I,I,I] ?_
  refine qpu_ 10 (some 19) #[U,U,U,U,U,U,U,U,U,U,U,I,I,I,I,I,I,I,I,I,I,I,I,I] ?_
  refine qpu_ 11 (some 20) #[U,U,U,U,U,U,U,U,U,U,U,U,I,I,I,I,I,I,I,I,I,I,I,I] ?_
  refine qpu_ 12 (some 21) #[U,U,U,U,U,U,U,U,U,U,U,U,U,I,I,I,I,I,I,I,I,I,I,I] ?_
  refine qpu_ 13 (some 22) #[U,U,U,U,U,U,U,U,U,U,U,U,U,U,I,I,I,I,I,I,I,I,I,I] ?_
  refine qpu_ 14 (some 23) #[U,U,U,U,U,U,U,U,U,U,U,U,U,U,U,I,I,I,I,I,I,I,I,I] ?_
  refine qpu_ 16 (some 25) #[U,U,U,U,U,U,U,U,U,U,U,U,U,U,U,I,U,I,I,I,I,I,I,I] ?_
  refine qpu_ 17 (some 26) #[U,U,U,U,U,U,U,U,U,U,U,U,U,U,U,I,U,U,I,I,I,I,I,I] ?_
  refine qpu_ 18 (some 27) #[U,U,U,U,U,U,U,U,U,U,U,U,U,U,U,I,U,U,U,I,I,I,I,I] ?_
  refine qpu_ 19 (some 28) #[U,U,U,U,U,U,U,U,U,U,U,U,U,U,U,I,U,U,U,U,I,I,I,I] ?_
  refine a6i 15 (some 24) #[U,U,U,U,U,U,U,U,U,U,U,U,U,U,U,U,U,U,U,U,I,I,I,I] hHeld ?_
  refine a6i 20 (some 29) #[U,U,U,U,U,U,U,U,U,U,U,U,U,U,U,U,U,U,U,U,U,I,I,I] hHeld ?_
  refine qpu_ 21 (some 30) #[U,U,U,U,U,U,U,U,U,U,U,U,U,U,U,U,U,U,U,U,U,U,I,I] ?_
  refine qpu_ 22 (some 31) #[U,U,U,U,U,U,U,U,U,U,U,U,U,U,U,U,U,U,U,U,U,U,U,I] ?_
  refine qpu_ 23 (some 32) #[U,U,U,U,U,U,U,U,U,U,U,U,U,U,U,U,U,U,U,U,U,U,U,U] ?_
  refine a4u (a4c HT_.out (by kernel_rfl)) ?_
  try go_wp2
  try subst z
  go_meet
  case rel => exact ⟨_,(decide (((a0h l0 ((wrap64 (a - 1)))).f1) ≥ ((a0h l0 a).f0))),(by first | rfl | (simp;done) | (simp only [← z] <;> (first | rfl | simp)) | (simp [*];done)),H',⟨by have := M.out;first | omega | exact Nat.le_refl _⟩,⟨qb_⟩⟩
 case rest =>
 clear P
 try clear c7
 try clear W
 try clear b
 try clear c
 try clear o
 try clear p
 try clear q
 try clear s
 try clear l
 try clear D
 try clear G
 try clear m
 try clear E
 try clear J
 obtain ⟨kq,A,rfl,HA,a3,HB⟩ := hcut
 cases kq with
 | zero => exact absurd HA.out (by simp [a1m.j1])
 | succ a9 =>
 have H := HA.out
 clear HA
 simp only [a1m.j1] at H
 by_cases O : A = true
 ·subst O
  replace H := qip_ H
  obtain rfl := si_ H
  go_wp2
  go_ret
  exact ⟨qx_,qb_⟩
 replace O := be_ O
 subst O
 replace H := qin_ H
 have H' := am_ H
 clear H
 go_wp2
 go_roundg a9
 case measure => have := M.out;have := a3.out;omega
 case rel => exact ⟨(wrap64 (a + 1)),qs_,H',⟨by have := M.out;have := a3.out;omega⟩,⟨qb_⟩⟩
end Go.Proofs.Ytheibjkjmkanoaa.Px
