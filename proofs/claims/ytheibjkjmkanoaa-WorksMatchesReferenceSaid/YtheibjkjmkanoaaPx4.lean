/- Contracts of Go functions, printed. Conditions: as each theorem states. -/
import Derived.Test.YtheibjkjmkanoaaPx0
import Derived.Test.YtheibjkjmkanoaaPx3
namespace Go.Proofs.Ytheibjkjmkanoaa.Px
open Go.Proofs.Ytheibjkjmkanoaa.Given
open Go.RowKit Go.Proofs.YtheibjkjmkanoaaW.PrintWords Go.Proofs.YtheibjkjmkanoaaW.PrintLast Go.Proofs.YtheibjkjmkanoaaW.PrintMore
attribute [local go_sem] a3r a3s a4b a4c a3f a3g a3t a3u
set_option linter.unusedVariables false
set_option linter.unusedSimpArgs false
mutual
def a2c.l0 : Nat → List (S56) → Int → Int → Option (Bool)
 | 0,_,_,_ => none
 | k + 1,x0,x5,x6 => if x6 < x5 then (if 0 ≤ x6 then (if x6 < (x0.length : Int) then ((a5b.f ((a0f x0 x6).f0) ((a0f x0 x6).f1)).bind fun a => (if a = true then (if x6 > 0 then (if 0 ≤ (wrap64 (x6 - 1)) then (if (wrap64 (x6 - 1)) < (x0.length : Int) then (a2c.j1 k x0 x5 x6 (decide (((a0f x0 (wrap64 (x6 - 1))).f1) ≥ ((a0f x0 x6).f0)))) else (none)) else (none)) else (a2c.j1 k x0 x5 x6 false)) else (a2c.j1 k x0 x5 x6 true))) else (none)) else (none)) else (some (decide ((x0.length : Int) ≤ 1000)))
def a2c.j1 : Nat → List (S56) → Int → Int → Bool → Option (Bool)
 | 0,_,_,_,_ => none
 | k + 1,x0,x5,x6,a => if a = true then (some false) else (a2c.l0 k x0 x5 (wrap64 (x6 + 1)))
end
def a2c.f (k : Nat) (l0 : List (S56)) : Option (Bool) := a2c.l0 k l0 (l0.length : Int) 0
theorem a2c.a1u : ∀ k,(∀ y0 y1 y2,LeO (a2c.l0 k y0 y1 y2) (a2c.l0 (k + 1) y0 y1 y2)) ∧ (∀ y0 y1 y2 y3,LeO (a2c.j1 k y0 y1 y2 y3) (a2c.j1 (k + 1) y0 y1 y2 y3))
 | 0 => ⟨fun _ _ _ r h => by simp [a2c.l0] at h,fun _ _ _ _ r h => by simp [a2c.j1] at h⟩
 | k + 1 => by
  obtain ⟨a,b⟩ := a2c.a1u k
  refine ⟨?_,?_⟩ <;> intros <;> (first | unfold a2c.l0 | unfold a2c.j1) <;> with_reducible (repeat' first | apply a | apply b | apply LeO.refl | apply LeO.none | apply LeO.ite | refine LeO.bind ?_ (fun _ => ?_))
theorem a2c.mono : ∀ a0 k,LeO (a2c.f k a0) (a2c.f (k + 1) a0) := by
 intro a0 k
 obtain ⟨a,b⟩ := a2c.a1u k
 unfold a2c.f
 with_reducible (repeat' first | apply a | apply b | apply LeO.refl | apply LeO.none | apply LeO.ite | refine LeO.bind ?_ (fun _ => ?_))
def a2c.T4 : Bool × List (List Nat × List Nat) := (true,[([],[]),([],[]),([0,1],[0,1]),([2],[2]),([3],[3]),([4],[4]),([5,4],[5]),([6],[6]),([7,6],[6,7]),([8,6,6],[6,8]),([9],[9]),([9],[9]),([11,9],[9,11]),([10,12,9],[9,10,12]),([13,9],[9,13]),([14,9],[9,14]),([9],[9]),([9],[9]),([16,17,9],[9,16,17]),([18,9],[9,18]),([19,9],[9,19]),([15,20,9],[9,15,20]),([9,21,6],[6,9,21]),([6,22],[6,22])])
def a2c.B4 : List Nat := [0,0,3,7,15,31,63,127,255,511,1023,1023,3071,8191,16383,32767,1023,1023,197631,459775,984063,2097151,4194303,8388607]
theorem a2c.tab4 : rtab .any (opsOf Try.f49 4) = a2c.T4 := by kernel_rfl
theorem a2c.b3d : a5m a2c.T4.2 a2c.B4 = true := by kernel_rfl
set_option maxHeartbeats 8000000 in
set_option maxRecDepth 100000 in
theorem a2c.calls (k : Nat) (A0 : Option Addr) (c0 : Nat) (l0 : List (S56)) (r : Bool) (w : World) (X : Kd.C k56 w A0 l0.length l0) (a0 : l0.length ≤ c0) (h : a2c.f k l0 = some r) :
  Calls Try.prog 49 #[.slice A0 l0.length c0] w fun e w' => e = .returned (.bool r) ∧ Below w.heap.size w w' := by
 have ac := Try.underlying56
 have J := am_ X
 have ae := am_ a0
 clear X a0
 have HB := am_ (Below.refl w.heap.size w)
 have H : (a2c.l0 k l0 (l0.length : Int) 0) = some r := h
 clear h
 have H' := am_ H
 clear H
 go_enter Try.func49,Try.ntmps49
 go_wp2
 go_loopg [6] k (fun kq v6 w' => ∃ (a : Int),v6 = .int .i64 a ∧ Aside0 (a2c.l0 kq l0 (l0.length : Int) a = some r) ∧ Aside0 (kq ≤ k) ∧ Aside0 (Below w.heap.size w w'))
 case atStart => exact ⟨(0),qs_,H',⟨Nat.le_refl _⟩,⟨qb_⟩⟩
 case round =>
 clear H'
 obtain ⟨a,rfl,HA,L,HB⟩ := hrel
 cases gk with
 | zero => exact absurd HA.out (by simp [a2c.l0])
 | succ k1 =>
 have H := HA.out
 clear HA
 simp only [a2c.l0] at H
 by_cases c2 : a < (l0.length : Int)
 rotate_left
 ·rw [if_neg c2] at H
  have a4 : decide (a < (l0.length : Int)) = false := decide_eq_false c2
  clear c2
  obtain rfl := si_ H
  go_wp2
  go_ret
  exact ⟨qx_,qb_⟩
 rw [if_pos c2] at H
 have a4 : decide (a < (l0.length : Int)) = true := decide_eq_true c2
 clear c2
 have O := am_ H
 clear H
 go_upto_region 4 with (fail)
 go_cut [32] (fun a8 wc => ∃ (kq : Nat) (A : Bool),a8 = .bool A ∧ Aside0 (a2c.j1 kq l0 (l0.length : Int) a A = some r) ∧ Aside0 (kq ≤ k1) ∧ Aside0 (Below w.heap.size w wc))
 case first =>
  have H := O.out
  clear O
  obtain ⟨P,H⟩ := qid_ H
  (first | rw [P] | (simp only [a3x,a4g];rw [P]) | skip)
  obtain ⟨ad,H⟩ := qid_ H
  replace H := bm_ H
  obtain ⟨a5,a1,H⟩ := H
  have A6 := am_ a1
  clear a1
  by_cases c7 : a5 = true
  rotate_left
  ·replace c7 := be_ c7
   subst c7
   replace H := qin_ H
   have H' := am_ H
   clear H
   try go_wp2
   replace HB := am_ (ld_ HB.out)
   have l : 0 ≤ (a : Int) := ot_
   have m : a < (l0.length : Int) := ot_
   obtain ⟨j,B,b,c⟩ := a4k J.out a l m
   have d := c
   have g := b
   cases B
   replace b := qh_ HB b
   replace c := qh_ HB c
   replace l := eq_true l
   replace m := eq_true m
   refine a4s (n := 24) (S := fun w' => w'.cell? (j.add ((a).toNat * 2)) = some (.int .i64 ((a0f l0 a).f0)) ∧ w'.cell? ⟨(j.add ((a).toNat * 2)).block,(j.add ((a).toNat * 2)).off + 1,none⟩ = some (.int .i64 ((a0f l0 a).f1))) (ds := []) #[Y,Y,Y,Y,Y,Y,Y,Y,Y,Y,Y,Y,Y,Y,Y,Y,Y,Y,Y,Y,Y,Y,Y,Y] (by kernel_rfl) rfl rfl ⟨((HB.out.cell (World.block_lt_of_cell? w _ g)).trans g),((HB.out.cell (World.block_lt_of_cell? w _ d)).trans d)⟩ (fun hHeld => ?_);refine a3y a2c.tab4 a2c.b3d (fun HT_ HW_ => ?_)
   generalize wr.drew = af at HB b c hHeld ⊢
   refine qpu_ 0 (some 9) #[Z,Y,Y,Y,Y,Y,Y,Y,Y,Y,Y,Y,Y,Y,Y,Y,Y,Y,Y,Y,Y,Y,Y,Y] ?_
   refine qpu_ 1 (some 10) #[Z,Z,Y,Y,Y,Y,Y,Y,Y,Y,Y,Y,Y,Y,Y,Y,Y,Y,Y,Y,Y,Y,Y,Y] ?_
   refine qpu_ 2 (some 11) #[Z,Z,Z,Y,Y,Y,Y,Y,Y,Y,Y,Y,Y,Y,Y,Y,Y,Y,Y,Y,Y,Y,Y,Y] ?_
   refine c1m 3 (some 12) #[Z,Z,Z,Z,Y,Y,Y,Y,Y,Y,Y,Y,Y,Y,Y,Y,Y,Y,Y,Y,Y,Y,Y,Y] hHeld ?_
   refine one_ (i := 4) (N := some 13) #[Z,Z,Z,Z,Z,Y,Y,Y,Y,Y,Y,Y,Y,Y,Y,Y,Y,Y,Y,Y,Y,Y,Y,Y] rfl rfl (a4m HT_.out (by kernel_rfl)) (by decide) (fun K hK => ?_)
   refine a6n Try.func66 (by kernel_rfl) rfl #[.agg #[.int .i64 ((a0f l0 a).f0), .int .i64 ((a0f l0 a).f1)]] (by rfl) rfl rfl ql_ ?_
   with_reducible refine (a5b.calls ((a0f l0 a).f0) ((a0f l0 a).f1) false _ A6.out).mono ?_
   rintro e ag ⟨rfl,hb⟩
   refine ⟨_,rfl,?_⟩
   replace HB := qbs_ hb
   (try clear hb)
   (try clear a2)
   (try clear hk)
   (try clear hi)
   refine hK.out _ _ ⟨((HB.out.cell (World.block_lt_of_cell? w _ g)).trans g),((HB.out.cell (World.block_lt_of_cell? w _ d)).trans d)⟩ (fun hHeld => ?_)
   clear hK K
   refine a4r (a' := ?_) ?_ ?_
   rotate_left
   ·show Act.put _ (some 13) _ = _
    exact qp_
   refine qpu_ 5 (some 14) #[Z,Z,Z,Z,Z,Z,Y,Y,Y,Y,Y,Y,Y,Y,Y,Y,Y,Y,Y,Y,Y,Y,Y,Y] ?_
   refine qpu_ 6 (some 15) #[Z,Z,Z,Z,Z,Z,Z,Y,Y,Y,Y,Y,Y,Y,Y,Y,Y,Y,Y,Y,Y,Y,Y,Y] ?_
   refine qpv_ 7 (some 16) #[Z,Z,Z,Z,Z,Z,Z,Z,Y,Y,Y,Y,Y,Y,Y,Y,Y,Y,Y,Y,Y,Y,Y,Y] ?_
   refine qpv_ 8 (some 17) #[Z,Z,Z,Z,Z,Z,Z,Z,Z,Y,Y,Y,Y,Y,Y,Y,Y,Y,Y,Y,Y,Y,Y,Y] ?_
   refine qpv_ 9 (some 18) #[Z,Z,Z,Z,Z,Z,Z,Z,Z,Z,Y,Y,Y,Y,Y,Y,Y,Y,Y,Y,Y,Y,Y,Y] ?_
   refine qpv_ 10 (some 19) #[Z,Z,Z,Z,Z,Z,Z,Z,Z,Z,Z,Y,Y,Y,Y,Y,Y,Y,Y,Y,Y,Y,Y,Y] ?_
   refine qpv_ 11 (some 20) #[Z,Z,Z,Z,Z,Z,Z,Z,Z,Z,Z,Z,Y,Y,Y,Y,Y,Y,Y,Y,Y,Y,Y,Y] ?_
   refine qpv_ 12 (some 21) #[Z,Z,Z,Z,Z,Z,Z,Z,Z,Z,Z,Z,Z,Y,Y,Y,Y,Y,Y,Y,Y,Y,Y,Y] ?_
   refine qpv_ 13 (some 22) #[Z,Z,Z,Z,Z,Z,Z,Z,Z,Z,Z,Z,Z,Z,Y,Y,Y,Y,Y,Y,Y,Y,Y,Y] ?_
   refine qpv_ 14 (some 23) #[Z,Z,Z,Z,Z,Z,Z,Z,Z,Z,Z,Z,Z,Z,Z,Y,Y,Y,Y,Y,Y,Y,Y,Y] ?_
   refine qpv_ 15 (some 24) #[Z,Z,Z,Z,Z,Z,Z,Z,Z,Z,Z,Z,Z,Z,Z,Z,Y,Y,Y,Y,Y,Y,Y,Y] ?_
   refine qpv_ 16 (some 25) #[Z,Z,Z,Z,Z,Z,Z,Z,Z,Z,Z,Z,Z,Z,Z,Z,Z,Y,Y,Y,Y,Y,Y,Y] ?_
   refine qpv_ 17 (some 26) #[Z,Z,Z,Z,Z,Z,Z,Z,Z,Z,Z,Z,Z,Z,Z,Z,Z,Z,Y,Y,Y,Y,Y,Y] ?_
   refine qpv_ 18 (some 27) #[Z,Z,Z,Z,Z,Z,Z,Z,Z,Z,Z,Z,Z,Z,Z,Z,Z,Z,Z,Y,Y,Y,Y,Y] ?_
   refine qpv_ 19 (some 28) #[Z,Z,Z,Z,Z,Z,Z,Z,Z,Z,Z,Z,Z,Z,Z,Z,Z,Z,Z,Z,Y,Y,Y,Y] ?_
   refine qpv_ 20 (some 29) #[Z,Z,Z,Z,Z,Z,Z,Z,Z,Z,Z,Z,Z,Z,Z,Z,Z,Z,Z,Z,Z,Y,Y,Y] ?_
   refine qpv_ 21 (some 30) #[Z,Z,Z,Z,Z,Z,Z,Z,Z,Z,Z,Z,Z,Z,Z,Z,Z,Z,Z,Z,Z,Z,Y,Y] ?_
   refine qpv_ 22 (some 31) #[Z,Z,Z,Z,Z,Z,Z,Z,Z,Z,Z,Z,Z,Z,Z,Z,Z,Z,Z,Z,Z,Z,Z,Y] ?_
   refine qpu_ 23 (some 32) #[Z,Z,Z,Z,Z,Z,Z,Z,Z,Z,Z,Z,Z,Z,Z,Z,Z,Z,Z,Z,Z,Z,Z,Z] ?_
   refine a4z (a4l HT_.out (by kernel_rfl)) ?_
   try go_wp2
   go_meet
   case rel => exact ⟨_,(true),qs_,H',⟨by have := L.out;first | omega | exact Nat.le_refl _⟩,⟨qb_⟩⟩
  subst c7
  replace H := qip_ H
  by_cases c8 : a > 0
  rotate_left
  ·rw [if_neg c8] at H
   have T : decide (0 < a) = false := decide_eq_false c8
   clear c8
   have H' := am_ H
   clear H
   try go_wp2
   replace HB := am_ (ld_ HB.out)
   have l : 0 ≤ (a : Int) := ot_
   have m : a < (l0.length : Int) := ot_
   obtain ⟨j,B,b,c⟩ := a4k J.out a l m
   have d := c
   have g := b
   cases B
   replace b := qh_ HB b
   replace c := qh_ HB c
   replace l := eq_true l
   replace m := eq_true m
   refine a4s (n := 24) (S := fun w' => w'.cell? (j.add ((a).toNat * 2)) = some (.int .i64 ((a0f l0 a).f0)) ∧ w'.cell? ⟨(j.add ((a).toNat * 2)).block,(j.add ((a).toNat * 2)).off + 1,none⟩ = some (.int .i64 ((a0f l0 a).f1))) (ds := []) #[Y,Y,Y,Y,Y,Y,Y,Y,Y,Y,Y,Y,Y,Y,Y,Y,Y,Y,Y,Y,Y,Y,Y,Y] (by kernel_rfl) rfl rfl ⟨((HB.out.cell (World.block_lt_of_cell? w _ g)).trans g),((HB.out.cell (World.block_lt_of_cell? w _ d)).trans d)⟩ (fun hHeld => ?_);refine a3y a2c.tab4 a2c.b3d (fun HT_ HW_ => ?_)
   generalize wr.drew = ah at HB b c hHeld ⊢
   refine qpu_ 0 (some 9) #[Z,Y,Y,Y,Y,Y,Y,Y,Y,Y,Y,Y,Y,Y,Y,Y,Y,Y,Y,Y,Y,Y,Y,Y] ?_
   refine qpu_ 1 (some 10) #[Z,Z,Y,Y,Y,Y,Y,Y,Y,Y,Y,Y,Y,Y,Y,Y,Y,Y,Y,Y,Y,Y,Y,Y] ?_
   refine qpu_ 2 (some 11) #[Z,Z,Z,Y,Y,Y,Y,Y,Y,Y,Y,Y,Y,Y,Y,Y,Y,Y,Y,Y,Y,Y,Y,Y] ?_
   refine c1m 3 (some 12) #[Z,Z,Z,Z,Y,Y,Y,Y,Y,Y,Y,Y,Y,Y,Y,Y,Y,Y,Y,Y,Y,Y,Y,Y] hHeld ?_
   refine one_ (i := 4) (N := some 13) #[Z,Z,Z,Z,Z,Y,Y,Y,Y,Y,Y,Y,Y,Y,Y,Y,Y,Y,Y,Y,Y,Y,Y,Y] rfl rfl (a4m HT_.out (by kernel_rfl)) (by decide) (fun K hK => ?_)
   refine a6n Try.func66 (by kernel_rfl) rfl #[.agg #[.int .i64 ((a0f l0 a).f0), .int .i64 ((a0f l0 a).f1)]] (by rfl) rfl rfl ql_ ?_
   with_reducible refine (a5b.calls ((a0f l0 a).f0) ((a0f l0 a).f1) true _ A6.out).mono ?_
   rintro e ai ⟨rfl,hb⟩
   refine ⟨_,rfl,?_⟩
   replace HB := qbs_ hb
   (try clear hb)
   (try clear a2)
   (try clear hk)
   (try clear hi)
   refine hK.out _ _ ⟨((HB.out.cell (World.block_lt_of_cell? w _ g)).trans g),((HB.out.cell (World.block_lt_of_cell? w _ d)).trans d)⟩ (fun hHeld => ?_)
   clear hK K
   refine a4r (a' := ?_) ?_ ?_
   rotate_left
   ·show Act.put _ (some 13) _ = _
    exact qp_
   refine qpu_ 5 (some 14) #[Z,Z,Z,Z,Z,Z,Y,Y,Y,Y,Y,Y,Y,Y,Y,Y,Y,Y,Y,Y,Y,Y,Y,Y] ?_
   refine qpu_ 6 (some 15) #[Z,Z,Z,Z,Z,Z,Z,Y,Y,Y,Y,Y,Y,Y,Y,Y,Y,Y,Y,Y,Y,Y,Y,Y] ?_
   refine qpu_ 7 (some 16) #[Z,Z,Z,Z,Z,Z,Z,Z,Y,Y,Y,Y,Y,Y,Y,Y,Y,Y,Y,Y,Y,Y,Y,Y] ?_
   refine qpu_ 8 (some 17) #[Z,Z,Z,Z,Z,Z,Z,Z,Z,Y,Y,Y,Y,Y,Y,Y,Y,Y,Y,Y,Y,Y,Y,Y] ?_
   refine qpu_ 9 (some 18) #[Z,Z,Z,Z,Z,Z,Z,Z,Z,Z,Y,Y,Y,Y,Y,Y,Y,Y,Y,Y,Y,Y,Y,Y] ?_
   refine qpv_ 10 (some 19) #[Z,Z,Z,Z,Z,Z,Z,Z,Z,Z,Z,Y,Y,Y,Y,Y,Y,Y,Y,Y,Y,Y,Y,Y] ?_
   refine qpv_ 11 (some 20) #[Z,Z,Z,Z,Z,Z,Z,Z,Z,Z,Z,Z,Y,Y,Y,Y,Y,Y,Y,Y,Y,Y,Y,Y] ?_
   refine qpv_ 12 (some 21) #[Z,Z,Z,Z,Z,Z,Z,Z,Z,Z,Z,Z,Z,Y,Y,Y,Y,Y,Y,Y,Y,Y,Y,Y] ?_
   refine qpv_ 13 (some 22) #[Z,Z,Z,Z,Z,Z,Z,Z,Z,Z,Z,Z,Z,Z,Y,Y,Y,Y,Y,Y,Y,Y,Y,Y] ?_
   refine qpv_ 14 (some 23) #[Z,Z,Z,Z,Z,Z,Z,Z,Z,Z,Z,Z,Z,Z,Z,Y,Y,Y,Y,Y,Y,Y,Y,Y] ?_
   refine qpv_ 15 (some 24) #[Z,Z,Z,Z,Z,Z,Z,Z,Z,Z,Z,Z,Z,Z,Z,Z,Y,Y,Y,Y,Y,Y,Y,Y] ?_
   refine qpv_ 16 (some 25) #[Z,Z,Z,Z,Z,Z,Z,Z,Z,Z,Z,Z,Z,Z,Z,Z,Z,Y,Y,Y,Y,Y,Y,Y] ?_
   refine qpv_ 17 (some 26) #[Z,Z,Z,Z,Z,Z,Z,Z,Z,Z,Z,Z,Z,Z,Z,Z,Z,Z,Y,Y,Y,Y,Y,Y] ?_
   refine qpv_ 18 (some 27) #[Z,Z,Z,Z,Z,Z,Z,Z,Z,Z,Z,Z,Z,Z,Z,Z,Z,Z,Z,Y,Y,Y,Y,Y] ?_
   refine qpv_ 19 (some 28) #[Z,Z,Z,Z,Z,Z,Z,Z,Z,Z,Z,Z,Z,Z,Z,Z,Z,Z,Z,Z,Y,Y,Y,Y] ?_
   refine qpv_ 20 (some 29) #[Z,Z,Z,Z,Z,Z,Z,Z,Z,Z,Z,Z,Z,Z,Z,Z,Z,Z,Z,Z,Z,Y,Y,Y] ?_
   refine qpv_ 21 (some 30) #[Z,Z,Z,Z,Z,Z,Z,Z,Z,Z,Z,Z,Z,Z,Z,Z,Z,Z,Z,Z,Z,Z,Y,Y] ?_
   refine qpu_ 22 (some 31) #[Z,Z,Z,Z,Z,Z,Z,Z,Z,Z,Z,Z,Z,Z,Z,Z,Z,Z,Z,Z,Z,Z,Z,Y] ?_
   refine qpu_ 23 (some 32) #[Z,Z,Z,Z,Z,Z,Z,Z,Z,Z,Z,Z,Z,Z,Z,Z,Z,Z,Z,Z,Z,Z,Z,Z] ?_
   refine a4z (a4l HT_.out (by kernel_rfl)) ?_
   try go_wp2
   go_meet
   case rel => exact ⟨_,(false),qs_,H',⟨by have := L.out;first | omega | exact Nat.le_refl _⟩,⟨qb_⟩⟩
  rw [if_pos c8] at H
  have T : decide (0 < a) = true := decide_eq_true c8
  clear c8
  obtain ⟨t,z⟩ : ∃ j_ : Int,(wrap64 (a - 1)) = j_ := ⟨_,rfl⟩
  replace H : (if 0 ≤ (t) then (if (t) < (l0.length : Int) then (a2c.j1 k1 l0 (l0.length : Int) a (decide (((a0f l0 (t)).f1) ≥ ((a0f l0 a).f0)))) else (none)) else (none)) = some r := by first | (rw [z] at H;exact H) | (simp only [z] at H ⊢;exact H)
  (try rw [z] at A6)
  have hji9w : (IntKind.i64.wrap (a - 1)) = t := (a3x _).trans z
  obtain ⟨aa,H⟩ := qid_ H
  obtain ⟨ab,H⟩ := qid_ H
  have H' := am_ H
  clear H
  try go_wp2
  replace HB := am_ (ld_ HB.out)
  have l : 0 ≤ (a : Int) := ot_
  have m : a < (l0.length : Int) := ot_
  obtain ⟨j,B,b,c⟩ := a4k J.out a l m
  have d := c
  have g := b
  cases B
  replace b := qh_ HB b
  replace c := qh_ HB c
  replace l := eq_true l
  replace m := eq_true m
  have D : 0 ≤ ((t) : Int) := ot_
  have E : (t) < (l0.length : Int) := ot_
  obtain ⟨U,a6,o,p⟩ := a4k J.out (t) D E
  have u := p
  have v := o
  obtain rfl : j = U := (by injection a6)
  replace o := qh_ HB o
  replace p := qh_ HB p
  replace D := eq_true D
  replace E := eq_true E
  have G : 0 ≤ (a : Int) := ot_
  have I : a < (l0.length : Int) := ot_
  obtain ⟨W,a7,q,s⟩ := a4k J.out a G I
  have x := s
  have y := q
  obtain rfl : j = W := (by injection a7)
  replace q := qh_ HB q
  replace s := qh_ HB s
  replace G := eq_true G
  replace I := eq_true I
  refine a4s (n := 24) (S := fun w' => w'.cell? (j.add ((a).toNat * 2)) = some (.int .i64 ((a0f l0 a).f0)) ∧ w'.cell? ⟨(j.add ((a).toNat * 2)).block,(j.add ((a).toNat * 2)).off + 1,none⟩ = some (.int .i64 ((a0f l0 a).f1)) ∧ w'.cell? (j.add (((t)).toNat * 2)) = some (.int .i64 ((a0f l0 (t)).f0)) ∧ w'.cell? ⟨(j.add (((t)).toNat * 2)).block,(j.add (((t)).toNat * 2)).off + 1,none⟩ = some (.int .i64 ((a0f l0 (t)).f1)) ∧ w'.cell? (j.add ((a).toNat * 2)) = some (.int .i64 ((a0f l0 a).f0)) ∧ w'.cell? ⟨(j.add ((a).toNat * 2)).block,(j.add ((a).toNat * 2)).off + 1,none⟩ = some (.int .i64 ((a0f l0 a).f1))) (ds := []) #[Y,Y,Y,Y,Y,Y,Y,Y,Y,Y,Y,Y,Y,Y,Y,Y,Y,Y,Y,Y,Y,Y,Y,Y] (by kernel_rfl) rfl rfl ⟨((HB.out.cell (World.block_lt_of_cell? w _ g)).trans g),((HB.out.cell (World.block_lt_of_cell? w _ d)).trans d),((HB.out.cell (World.block_lt_of_cell? w _ v)).trans v),((HB.out.cell (World.block_lt_of_cell? w _ u)).trans u),((HB.out.cell (World.block_lt_of_cell? w _ y)).trans y),((HB.out.cell (World.block_lt_of_cell? w _ x)).trans x)⟩ (fun hHeld => ?_);refine a3y a2c.tab4 a2c.b3d (fun HT_ HW_ => ?_)
  generalize wr.drew = aj at HB b c o p q s hHeld ⊢
  refine qpu_ 0 (some 9) #[Z,Y,Y,Y,Y,Y,Y,Y,Y,Y,Y,Y,Y,Y,Y,Y,Y,Y,Y,Y,Y,Y,Y,Y] ?_
  refine qpu_ 1 (some 10) #[Z,Z,Y,Y,Y,Y,Y,Y,Y,Y,Y,Y,Y,Y,Y,Y,Y,Y,Y,Y,Y,Y,Y,Y] ?_
  refine qpu_ 2 (some 11) #[Z,Z,Z,Y,Y,Y,Y,Y,Y,Y,Y,Y,Y,Y,Y,Y,Y,Y,Y,Y,Y,Y,Y,Y] ?_
  refine a5q 3 (some 12) #[Z,Z,Z,Z,Y,Y,Y,Y,Y,Y,Y,Y,Y,Y,Y,Y,Y,Y,Y,Y,Y,Y,Y,Y] hHeld ?_
  refine one_ (i := 4) (N := some 13) #[Z,Z,Z,Z,Z,Y,Y,Y,Y,Y,Y,Y,Y,Y,Y,Y,Y,Y,Y,Y,Y,Y,Y,Y] rfl rfl (a4m HT_.out (by kernel_rfl)) (by decide) (fun K hK => ?_)
  refine a6n Try.func66 (by kernel_rfl) rfl #[.agg #[.int .i64 ((a0f l0 a).f0), .int .i64 ((a0f l0 a).f1)]] (by rfl) rfl rfl ql_ ?_
  with_reducible refine (a5b.calls ((a0f l0 a).f0) ((a0f l0 a).f1) true _ A6.out).mono ?_
  rintro e ak ⟨rfl,hb⟩
  refine ⟨_,rfl,?_⟩
  replace HB := qbs_ hb
  (try clear hb)
  (try clear a2)
  (try clear hk)
  (try clear hi)
  refine hK.out _ _ ⟨((HB.out.cell (World.block_lt_of_cell? w _ g)).trans g),((HB.out.cell (World.block_lt_of_cell? w _ d)).trans d),((HB.out.cell (World.block_lt_of_cell? w _ v)).trans v),((HB.out.cell (World.block_lt_of_cell? w _ u)).trans u),((HB.out.cell (World.block_lt_of_cell? w _ y)).trans y),((HB.out.cell (World.block_lt_of_cell? w _ x)).trans x)⟩ (fun hHeld => ?_)
  clear hK K
  refine a4r (a' := ?_) ?_ ?_
  rotate_left
  ·show Act.put _ (some 13) _ = _
   exact qp_
  refine qpu_ 5 (some 14) #[Z,Z,Z,Z,Z,Z,Y,Y,Y,Y,Y,Y,Y,Y,Y,Y,Y,Y,Y,Y,Y,Y,Y,Y] ?_
  refine qpu_ 6 (some 15) #[Z,Z,Z,Z,Z,Z,Z,Y,Y,Y,Y,Y,Y,Y,Y,Y,Y,Y,Y,Y,Y,Y,Y,Y] ?_
  refine qpu_ 7 (some 16) #[Z,Z,Z,Z,Z,Z,Z,Z,Y,Y,Y,Y,Y,Y,Y,Y,Y,Y,Y,Y,Y,Y,Y,Y] ?_
  refine qpu_ 8 (some 17) #[Z,Z,Z,Z,Z,Z,Z,Z,Z,Y,Y,Y,Y,Y,Y,Y,Y,Y,Y,Y,Y,Y,Y,Y] ?_
  refine qpu_ 9 (some 18) #[Z,Z,Z,Z,Z,Z,Z,Z,Z,Z,Y,Y,Y,Y,Y,Y,Y,Y,Y,Y,Y,Y,Y,Y] ?_
  refine qpu_ 10 (some 19) #[Z,Z,Z,Z,Z,Z,Z,Z,Z,Z,Z,Y,Y,Y,Y,Y,Y,Y,Y,Y,Y,Y,Y,Y] ?_
  refine qpu_ 11 (some 20) #[Z,Z,Z,Z,Z,Z,Z,Z,Z,Z,Z,Z,Y,Y,Y,Y,Y,Y,Y,Y,Y,Y,Y,Y] ?_
  refine qpu_ 12 (some 21) #[Z,Z,Z,Z,Z,Z,Z,Z,Z,Z,Z,Z,Z,Y,Y,Y,Y,Y,Y,Y,Y,Y,Y,Y] ?_
  refine qpu_ 13 (some 22) #[Z,Z,Z,Z,Z,Z,Z,Z,Z,Z,Z,Z,Z,Z,Y,Y,Y,Y,Y,Y,Y,Y,Y,Y] ?_
  refine qpu_ 14 (some 23) #[Z,Z,Z,Z,Z,Z,Z,Z,Z,Z,Z,Z,Z,Z,Z,Y,Y,Y,Y,Y,Y,Y,Y,Y] ?_
  refine qpu_ 16 (some 25) #[Z,Z,Z,Z,Z,Z,Z,Z,Z,Z,Z,Z,Z,Z,Z,Y,Z,Y,Y,Y,Y,Y,Y,Y] ?_
  refine qpu_ 17 (some 26) #[Z,Z,Z,Z,Z,Z,Z,Z,Z,Z,Z,Z,Z,Z,Z,Y,Z,Z,Y,Y,Y,Y,Y,Y] ?_
  refine qpu_ 18 (some 27) #[Z,Z,Z,Z,Z,Z,Z,Z,Z,Z,Z,Z,Z,Z,Z,Y,Z,Z,Z,Y,Y,Y,Y,Y] ?_
  refine qpu_ 19 (some 28) #[Z,Z,Z,Z,Z,Z,Z,Z,Z,Z,Z,Z,Z,Z,Z,Y,Z,Z,Z,Z,Y,Y,Y,Y] ?_
  refine a5q 15 (some 24) #[Z,Z,Z,Z,Z,Z,Z,Z,Z,Z,Z,Z,Z,Z,Z,Z,Z,Z,Z,Z,Y,Y,Y,Y] hHeld ?_
  refine a5q 20 (some 29) #[Z,Z,Z,Z,Z,Z,Z,Z,Z,Z,Z,Z,Z,Z,Z,Z,Z,Z,Z,Z,Z,Y,Y,Y] hHeld ?_
  refine qpu_ 21 (some 30) #[Z,Z,Z,Z,Z,Z,Z,Z,Z,Z,Z,Z,Z,Z,Z,Z,Z,Z,Z,Z,Z,Z,Y,Y] ?_
  refine qpu_ 22 (some 31) #[Z,Z,Z,Z,Z,Z,Z,Z,Z,Z,Z,Z,Z,Z,Z,Z,Z,Z,Z,Z,Z,Z,Z,Y] ?_
  refine qpu_ 23 (some 32) #[Z,Z,Z,Z,Z,Z,Z,Z,Z,Z,Z,Z,Z,Z,Z,Z,Z,Z,Z,Z,Z,Z,Z,Z] ?_
  refine a4z (a4l HT_.out (by kernel_rfl)) ?_
  try go_wp2
  try subst z
  go_meet
  case rel => exact ⟨_,(decide (((a0f l0 ((wrap64 (a - 1)))).f1) ≥ ((a0f l0 a).f0))),(by first | rfl | (simp;done) | (simp only [← z] <;> (first | rfl | simp)) | (simp [*];done)),H',⟨by have := L.out;first | omega | exact Nat.le_refl _⟩,⟨qb_⟩⟩
 case rest =>
 clear O
 try clear c7
 try clear T
 try clear b
 try clear c
 try clear o
 try clear p
 try clear q
 try clear s
 try clear l
 try clear D
 try clear G
 try clear m
 try clear E
 try clear I
 obtain ⟨kq,A,rfl,HA,a3,HB⟩ := hcut
 cases kq with
 | zero => exact absurd HA.out (by simp [a2c.j1])
 | succ a9 =>
 have H := HA.out
 clear HA
 simp only [a2c.j1] at H
 by_cases M : A = true
 ·subst M
  replace H := qip_ H
  obtain rfl := si_ H
  go_wp2
  go_ret
  exact ⟨qx_,qb_⟩
 replace M := be_ M
 subst M
 replace H := qin_ H
 have H' := am_ H
 clear H
 go_wp2
 go_roundg a9
 case measure => have := L.out;have := a3.out;omega
 case rel => exact ⟨(wrap64 (a + 1)),qs_,H',⟨by have := L.out;have := a3.out;omega⟩,⟨qb_⟩⟩
end Go.Proofs.Ytheibjkjmkanoaa.Px
