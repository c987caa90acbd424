/- Contracts of Go functions, printed. Conditions: as each theorem states. -/
import Derived.Test.YtheibjkjmkanoaaPx0
namespace Go.Proofs.Ytheibjkjmkanoaa.Px
open Go.Proofs.Ytheibjkjmkanoaa.Given
open Go.RowKit Go.Proofs.YtheibjkjmkanoaaW.PrintWords Go.Proofs.YtheibjkjmkanoaaW.PrintLast Go.Proofs.YtheibjkjmkanoaaW.PrintMore
attribute [local go_sem] a3m a3n a3x a3y a3e a3f a3o a3p
set_option linter.unusedVariables false
set_option linter.unusedSimpArgs false
mutual
def a0k.l0 : Nat → List Int → Int → Int → Int → Option (Bool)
 | 0,_,_,_,_ => none
 | k + 1,x0,x1,x2,x7 => if x7 < (x0.length : Int) then (if 0 ≤ x7 then (if (rd x0 x7) < x1 then (a0k.j1 k x0 x1 x2 x7 true) else (if (rd x0 x7) > x2 then (a0k.j1 k x0 x1 x2 x7 true) else (if x7 > 0 then (if 0 ≤ (wrap64 (x7 - 1)) then (if (wrap64 (x7 - 1)) < (x0.length : Int) then (a0k.j1 k x0 x1 x2 x7 (decide ((rd x0 x7) ≤ (rd x0 (wrap64 (x7 - 1)))))) else (none)) else (none)) else (a0k.j1 k x0 x1 x2 x7 false)))) else (none)) else (some true)
def a0k.j1 : Nat → List Int → Int → Int → Int → Bool → Option (Bool)
 | 0,_,_,_,_,_ => none
 | k + 1,x0,x1,x2,x7,a => if a = true then (some false) else (a0k.l0 k x0 x1 x2 (wrap64 (x7 + 1)))
end
def a0k.f (k : Nat) (l0 : List Int) (a1 a2 : Int) : Option (Bool) := a0k.l0 k l0 a1 a2 0
theorem a0k.a1h : ∀ k,(∀ y0 y1 y2 y3,LeO (a0k.l0 k y0 y1 y2 y3) (a0k.l0 (k + 1) y0 y1 y2 y3)) ∧ (∀ y0 y1 y2 y3 y4,LeO (a0k.j1 k y0 y1 y2 y3 y4) (a0k.j1 (k + 1) y0 y1 y2 y3 y4))
 | 0 => ⟨fun _ _ _ _ r h => by simp [a0k.l0] at h,fun _ _ _ _ _ r h => by simp [a0k.j1] at h⟩
 | k + 1 => by
  obtain ⟨a,b⟩ := a0k.a1h k
  refine ⟨?_,?_⟩ <;> intros <;> (first | unfold a0k.l0 | unfold a0k.j1) <;> with_reducible (repeat' first | apply a | apply b | apply LeO.refl | apply LeO.none | apply LeO.ite | refine LeO.bind ?_ (fun _ => ?_))
theorem a0k.mono : ∀ a0 a1 a2 k,LeO (a0k.f k a0 a1 a2) (a0k.f (k + 1) a0 a1 a2) := by
 intro a0 a1 a2 k
 obtain ⟨a,b⟩ := a0k.a1h k
 unfold a0k.f
 with_reducible (repeat' first | apply a | apply b | apply LeO.refl | apply LeO.none | apply LeO.ite | refine LeO.bind ?_ (fun _ => ?_))
set_option maxHeartbeats 8000000 in
set_option maxRecDepth 100000 in
theorem a0k.calls (k : Nat) (A0 : Option Addr) (c0 : Nat) (l0 : List Int) (a1 a2 : Int) (r : Bool) (w : World) (X : Kd.C (Kd.int .i64) w A0 l0.length l0) (Y : l0.length ≤ c0) (h : a0k.f k l0 a1 a2 = some r) :
  Calls Try.prog 35 #[.slice A0 l0.length c0, .int .i64 a1, .int .i64 a2] w fun e w' => e = .returned (.bool r) ∧ a3u w w' := by
 have n := am_ X
 have a6 := am_ Y
 clear X Y
 have H : (a0k.l0 k l0 a1 a2 0) = some r := h
 clear h
 have H' := am_ H
 clear H
 go_enter Try.func35,Try.ntmps35
 go_wp2
 repeat (go_quiet (fail);try go_wp2)
 go_loopg [7] k (fun kq v7 w' => ∃ (a : Int),v7 = .int .i64 a ∧ Aside0 (a0k.l0 kq l0 a1 a2 a = some r) ∧ Aside0 (kq ≤ k) ∧ a3u w w')
 case atStart => exact ⟨(0),qs_,H',⟨Nat.le_refl _⟩,qy_⟩
 case round =>
 clear H'
 obtain ⟨a,rfl,HA,u,⟨m1,rfl⟩⟩ := hrel
 cases gk with
 | zero => exact absurd HA.out (by simp [a0k.l0])
 | succ k1 =>
 have H := HA.out
 clear HA
 simp only [a0k.l0] at H
 by_cases c4 : a < (l0.length : Int)
 rotate_left
 ·rw [if_neg c4] at H
  have G : decide (a < (l0.length : Int)) = false := decide_eq_false c4
  clear c4
  obtain rfl := si_ H
  go_wp2
  repeat (go_quiet (fail);try go_wp2)
  go_ret
  exact ⟨qs_,qy_⟩
 rw [if_pos c4] at H
 have G : decide (a < (l0.length : Int)) = true := decide_eq_true c4
 clear c4
 have J := am_ H
 clear H
 go_upto_region 4 with (fail)
 repeat (go_quiet (fail);go_upto_region 4 with (fail))
 go_cut [43] (fun a4 wc => ∃ (kq : Nat) (s : Bool),a4 = .bool s ∧ Aside0 (a0k.j1 kq l0 a1 a2 a s = some r) ∧ Aside0 (kq ≤ k1) ∧ a3u w wc)
 case first =>
  have H := J.out
  clear J
  obtain ⟨A,H⟩ := qid_ H
  (first | rw [A] | (simp only [a4j,a4v];rw [A]) | skip)
  by_cases c7 : (rd l0 a) < a1
  ·rw [if_pos c7] at H
   have K : decide ((rd l0 a) < a1) = true := decide_eq_true c7
   clear c7
   have H' := am_ H
   clear H
   have b : 0 ≤ (a : Int) := ot_
   have c : a < (l0.length : Int) := ot_
   obtain ⟨i,l,j⟩ := Kd.a4t n.out a b c
   cases l
   replace b := eq_true b
   replace c := eq_true c
   go_wp2
   repeat (go_quiet (fail);try go_wp2)
   go_meet
   case rel => exact ⟨_,(true),qs_,H',⟨by have := u.out;first | omega | exact Nat.le_refl _⟩,qy_⟩
  rw [if_neg c7] at H
  have K : decide ((rd l0 a) < a1) = false := decide_eq_false c7
  clear c7
  by_cases c8 : (rd l0 a) > a2
  ·rw [if_pos c8] at H
   have L : decide (a2 < (rd l0 a)) = true := decide_eq_true c8
   clear c8
   have H' := am_ H
   clear H
   have b : 0 ≤ (a : Int) := ot_
   have c : a < (l0.length : Int) := ot_
   obtain ⟨i,l,j⟩ := Kd.a4t n.out a b c
   cases l
   replace b := eq_true b
   replace c := eq_true c
   have d : 0 ≤ (a : Int) := ot_
   have g : a < (l0.length : Int) := ot_
   obtain ⟨o,t,q⟩ := Kd.a4t n.out a d g
   obtain rfl : i = o := (by injection t)
   replace d := eq_true d
   replace g := eq_true g
   go_wp2
   repeat (go_quiet (fail);try go_wp2)
   go_meet
   case rel => exact ⟨_,(true),qs_,H',⟨by have := u.out;first | omega | exact Nat.le_refl _⟩,qy_⟩
  rw [if_neg c8] at H
  have L : decide (a2 < (rd l0 a)) = false := decide_eq_false c8
  clear c8
  by_cases c9 : a > 0
  rotate_left
  ·rw [if_neg c9] at H
   have M : decide (0 < a) = false := decide_eq_false c9
   clear c9
   have H' := am_ H
   clear H
   have b : 0 ≤ (a : Int) := ot_
   have c : a < (l0.length : Int) := ot_
   obtain ⟨i,l,j⟩ := Kd.a4t n.out a b c
   cases l
   replace b := eq_true b
   replace c := eq_true c
   have d : 0 ≤ (a : Int) := ot_
   have g : a < (l0.length : Int) := ot_
   obtain ⟨o,t,q⟩ := Kd.a4t n.out a d g
   obtain rfl : i = o := (by injection t)
   replace d := eq_true d
   replace g := eq_true g
   go_wp2
   repeat (go_quiet (fail);try go_wp2)
   go_meet
   case rel => exact ⟨_,(false),qs_,H',⟨by have := u.out;first | omega | exact Nat.le_refl _⟩,qy_⟩
  rw [if_pos c9] at H
  have M : decide (0 < a) = true := decide_eq_true c9
  clear c9
  obtain ⟨m,p⟩ : ∃ j_ : Int,(wrap64 (a - 1)) = j_ := ⟨_,rfl⟩
  replace H : (if 0 ≤ (m) then (if (m) < (l0.length : Int) then (a0k.j1 k1 l0 a1 a2 a (decide ((rd l0 a) ≤ (rd l0 (m))))) else (none)) else (none)) = some r := by first | (rw [p] at H;exact H) | (simp only [p] at H ⊢;exact H)
  have hji10w : (IntKind.i64.wrap (a - 1)) = m := (a4j _).trans p
  obtain ⟨O,H⟩ := qid_ H
  obtain ⟨P,H⟩ := qid_ H
  have H' := am_ H
  clear H
  have b : 0 ≤ (a : Int) := ot_
  have c : a < (l0.length : Int) := ot_
  obtain ⟨i,l,j⟩ := Kd.a4t n.out a b c
  cases l
  replace b := eq_true b
  replace c := eq_true c
  have d : 0 ≤ (a : Int) := ot_
  have g : a < (l0.length : Int) := ot_
  obtain ⟨o,t,q⟩ := Kd.a4t n.out a d g
  obtain rfl : i = o := (by injection t)
  replace d := eq_true d
  replace g := eq_true g
  have v : 0 ≤ (a : Int) := ot_
  have x : a < (l0.length : Int) := ot_
  obtain ⟨T,a0,D⟩ := Kd.a4t n.out a v x
  obtain rfl : i = T := (by injection a0)
  replace v := eq_true v
  replace x := eq_true x
  have y : 0 ≤ ((m) : Int) := ot_
  have z : (m) < (l0.length : Int) := ot_
  obtain ⟨W,a3,E⟩ := Kd.a4t n.out (m) y z
  obtain rfl : i = W := (by injection a3)
  replace y := eq_true y
  replace z := eq_true z
  go_wp2
  repeat (go_quiet (fail);try go_wp2)
  try subst p
  go_meet
  case rel => exact ⟨_,(decide ((rd l0 a) ≤ (rd l0 ((wrap64 (a - 1)))))),(by first | rfl | (simp;done) | (simp only [← p] <;> (first | rfl | simp)) | (simp [*];done)),H',⟨by have := u.out;first | omega | exact Nat.le_refl _⟩,qy_⟩
 case rest =>
 clear J
 try clear G
 try clear A
 try clear K
 try clear L
 try clear M
 try clear O
 try clear P
 try clear j
 try clear q
 try clear D
 try clear E
 try clear b
 try clear d
 try clear v
 try clear y
 try clear c
 try clear g
 try clear x
 try clear z
 obtain ⟨kq,s,rfl,HA,Z,⟨a7,rfl⟩⟩ := hcut
 cases kq with
 | zero => exact absurd HA.out (by simp [a0k.j1])
 | succ a5 =>
 have H := HA.out
 clear HA
 simp only [a0k.j1] at H
 by_cases B : s = true
 ·subst B
  replace H := qip_ H
  obtain rfl := si_ H
  go_wp2
  repeat (go_quiet (fail);try go_wp2)
  go_ret
  exact ⟨qs_,qy_⟩
 replace B := be_ B
 subst B
 replace H := qin_ H
 have H' := am_ H
 clear H
 go_wp2
 repeat (go_quiet (fail);try go_wp2)
 go_roundg a5
 case measure => have := u.out;have := Z.out;omega
 case rel => exact ⟨(wrap64 (a + 1)),qs_,H',⟨by have := u.out;have := Z.out;omega⟩,qy_⟩
def a1b.l0 : Nat → List (S51) → Int → Int → Int → Option (Int)
 | 0,_,_,_,_ => none
 | k + 1,x0,x1,x2,x7 => if x7 < x1 then (if 0 ≤ x7 then (if x7 < (x0.length : Int) then (if ((a0a x0 x7).f0) = x2 then (some x7) else (a1b.l0 k x0 x1 x2 (wrap64 (x7 + 1)))) else (none)) else (none)) else (some (-1))
def a1b.f (k : Nat) (l0 : List (S51)) (a1 a2 : Int) : Option (Int) := a1b.l0 k l0 a1 a2 0
theorem a1b.a1h : ∀ k,(∀ y0 y1 y2 y3,LeO (a1b.l0 k y0 y1 y2 y3) (a1b.l0 (k + 1) y0 y1 y2 y3))
 | 0 => fun _ _ _ _ r h => by simp [a1b.l0] at h
 | k + 1 => by
  have a := a1b.a1h k
  intro y0 y1 y2 y3
  unfold a1b.l0
  with_reducible (repeat' first | apply a | apply LeO.refl | apply LeO.none | apply LeO.ite | refine LeO.bind ?_ (fun _ => ?_))
theorem a1b.mono : ∀ a0 a1 a2 k,LeO (a1b.f k a0 a1 a2) (a1b.f (k + 1) a0 a1 a2) := by
 intro a0 a1 a2 k
 have a := a1b.a1h k
 unfold a1b.f
 with_reducible (repeat' first | apply a | apply LeO.refl | apply LeO.none | apply LeO.ite | refine LeO.bind ?_ (fun _ => ?_))
set_option maxHeartbeats 8000000 in
set_option maxRecDepth 100000 in
theorem a1b.calls (k : Nat) (A0 : Option Addr) (c0 : Nat) (l0 : List (S51)) (a1 a2 r : Int) (w : World) (D : Kd.C k51 w A0 l0.length l0) (E : l0.length ≤ c0) (h : a1b.f k l0 a1 a2 = some r) :
  Calls Try.prog 36 #[.slice A0 l0.length c0, .int .i64 a1, .int .i64 a2] w fun e w' => e = .returned (.int .i64 r) ∧ a3u w w' := by
 have G := am_ D
 have T := am_ E
 clear D E
 have H : (a1b.l0 k l0 a1 a2 0) = some r := h
 clear h
 have H' := am_ H
 clear H
 go_enter Try.func36,Try.ntmps36
 go_wp2
 go_loopg [7] k (fun kq v7 w' => ∃ (a : Int),v7 = .int .i64 a ∧ Aside0 (a1b.l0 kq l0 a1 a2 a = some r) ∧ Aside0 (kq ≤ k) ∧ a3u w w')
 case atStart => exact ⟨(0),qs_,H',⟨Nat.le_refl _⟩,qy_⟩
 case round =>
 clear H'
 obtain ⟨a,rfl,HA,J,⟨m1,rfl⟩⟩ := hrel
 cases gk with
 | zero => exact absurd HA.out (by simp [a1b.l0])
 | succ k1 =>
 have H := HA.out
 clear HA
 simp only [a1b.l0] at H
 by_cases c4 : a < a1
 rotate_left
 ·rw [if_neg c4] at H
  have K : decide (a < a1) = false := decide_eq_false c4
  clear c4
  obtain rfl := si_ H
  go_wp2
  go_ret
  exact ⟨qs_,qy_⟩
 rw [if_pos c4] at H
 have K : decide (a < a1) = true := decide_eq_true c4
 clear c4
 obtain ⟨O,H⟩ := qid_ H
 obtain ⟨P,H⟩ := qid_ H
 by_cases c7 : ((a0a l0 a).f0) = a2
 ·rw [if_pos c7] at H
  have L : (((a0a l0 a).f0) == a2) = true := beq_iff_eq.mpr c7
  have M : (((a0a l0 a).f0) != a2) = false := bne_eq_false_iff_eq.mpr c7
  clear c7
  obtain rfl := si_ H
  have i : 0 ≤ (a : Int) := ot_
  have j : a < (l0.length : Int) := ot_
  obtain ⟨B,x,y,z,A,l,m,n,o,p,q,b,c,d,g⟩ := a5j G.out a i j
  cases l
  have s := am_ c
  have t := am_ b
  clear c b
  have u := am_ g
  have v := am_ d
  clear g d
  replace i := eq_true i
  replace j := eq_true j
  go_wp2
  go_ret
  exact ⟨qs_,qy_⟩
 rw [if_neg c7] at H
 have L : (((a0a l0 a).f0) == a2) = false := beq_eq_false_iff_ne.mpr c7
 have M : (((a0a l0 a).f0) != a2) = true := bne_iff_ne.mpr c7
 have H' := am_ H
 clear H
 have i : 0 ≤ (a : Int) := ot_
 have j : a < (l0.length : Int) := ot_
 obtain ⟨B,x,y,z,A,l,m,n,o,p,q,b,c,d,g⟩ := a5j G.out a i j
 cases l
 have s := am_ c
 have t := am_ b
 clear c b
 have u := am_ g
 have v := am_ d
 clear g d
 replace i := eq_true i
 replace j := eq_true j
 go_wp2
 go_roundg k1
 case measure => have := J.out;omega
 case rel => exact ⟨(wrap64 (a + 1)),qs_,H',⟨by have := J.out;omega⟩,qy_⟩
end Go.Proofs.Ytheibjkjmkanoaa.Px
