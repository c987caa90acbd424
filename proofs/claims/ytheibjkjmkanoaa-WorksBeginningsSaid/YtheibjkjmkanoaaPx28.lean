/- Contracts of Go functions, printed. Conditions: as each theorem states. -/
import Derived.Test.YtheibjkjmkanoaaPx0
import Derived.Test.YtheibjkjmkanoaaPx24
import Derived.Test.YtheibjkjmkanoaaPx27
namespace Go.Proofs.Ytheibjkjmkanoaa.Px
open Go.Proofs.Ytheibjkjmkanoaa.Given
open Go.RowKit Go.Proofs.YtheibjkjmkanoaaW.PrintWords Go.Proofs.YtheibjkjmkanoaaW.PrintLast Go.Proofs.YtheibjkjmkanoaaW.PrintMore
attribute [local go_sem] a3r a3s a4e a4f a3k a3l a3t a3u
set_option linter.unusedVariables false
set_option linter.unusedSimpArgs false
mutual
def a2s.l0 : Nat → List (S51) → List (S58) → Int → List (S42) → List (S42) → Int → Option ((List (S42)) × Int)
 | 0,_,_,_,_,_,_ => none
 | k + 1,x0,x1,x2,x3,b,a => if a < (x0.length : Int) then (if 0 ≤ a then (if a < (x3.length : Int) then (if a < (b.length : Int) then (a2s.l0 k x0 x1 x2 x3 (b.set (a : Int).toNat (⟨(a0b x3 a).f0,(a0b x3 a).f1,(a0b x3 a).f2⟩ : S42)) (wrap64 (a + 1))) else (none)) else (none)) else (none)) else (a2s.l1 k x0 x1 x2 b 0)
def a2s.l1 : Nat → List (S51) → List (S58) → Int → List (S42) → Int → Option ((List (S42)) × Int)
 | 0,_,_,_,_,_ => none
 | k + 1,x0,x1,x2,c,b => if b < (x0.length : Int) then (if 0 ≤ b then (if b < (c.length : Int) then (if ((a0b c b).f2) > 0 then (a2s.l1 k x0 x1 x2 c (wrap64 (b + 1))) else ((a3a.f k x0 x1 b x2 c).bind fun a => (if a.2.2.2 = 0 then (a2s.l1 k x0 x1 x2 (c.set (b : Int).toNat (⟨a.1,a.2.1,a.2.2.1⟩ : S42)) (wrap64 (b + 1))) else (some (([] : List (S42)),a.2.2.2))))) else (none)) else (none)) else (some (c,0))
end
def a2s.f (k : Nat) (l0 : List (S51)) (l1 : List (S58)) (a2 : Int) (l3 : List (S42)) : Option ((List (S42)) × Int) := if 0 ≤ (l0.length : Int) then (if ((l0.length : Int) : Int).toNat ≤ 11728124029610 then (a2s.l0 k l0 l1 a2 l3 (List.replicate ((l0.length : Int) : Int).toNat z42) 0) else (none)) else (none)
theorem a2s.a1t : ∀ k,(∀ y0 y1 y2 y3 y4 y5,LeO (a2s.l0 k y0 y1 y2 y3 y4 y5) (a2s.l0 (k + 1) y0 y1 y2 y3 y4 y5)) ∧ (∀ y0 y1 y2 y3 y4,LeO (a2s.l1 k y0 y1 y2 y3 y4) (a2s.l1 (k + 1) y0 y1 y2 y3 y4))
 | 0 => ⟨fun _ _ _ _ _ _ r h => by simp [a2s.l0] at h,fun _ _ _ _ _ r h => by simp [a2s.l1] at h⟩
 | k + 1 => by
  obtain ⟨a,b⟩ := a2s.a1t k
  refine ⟨?_,?_⟩ <;> intros <;> (first | unfold a2s.l0 | unfold a2s.l1) <;> with_reducible (repeat' first | apply a | apply b | apply a3a.mono | apply LeO.refl | apply LeO.none | apply LeO.ite | refine LeO.bind ?_ (fun _ => ?_))
theorem a2s.mono : ∀ a0 a1 a2 a3 k,LeO (a2s.f k a0 a1 a2 a3) (a2s.f (k + 1) a0 a1 a2 a3) := by
 intro a0 a1 a2 a3 k
 obtain ⟨a,b⟩ := a2s.a1t k
 unfold a2s.f
 with_reducible (repeat' first | apply a | apply b | apply a3a.mono | apply LeO.refl | apply LeO.none | apply LeO.ite | refine LeO.bind ?_ (fun _ => ?_))
def a3j.j0 : Nat → List (S51) → List (S58) → Int → Bool → Option ((List (S42)) × Int)
 | 0,_,_,_,_ => none
 | k + 1,x0,x1,x2,b => if b = true then (some (([] : List (S42)),1)) else (if 0 ≤ (x0.length : Int) then (if ((x0.length : Int) : Int).toNat ≤ 11728124029610 then ((a2s.f k x0 x1 x2 (List.replicate ((x0.length : Int) : Int).toNat z42)).bind fun a => (some (a.1,a.2))) else (none)) else (none))
def a3j.f (k : Nat) (l0 : List (S51)) (l1 : List (S58)) (a2 : Int) : Option ((List (S42)) × Int) := (a0c.f k l0 l1).bind fun a => (if a = true then (if a2 < 0 then (a3j.j0 k l0 l1 a2 true) else (a3j.j0 k l0 l1 a2 (decide (a2 > 36524)))) else (a3j.j0 k l0 l1 a2 true))
theorem a3j.a1t : ∀ k,(∀ y0 y1 y2 y3,LeO (a3j.j0 k y0 y1 y2 y3) (a3j.j0 (k + 1) y0 y1 y2 y3))
 | 0 => fun _ _ _ _ r h => by simp [a3j.j0] at h
 | k + 1 => by
  have a := a3j.a1t k
  intro y0 y1 y2 y3
  unfold a3j.j0
  with_reducible (repeat' first | apply a | apply a0c.mono | apply a2s.mono | apply LeO.refl | apply LeO.none | apply LeO.ite | refine LeO.bind ?_ (fun _ => ?_))
theorem a3j.mono : ∀ a0 a1 a2 k,LeO (a3j.f k a0 a1 a2) (a3j.f (k + 1) a0 a1 a2) := by
 intro a0 a1 a2 k
 have a := a3j.a1t k
 unfold a3j.f
 with_reducible (repeat' first | apply a | apply a0c.mono | apply a2s.mono | apply LeO.refl | apply LeO.none | apply LeO.ite | refine LeO.bind ?_ (fun _ => ?_))
def a2d.l0 : Nat → List (S51) → List (S42) → Int → Option (Bool)
 | 0,_,_,_ => none
 | k + 1,x0,x1,x5 => if x5 < (x1.length : Int) then (if 0 ≤ x5 then (if x5 < (x0.length : Int) then (if ((a0b x1 x5).f0) = ((a0a x0 x5).f0) then (a2d.l0 k x0 x1 (wrap64 (x5 + 1))) else (some false)) else (none)) else (none)) else (some true)
def a2d.f (k : Nat) (l0 : List (S51)) (l1 : List (S42)) : Option (Bool) := if (l1.length : Int) = (l0.length : Int) then (a2d.l0 k l0 l1 0) else (some false)
theorem a2d.a1t : ∀ k,(∀ y0 y1 y2,LeO (a2d.l0 k y0 y1 y2) (a2d.l0 (k + 1) y0 y1 y2))
 | 0 => fun _ _ _ r h => by simp [a2d.l0] at h
 | k + 1 => by
  have a := a2d.a1t k
  intro y0 y1 y2
  unfold a2d.l0
  with_reducible (repeat' first | apply a | apply LeO.refl | apply LeO.none | apply LeO.ite | refine LeO.bind ?_ (fun _ => ?_))
theorem a2d.mono : ∀ a0 a1 k,LeO (a2d.f k a0 a1) (a2d.f (k + 1) a0 a1) := by
 intro a0 a1 k
 have a := a2d.a1t k
 unfold a2d.f
 with_reducible (repeat' first | apply a | apply LeO.refl | apply LeO.none | apply LeO.ite | refine LeO.bind ?_ (fun _ => ?_))
set_option maxHeartbeats 8000000 in
set_option maxRecDepth 100000 in
theorem a2d.calls (k : Nat) (A0 : Option Addr) (c0 : Nat) (l0 : List (S51)) (A1 : Option Addr) (c1 : Nat) (l1 : List (S42)) (r : Bool) (w : World) (T : Kd.C k51 w A0 l0.length l0) (U : l0.length ≤ c0) (W : Kd.C k42 w A1 l1.length l1) (X : l1.length ≤ c1) (h : a2d.f k l0 l1 = some r) :
  Calls Try.prog 43 #[.slice A0 l0.length c0, .slice A1 l1.length c1] w fun e w' => e = .returned (.bool r) ∧ a3v w w' := by
 have a0 := am_ T
 have a8 := am_ U
 clear T U
 have a1 := am_ W
 have a9 := am_ X
 clear W X
 have H : (if (l1.length : Int) = (l0.length : Int) then (a2d.l0 k l0 l1 0) else (some false)) = some r := h
 clear h
 by_cases c3 : (l1.length : Int) = (l0.length : Int)
 rotate_left
 ·rw [if_neg c3] at H
  have E : ((l1.length : Int) == (l0.length : Int)) = false := beq_eq_false_iff_ne.mpr c3
  have G : ((l1.length : Int) != (l0.length : Int)) = true := bne_iff_ne.mpr c3
  have I : (l1.length == l0.length) = false := by first | simpa using c3 | (simp at c3 ⊢;omega)
  obtain rfl := si_ H
  go_enter Try.func43,Try.ntmps43
  go_wp2
  repeat (go_quiet (fail);try go_wp2)
  go_ret
  exact ⟨qs_,qy_⟩
 rw [if_pos c3] at H
 have E : ((l1.length : Int) == (l0.length : Int)) = true := beq_iff_eq.mpr c3
 have G : ((l1.length : Int) != (l0.length : Int)) = false := bne_eq_false_iff_eq.mpr c3
 have I : (l1.length == l0.length) = true := by first | simpa using c3 | (simp at c3 ⊢;omega)
 clear c3
 have H' := am_ H
 clear H
 go_enter Try.func43,Try.ntmps43
 go_wp2
 repeat (go_quiet (fail);try go_wp2)
 go_loopg [5] k (fun kq v5 w' => ∃ (a : Int),v5 = .int .i64 a ∧ Aside0 (a2d.l0 kq l0 l1 a = some r) ∧ Aside0 (kq ≤ k) ∧ a3v w w')
 case atStart => exact ⟨(0),qs_,H',⟨Nat.le_refl _⟩,qy_⟩
 case round =>
 clear H'
 try clear c1
 try clear E
 try clear G
 try clear I
 obtain ⟨a,rfl,HA,a2,⟨m1,rfl⟩⟩ := hrel
 cases gk with
 | zero => exact absurd HA.out (by simp [a2d.l0])
 | succ k1 =>
 have H := HA.out
 clear HA
 simp only [a2d.l0] at H
 by_cases c4 : a < (l1.length : Int)
 rotate_left
 ·rw [if_neg c4] at H
  have a3 : decide (a < (l1.length : Int)) = false := decide_eq_false c4
  clear c4
  obtain rfl := si_ H
  go_wp2
  repeat (go_quiet (fail);try go_wp2)
  go_ret
  exact ⟨qs_,qy_⟩
 rw [if_pos c4] at H
 have a3 : decide (a < (l1.length : Int)) = true := decide_eq_true c4
 clear c4
 obtain ⟨a6,H⟩ := qid_ H
 obtain ⟨a7,H⟩ := qid_ H
 by_cases c7 : ((a0b l1 a).f0) = ((a0a l0 a).f0)
 rotate_left
 ·rw [if_neg c7] at H
  have a4 : (((a0b l1 a).f0) == ((a0a l0 a).f0)) = false := beq_eq_false_iff_ne.mpr c7
  have a5 : (((a0b l1 a).f0) != ((a0a l0 a).f0)) = true := bne_iff_ne.mpr c7
  obtain rfl := si_ H
  have i : 0 ≤ (a : Int) := ot_
  have j : a < (l1.length : Int) := ot_
  obtain ⟨O,n,p,q,s⟩ := a3o a1.out a i j
  cases n
  replace i := eq_true i
  replace j := eq_true j
  have l : 0 ≤ (a : Int) := ot_
  have m : a < (l0.length : Int) := ot_
  obtain ⟨P,J,K,L,M,o,t,u,v,x,y,b,c,d,g⟩ := a4i a0.out a l m
  cases o
  have z := am_ c
  have A := am_ b
  clear c b
  have B := am_ g
  have D := am_ d
  clear g d
  replace l := eq_true l
  replace m := eq_true m
  go_wp2
  repeat (go_quiet (fail);try go_wp2)
  go_ret
  exact ⟨qs_,qy_⟩
 rw [if_pos c7] at H
 have a4 : (((a0b l1 a).f0) == ((a0a l0 a).f0)) = true := beq_iff_eq.mpr c7
 have a5 : (((a0b l1 a).f0) != ((a0a l0 a).f0)) = false := bne_eq_false_iff_eq.mpr c7
 clear c7
 have H' := am_ H
 clear H
 have i : 0 ≤ (a : Int) := ot_
 have j : a < (l1.length : Int) := ot_
 obtain ⟨O,n,p,q,s⟩ := a3o a1.out a i j
 cases n
 replace i := eq_true i
 replace j := eq_true j
 have l : 0 ≤ (a : Int) := ot_
 have m : a < (l0.length : Int) := ot_
 obtain ⟨P,J,K,L,M,o,t,u,v,x,y,b,c,d,g⟩ := a4i a0.out a l m
 cases o
 have z := am_ c
 have A := am_ b
 clear c b
 have B := am_ g
 have D := am_ d
 clear g d
 replace l := eq_true l
 replace m := eq_true m
 go_wp2
 repeat (go_quiet (fail);try go_wp2)
 go_roundg k1
 case measure => have := a2.out;omega
 case rel => exact ⟨(wrap64 (a + 1)),qs_,H',⟨by have := a2.out;omega⟩,qy_⟩
end Go.Proofs.Ytheibjkjmkanoaa.Px
