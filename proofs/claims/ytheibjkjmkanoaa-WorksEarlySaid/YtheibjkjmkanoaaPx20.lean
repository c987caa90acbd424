/- Contracts of Go functions, printed. Conditions: as each theorem states. -/
import Derived.Test.YtheibjkjmkanoaaPx0
import Derived.Test.YtheibjkjmkanoaaPx15
import Derived.Test.YtheibjkjmkanoaaPx3
import Derived.Test.YtheibjkjmkanoaaPx11
import Derived.Test.YtheibjkjmkanoaaPx14
import Derived.Test.YtheibjkjmkanoaaPx16
import Derived.Test.YtheibjkjmkanoaaPx19
namespace Go.Proofs.Ytheibjkjmkanoaa.Px
open Go.Proofs.Ytheibjkjmkanoaa.Given
open Go.RowKit Go.Proofs.YtheibjkjmkanoaaW.PrintWords Go.Proofs.YtheibjkjmkanoaaW.PrintLast Go.Proofs.YtheibjkjmkanoaaW.PrintMore
attribute [local go_sem] a3m a3n a3x a3y a3e a3f a3o a3p
set_option linter.unusedVariables false
set_option linter.unusedSimpArgs false
attribute [local go_sem high] c2k c2l
theorem qnl_ {X : Prop} {α : Type} {d : Kd α} {e base : Nat} {ok : Nat → Prop} {W w1 : World} {v u : Value} {xs : List α} (H : Aside0 X) (ho : ∀ k,u.ownBlock = some k → W.heap.size ≤ k) (hb : Below W.heap.size W w1) (h : X → Kd.N d e W base ok v xs := by intro hh;(with_reducible repeat (first | apply Kd.N_alloc | apply Kd.N_drewN | apply Kd.N_drew));exact hh) : Aside0 (Kd.N d e w1 base (fun k => ok k ∧ some k ≠ u.ownBlock) v xs) := ⟨Kd.b8t (h H.out) ho hb⟩
theorem qnw_ {X : Prop} {α : Type} {d : Kd α} {e base : Nat} {ok : Nat → Prop} {w w1 : World} {v : Value} {xs : List α} (H : Aside0 X) (hb : Below w.heap.size w w1) (h : X → Kd.N d e w base ok v xs := by intro hh;(with_reducible repeat (first | apply Kd.N_alloc | apply Kd.N_drewN | apply Kd.N_drew));exact hh) : Aside0 (Kd.N d e w1 base ok v xs) := ⟨Kd.b5l (h H.out) hb⟩
def a1j.l0 : Nat → List (S42) → List (S42) → Int → Option (Bool)
 | 0,_,_,_ => none
 | k + 1,x0,x1,x5 => if x5 < (x0.length : Int) then (if 0 ≤ x5 then (if x5 < (x1.length : Int) then (if (!(((a0b x0 x5).f0) == ((a0b x1 x5).f0)) || (!(((a0b x0 x5).f1) == ((a0b x1 x5).f1)) || (!(((a0b x0 x5).f2) == ((a0b x1 x5).f2))))) = true then (some false) else (a1j.l0 k x0 x1 (wrap64 (x5 + 1)))) else (none)) else (none)) else (some true)
def a1j.f (k : Nat) (l0 l1 : List (S42)) : Option (Bool) := if (l0.length : Int) = (l1.length : Int) then (a1j.l0 k l0 l1 0) else (some false)
theorem a1j.a1h : ∀ k,(∀ y0 y1 y2,LeO (a1j.l0 k y0 y1 y2) (a1j.l0 (k + 1) y0 y1 y2))
 | 0 => fun _ _ _ r h => by simp [a1j.l0] at h
 | k + 1 => by
  have a := a1j.a1h k
  intro y0 y1 y2
  unfold a1j.l0
  with_reducible (repeat' first | apply a | apply LeO.refl | apply LeO.none | apply LeO.ite | refine LeO.bind ?_ (fun _ => ?_))
theorem a1j.mono : ∀ a0 a1 k,LeO (a1j.f k a0 a1) (a1j.f (k + 1) a0 a1) := by
 intro a0 a1 k
 have a := a1j.a1h k
 unfold a1j.f
 with_reducible (repeat' first | apply a | apply LeO.refl | apply LeO.none | apply LeO.ite | refine LeO.bind ?_ (fun _ => ?_))
set_option maxHeartbeats 8000000 in
set_option maxRecDepth 100000 in
theorem a1j.calls (k : Nat) (A0 : Option Addr) (c0 : Nat) (l0 : List (S42)) (A1 : Option Addr) (c1 : Nat) (l1 : List (S42)) (r : Bool) (w : World) (y : Kd.C k42 w A0 l0.length l0) (z : l0.length ≤ c0) (A : Kd.C k42 w A1 l1.length l1) (B : l1.length ≤ c1) (h : a1j.f k l0 l1 = some r) :
  Calls Try.prog 16 #[.slice A0 l0.length c0, .slice A1 l1.length c1] w fun e w' => e = .returned (.bool r) ∧ a3u w w' := by
 have L := Try.underlying42
 have D := am_ y
 have P := am_ z
 clear y z
 have E := am_ A
 have T := am_ B
 clear A B
 have H : (if (l0.length : Int) = (l1.length : Int) then (a1j.l0 k l0 l1 0) else (some false)) = some r := h
 clear h
 by_cases c3 : (l0.length : Int) = (l1.length : Int)
 rotate_left
 ·rw [if_neg c3] at H
  have s : ((l0.length : Int) == (l1.length : Int)) = false := beq_eq_false_iff_ne.mpr c3
  have t : ((l0.length : Int) != (l1.length : Int)) = true := bne_iff_ne.mpr c3
  have u : (l0.length == l1.length) = false := by first | simpa using c3 | (simp at c3 ⊢;omega)
  obtain rfl := si_ H
  go_enter Try.func16,Try.ntmps16
  go_wp2
  repeat (go_quiet (fail);try go_wp2)
  go_ret
  exact ⟨qs_,qy_⟩
 rw [if_pos c3] at H
 have s : ((l0.length : Int) == (l1.length : Int)) = true := beq_iff_eq.mpr c3
 have t : ((l0.length : Int) != (l1.length : Int)) = false := bne_eq_false_iff_eq.mpr c3
 have u : (l0.length == l1.length) = true := by first | simpa using c3 | (simp at c3 ⊢;omega)
 clear c3
 have H' := am_ H
 clear H
 go_enter Try.func16,Try.ntmps16
 go_wp2
 repeat (go_quiet (fail);try go_wp2)
 go_loopg [5] k (fun kq v5 w' => ∃ (a : Int),v5 = .int .i64 a ∧ Aside0 (a1j.l0 kq l0 l1 a = some r) ∧ Aside0 (kq ≤ k) ∧ a3u w w')
 case atStart => exact ⟨(0),qs_,H',⟨Nat.le_refl _⟩,qy_⟩
 case round =>
 clear H'
 try clear c1
 try clear s
 try clear t
 try clear u
 obtain ⟨a,rfl,HA,G,⟨m1,rfl⟩⟩ := hrel
 cases gk with
 | zero => exact absurd HA.out (by simp [a1j.l0])
 | succ k1 =>
 have H := HA.out
 clear HA
 simp only [a1j.l0] at H
 by_cases c4 : a < (l0.length : Int)
 rotate_left
 ·rw [if_neg c4] at H
  have J : decide (a < (l0.length : Int)) = false := decide_eq_false c4
  clear c4
  obtain rfl := si_ H
  go_wp2
  repeat (go_quiet (fail);try go_wp2)
  go_ret
  exact ⟨qs_,qy_⟩
 rw [if_pos c4] at H
 have J : decide (a < (l0.length : Int)) = true := decide_eq_true c4
 clear c4
 obtain ⟨M,H⟩ := qid_ H
 obtain ⟨O,H⟩ := qid_ H
 by_cases c7 : (!(((a0b l0 a).f0) == ((a0b l1 a).f0)) || (!(((a0b l0 a).f1) == ((a0b l1 a).f1)) || (!(((a0b l0 a).f2) == ((a0b l1 a).f2))))) = true
 ·rw [if_pos c7] at H
  have K : (!(((a0b l0 a).f0) == ((a0b l1 a).f0)) || (!(((a0b l0 a).f1) == ((a0b l1 a).f1)) || (!(((a0b l0 a).f2) == ((a0b l1 a).f2))))) = true := c7
  clear c7
  obtain rfl := si_ H
  have b : 0 ≤ (a : Int) := ot_
  have c : a < (l0.length : Int) := ot_
  obtain ⟨v,i,l,m,n⟩ := a4h D.out a b c
  cases i
  replace b := eq_true b
  replace c := eq_true c
  have d : 0 ≤ (a : Int) := ot_
  have g : a < (l1.length : Int) := ot_
  obtain ⟨x,j,o,p,q⟩ := a4h E.out a d g
  cases j
  replace d := eq_true d
  replace g := eq_true g
  go_wp2
  repeat (go_quiet (fail);try go_wp2)
  go_ret
  exact ⟨qs_,qy_⟩
 rw [if_neg c7] at H
 have K : (!(((a0b l0 a).f0) == ((a0b l1 a).f0)) || (!(((a0b l0 a).f1) == ((a0b l1 a).f1)) || (!(((a0b l0 a).f2) == ((a0b l1 a).f2))))) = false := by simpa using c7
 clear c7
 have H' := am_ H
 clear H
 have b : 0 ≤ (a : Int) := ot_
 have c : a < (l0.length : Int) := ot_
 obtain ⟨v,i,l,m,n⟩ := a4h D.out a b c
 cases i
 replace b := eq_true b
 replace c := eq_true c
 have d : 0 ≤ (a : Int) := ot_
 have g : a < (l1.length : Int) := ot_
 obtain ⟨x,j,o,p,q⟩ := a4h E.out a d g
 cases j
 replace d := eq_true d
 replace g := eq_true g
 go_wp2
 repeat (go_quiet (fail);try go_wp2)
 go_roundg k1
 case measure => have := G.out;omega
 case rel => exact ⟨(wrap64 (a + 1)),qs_,H',⟨by have := G.out;omega⟩,qy_⟩
def a1s.l0 : Nat → List (S56) → List (S56) → Int → Option (Bool)
 | 0,_,_,_ => none
 | k + 1,x0,x1,x5 => if x5 < (x0.length : Int) then (if 0 ≤ x5 then (if x5 < (x1.length : Int) then (if (!(((a0h x0 x5).f0) == ((a0h x1 x5).f0)) || (!(((a0h x0 x5).f1) == ((a0h x1 x5).f1)))) = true then (some false) else (a1s.l0 k x0 x1 (wrap64 (x5 + 1)))) else (none)) else (none)) else (some true)
def a1s.f (k : Nat) (l0 l1 : List (S56)) : Option (Bool) := if (l0.length : Int) = (l1.length : Int) then (a1s.l0 k l0 l1 0) else (some false)
theorem a1s.a1h : ∀ k,(∀ y0 y1 y2,LeO (a1s.l0 k y0 y1 y2) (a1s.l0 (k + 1) y0 y1 y2))
 | 0 => fun _ _ _ r h => by simp [a1s.l0] at h
 | k + 1 => by
  have a := a1s.a1h k
  intro y0 y1 y2
  unfold a1s.l0
  with_reducible (repeat' first | apply a | apply LeO.refl | apply LeO.none | apply LeO.ite | refine LeO.bind ?_ (fun _ => ?_))
theorem a1s.mono : ∀ a0 a1 k,LeO (a1s.f k a0 a1) (a1s.f (k + 1) a0 a1) := by
 intro a0 a1 k
 have a := a1s.a1h k
 unfold a1s.f
 with_reducible (repeat' first | apply a | apply LeO.refl | apply LeO.none | apply LeO.ite | refine LeO.bind ?_ (fun _ => ?_))
set_option maxHeartbeats 8000000 in
set_option maxRecDepth 100000 in
theorem a1s.calls (k : Nat) (A0 : Option Addr) (c0 : Nat) (l0 : List (S56)) (A1 : Option Addr) (c1 : Nat) (l1 : List (S56)) (r : Bool) (w : World) (v : Kd.C k56 w A0 l0.length l0) (x : l0.length ≤ c0) (y : Kd.C k56 w A1 l1.length l1) (z : l1.length ≤ c1) (h : a1s.f k l0 l1 = some r) :
  Calls Try.prog 23 #[.slice A0 l0.length c0, .slice A1 l1.length c1] w fun e w' => e = .returned (.bool r) ∧ a3u w w' := by
 have J := Try.underlying56
 have A := am_ v
 have M := am_ x
 clear v x
 have B := am_ y
 have O := am_ z
 clear y z
 have H : (if (l0.length : Int) = (l1.length : Int) then (a1s.l0 k l0 l1 0) else (some false)) = some r := h
 clear h
 by_cases c3 : (l0.length : Int) = (l1.length : Int)
 rotate_left
 ·rw [if_neg c3] at H
  have p : ((l0.length : Int) == (l1.length : Int)) = false := beq_eq_false_iff_ne.mpr c3
  have q : ((l0.length : Int) != (l1.length : Int)) = true := bne_iff_ne.mpr c3
  have s : (l0.length == l1.length) = false := by first | simpa using c3 | (simp at c3 ⊢;omega)
  obtain rfl := si_ H
  go_enter Try.func23,Try.ntmps23
  go_wp2
  repeat (go_quiet (fail);try go_wp2)
  go_ret
  exact ⟨qs_,qy_⟩
 rw [if_pos c3] at H
 have p : ((l0.length : Int) == (l1.length : Int)) = true := beq_iff_eq.mpr c3
 have q : ((l0.length : Int) != (l1.length : Int)) = false := bne_eq_false_iff_eq.mpr c3
 have s : (l0.length == l1.length) = true := by first | simpa using c3 | (simp at c3 ⊢;omega)
 clear c3
 have H' := am_ H
 clear H
 go_enter Try.func23,Try.ntmps23
 go_wp2
 repeat (go_quiet (fail);try go_wp2)
 go_loopg [5] k (fun kq v5 w' => ∃ (a : Int),v5 = .int .i64 a ∧ Aside0 (a1s.l0 kq l0 l1 a = some r) ∧ Aside0 (kq ≤ k) ∧ a3u w w')
 case atStart => exact ⟨(0),qs_,H',⟨Nat.le_refl _⟩,qy_⟩
 case round =>
 clear H'
 try clear c1
 try clear p
 try clear q
 try clear s
 obtain ⟨a,rfl,HA,D,⟨m1,rfl⟩⟩ := hrel
 cases gk with
 | zero => exact absurd HA.out (by simp [a1s.l0])
 | succ k1 =>
 have H := HA.out
 clear HA
 simp only [a1s.l0] at H
 by_cases c4 : a < (l0.length : Int)
 rotate_left
 ·rw [if_neg c4] at H
  have E : decide (a < (l0.length : Int)) = false := decide_eq_false c4
  clear c4
  obtain rfl := si_ H
  go_wp2
  repeat (go_quiet (fail);try go_wp2)
  go_ret
  exact ⟨qs_,qy_⟩
 rw [if_pos c4] at H
 have E : decide (a < (l0.length : Int)) = true := decide_eq_true c4
 clear c4
 obtain ⟨K,H⟩ := qid_ H
 obtain ⟨L,H⟩ := qid_ H
 by_cases c7 : (!(((a0h l0 a).f0) == ((a0h l1 a).f0)) || (!(((a0h l0 a).f1) == ((a0h l1 a).f1)))) = true
 ·rw [if_pos c7] at H
  have G : (!(((a0h l0 a).f0) == ((a0h l1 a).f0)) || (!(((a0h l0 a).f1) == ((a0h l1 a).f1)))) = true := c7
  clear c7
  obtain rfl := si_ H
  have b : 0 ≤ (a : Int) := ot_
  have c : a < (l0.length : Int) := ot_
  obtain ⟨t,i,l,m⟩ := a5k A.out a b c
  cases i
  replace b := eq_true b
  replace c := eq_true c
  have d : 0 ≤ (a : Int) := ot_
  have g : a < (l1.length : Int) := ot_
  obtain ⟨u,j,n,o⟩ := a5k B.out a d g
  cases j
  replace d := eq_true d
  replace g := eq_true g
  go_wp2
  repeat (go_quiet (fail);try go_wp2)
  go_ret
  exact ⟨qs_,qy_⟩
 rw [if_neg c7] at H
 have G : (!(((a0h l0 a).f0) == ((a0h l1 a).f0)) || (!(((a0h l0 a).f1) == ((a0h l1 a).f1)))) = false := by simpa using c7
 clear c7
 have H' := am_ H
 clear H
 have b : 0 ≤ (a : Int) := ot_
 have c : a < (l0.length : Int) := ot_
 obtain ⟨t,i,l,m⟩ := a5k A.out a b c
 cases i
 replace b := eq_true b
 replace c := eq_true c
 have d : 0 ≤ (a : Int) := ot_
 have g : a < (l1.length : Int) := ot_
 obtain ⟨u,j,n,o⟩ := a5k B.out a d g
 cases j
 replace d := eq_true d
 replace g := eq_true g
 go_wp2
 repeat (go_quiet (fail);try go_wp2)
 go_roundg k1
 case measure => have := D.out;omega
 case rel => exact ⟨(wrap64 (a + 1)),qs_,H',⟨by have := D.out;omega⟩,qy_⟩
def a0f.j0 : Nat → List (S42) → List (S42) → List (S56) → Bool → Option (Bool)
 | 0,_,_,_,_ => none
 | k + 1,x1,x3,x5,d => if d = true then ((a1j.f k x1 (([(⟨1,1,4⟩ : S42),(⟨2,8,12⟩ : S42)] : List (S42)))).bind fun a => (if a = true then ((a1j.f k x3 (([(⟨1,2,5⟩ : S42),(⟨2,8,12⟩ : S42)] : List (S42)))).bind fun b => (if b = true then ((a1s.f k x5 (([(⟨1,4⟩ : S56)] : List (S56)))).bind fun c => (some c)) else (some false))) else (some false))) else (some false)
def a0f.f (k : Nat)  : Option (Bool) := (a0y.f).bind fun e => ((a1c.f).bind fun g => ((a2m.f k e g 1).bind fun a => ((a0y.f).bind fun h => ((a1c.f).bind fun i => ((a1e.f k h i (([(⟨1,1,4⟩ : S42),(⟨2,8,12⟩ : S42)] : List (S42))) 2 (([1] : List Int))).bind fun b => ((a0y.f).bind fun j => ((a1y.f k j (([(⟨1,1,4⟩ : S42),(⟨2,8,12⟩ : S42)] : List (S42))) 2).bind fun c => ((a0y.f).bind fun l => ((a1c.f).bind fun m => ((a2m.f k l m 15).bind fun d => ((a0y.f).bind fun n => ((a1c.f).bind fun o => ((a0j.f k n o (([(⟨1,8,11⟩ : S42),(⟨2,10,14⟩ : S42)] : List (S42)))).bind fun p => (if a.2 = 0 then (if b.2 = 0 then (if c.2 = 0 then (if d.2 = 20 then (if p = 21 then ((a0y.f).bind fun q => ((a1c.f).bind fun r => ((a3z.f k q r).bind fun s => (a0f.j0 k a.1 b.1 c.1 s)))) else (a0f.j0 k a.1 b.1 c.1 false)) else (a0f.j0 k a.1 b.1 c.1 false)) else (a0f.j0 k a.1 b.1 c.1 false)) else (a0f.j0 k a.1 b.1 c.1 false)) else (a0f.j0 k a.1 b.1 c.1 false)))))))))))))))
theorem a0f.a1h : ∀ k,(∀ y0 y1 y2 y3,LeO (a0f.j0 k y0 y1 y2 y3) (a0f.j0 (k + 1) y0 y1 y2 y3))
 | 0 => fun _ _ _ _ r h => by simp [a0f.j0] at h
 | k + 1 => by
  have a := a0f.a1h k
  intro y0 y1 y2 y3
  unfold a0f.j0
  with_reducible (repeat' first | apply a | apply a1s.mono | apply a1j.mono | apply a1e.mono | apply a0j.mono | apply a2m.mono | apply a1y.mono | apply a3z.mono | apply LeO.refl | apply LeO.none | apply LeO.ite | refine LeO.bind ?_ (fun _ => ?_))
theorem a0f.mono : ∀ k,LeO (a0f.f k ) (a0f.f (k + 1) ) := by
 intro  k
 have a := a0f.a1h k
 unfold a0f.f
 with_reducible (repeat' first | apply a | apply a1s.mono | apply a1j.mono | apply a1e.mono | apply a0j.mono | apply a2m.mono | apply a1y.mono | apply a3z.mono | apply LeO.refl | apply LeO.none | apply LeO.ite | refine LeO.bind ?_ (fun _ => ?_))
set_option maxHeartbeats 8000000 in
set_option maxRecDepth 100000 in
theorem a0f.calls (k : Nat)  (r : Bool) (w : World) (h : a0f.f k  = some r) :
  Calls Try.prog 10 #[] w fun e w' => e = .returned (.bool r) ∧ Below w.heap.size w w' := by
 have cQ := Try.underlying42
 have cR := Try.underlying56
 have HB := am_ (Below.refl w.heap.size w)
 have H : ((a0y.f).bind fun a3 => ((a1c.f).bind fun a4 => ((a2m.f k a3 a4 1).bind fun ak => ((a0y.f).bind fun a1 => ((a1c.f).bind fun a2 => ((a1e.f k a1 a2 (([(⟨1,1,4⟩ : S42),(⟨2,8,12⟩ : S42)] : List (S42))) 2 (([1] : List Int))).bind fun t => ((a0y.f).bind fun L => ((a1y.f k L (([(⟨1,1,4⟩ : S42),(⟨2,8,12⟩ : S42)] : List (S42))) 2).bind fun g => ((a0y.f).bind fun J => ((a1c.f).bind fun K => ((a2m.f k J K 15).bind fun Z => ((a0y.f).bind fun E => ((a1c.f).bind fun G => ((a0j.f k E G (([(⟨1,8,11⟩ : S42),(⟨2,10,14⟩ : S42)] : List (S42)))).bind fun z => (if ak.2 = 0 then (if t.2 = 0 then (if g.2 = 0 then (if Z.2 = 20 then (if z = 21 then ((a0y.f).bind fun O => ((a1c.f).bind fun P => ((a3z.f k O P).bind fun T => (a0f.j0 k ak.1 t.1 g.1 T)))) else (a0f.j0 k ak.1 t.1 g.1 false)) else (a0f.j0 k ak.1 t.1 g.1 false)) else (a0f.j0 k ak.1 t.1 g.1 false)) else (a0f.j0 k ak.1 t.1 g.1 false)) else (a0f.j0 k ak.1 t.1 g.1 false)))))))))))))))) = some r := h
 clear h
 replace H := bm_ H
 obtain ⟨a3,bl,H⟩ := H
 have A1 := am_ bl
 clear bl
 replace H := bm_ H
 obtain ⟨a4,bS,H⟩ := H
 have A2 := am_ bS
 clear bS
 replace H := bm_ H
 obtain ⟨⟨l,a5⟩,bT,H⟩ := H
 replace H : ((a0y.f).bind fun a1 => ((a1c.f).bind fun a2 => ((a1e.f k a1 a2 (([(⟨1,1,4⟩ : S42),(⟨2,8,12⟩ : S42)] : List (S42))) 2 (([1] : List Int))).bind fun t => ((a0y.f).bind fun L => ((a1y.f k L (([(⟨1,1,4⟩ : S42),(⟨2,8,12⟩ : S42)] : List (S42))) 2).bind fun g => ((a0y.f).bind fun J => ((a1c.f).bind fun K => ((a2m.f k J K 15).bind fun Z => ((a0y.f).bind fun E => ((a1c.f).bind fun G => ((a0j.f k E G (([(⟨1,8,11⟩ : S42),(⟨2,10,14⟩ : S42)] : List (S42)))).bind fun z => (if a5 = 0 then (if t.2 = 0 then (if g.2 = 0 then (if Z.2 = 20 then (if z = 21 then ((a0y.f).bind fun O => ((a1c.f).bind fun P => ((a3z.f k O P).bind fun T => (a0f.j0 k l t.1 g.1 T)))) else (a0f.j0 k l t.1 g.1 false)) else (a0f.j0 k l t.1 g.1 false)) else (a0f.j0 k l t.1 g.1 false)) else (a0f.j0 k l t.1 g.1 false)) else (a0f.j0 k l t.1 g.1 false))))))))))))) = some r := H
 have A3 := am_ bT
 clear bT
 replace H := bm_ H
 obtain ⟨a1,bU,H⟩ := H
 have A4 := am_ bU
 clear bU
 replace H := bm_ H
 obtain ⟨a2,bV,H⟩ := H
 have A5 := am_ bV
 clear bV
 obtain ⟨aa,aN⟩ : ∃ y_ : List (S42),y_ = (([(⟨1,1,4⟩ : S42),(⟨2,8,12⟩ : S42)] : List (S42))) := ⟨_,rfl⟩
 replace H : ((a1e.f k a1 a2 aa 2 (([1] : List Int))).bind fun t => ((a0y.f).bind fun L => ((a1y.f k L (([(⟨1,1,4⟩ : S42),(⟨2,8,12⟩ : S42)] : List (S42))) 2).bind fun g => ((a0y.f).bind fun J => ((a1c.f).bind fun K => ((a2m.f k J K 15).bind fun Z => ((a0y.f).bind fun E => ((a1c.f).bind fun G => ((a0j.f k E G (([(⟨1,8,11⟩ : S42),(⟨2,10,14⟩ : S42)] : List (S42)))).bind fun z => (if a5 = 0 then (if t.2 = 0 then (if g.2 = 0 then (if Z.2 = 20 then (if z = 21 then ((a0y.f).bind fun O => ((a1c.f).bind fun P => ((a3z.f k O P).bind fun T => (a0f.j0 k l t.1 g.1 T)))) else (a0f.j0 k l t.1 g.1 false)) else (a0f.j0 k l t.1 g.1 false)) else (a0f.j0 k l t.1 g.1 false)) else (a0f.j0 k l t.1 g.1 false)) else (a0f.j0 k l t.1 g.1 false))))))))))) = some r := by first | (rw [aN];with_reducible exact H) | (have W := (Option.bind_some _ _).symm.trans H;rw [aN];with_reducible exact W) | (have W := (Option.bind_some _ _).symm.trans H;with_reducible exact W) | with_reducible exact H | (rw [aN];exact H) | exact H
 have bm := am_ aN
 clear aN
 obtain ⟨ae,aO⟩ : ∃ y_ : List Int,y_ = (([1] : List Int)) := ⟨_,rfl⟩
 replace H : ((a1e.f k a1 a2 aa 2 ae).bind fun t => ((a0y.f).bind fun L => ((a1y.f k L (([(⟨1,1,4⟩ : S42),(⟨2,8,12⟩ : S42)] : List (S42))) 2).bind fun g => ((a0y.f).bind fun J => ((a1c.f).bind fun K => ((a2m.f k J K 15).bind fun Z => ((a0y.f).bind fun E => ((a1c.f).bind fun G => ((a0j.f k E G (([(⟨1,8,11⟩ : S42),(⟨2,10,14⟩ : S42)] : List (S42)))).bind fun z => (if a5 = 0 then (if t.2 = 0 then (if g.2 = 0 then (if Z.2 = 20 then (if z = 21 then ((a0y.f).bind fun O => ((a1c.f).bind fun P => ((a3z.f k O P).bind fun T => (a0f.j0 k l t.1 g.1 T)))) else (a0f.j0 k l t.1 g.1 false)) else (a0f.j0 k l t.1 g.1 false)) else (a0f.j0 k l t.1 g.1 false)) else (a0f.j0 k l t.1 g.1 false)) else (a0f.j0 k l t.1 g.1 false))))))))))) = some r := by first | (rw [aO];with_reducible exact H) | (have W := (Option.bind_some _ _).symm.trans H;rw [aO];with_reducible exact W) | (have W := (Option.bind_some _ _).symm.trans H;with_reducible exact W) | with_reducible exact H | (rw [aO];exact H) | exact H
 have bn := am_ aO
 clear aO
 replace H := bm_ H
 obtain ⟨⟨u,ab⟩,bW,H⟩ := H
 replace H : ((a0y.f).bind fun L => ((a1y.f k L (([(⟨1,1,4⟩ : S42),(⟨2,8,12⟩ : S42)] : List (S42))) 2).bind fun g => ((a0y.f).bind fun J => ((a1c.f).bind fun K => ((a2m.f k J K 15).bind fun Z => ((a0y.f).bind fun E => ((a1c.f).bind fun G => ((a0j.f k E G (([(⟨1,8,11⟩ : S42),(⟨2,10,14⟩ : S42)] : List (S42)))).bind fun z => (if a5 = 0 then (if ab = 0 then (if g.2 = 0 then (if Z.2 = 20 then (if z = 21 then ((a0y.f).bind fun O => ((a1c.f).bind fun P => ((a3z.f k O P).bind fun T => (a0f.j0 k l u g.1 T)))) else (a0f.j0 k l u g.1 false)) else (a0f.j0 k l u g.1 false)) else (a0f.j0 k l u g.1 false)) else (a0f.j0 k l u g.1 false)) else (a0f.j0 k l u g.1 false)))))))))) = some r := H
 have A6 := am_ bW
 clear bW
 replace H := bm_ H
 obtain ⟨L,bX,H⟩ := H
 have A7 := am_ bX
 clear bX
 obtain ⟨al,aP⟩ : ∃ y_ : List (S42),y_ = (([(⟨1,1,4⟩ : S42),(⟨2,8,12⟩ : S42)] : List (S42))) := ⟨_,rfl⟩
 replace H : ((a1y.f k L al 2).bind fun g => ((a0y.f).bind fun J => ((a1c.f).bind fun K => ((a2m.f k J K 15).bind fun Z => ((a0y.f).bind fun E => ((a1c.f).bind fun G => ((a0j.f k E G (([(⟨1,8,11⟩ : S42),(⟨2,10,14⟩ : S42)] : List (S42)))).bind fun z => (if a5 = 0 then (if ab = 0 then (if g.2 = 0 then (if Z.2 = 20 then (if z = 21 then ((a0y.f).bind fun O => ((a1c.f).bind fun P => ((a3z.f k O P).bind fun T => (a0f.j0 k l u g.1 T)))) else (a0f.j0 k l u g.1 false)) else (a0f.j0 k l u g.1 false)) else (a0f.j0 k l u g.1 false)) else (a0f.j0 k l u g.1 false)) else (a0f.j0 k l u g.1 false))))))))) = some r := by first | (rw [aP];with_reducible exact H) | (have W := (Option.bind_some _ _).symm.trans H;rw [aP];with_reducible exact W) | (have W := (Option.bind_some _ _).symm.trans H;with_reducible exact W) | with_reducible exact H | (rw [aP];exact H) | exact H
 have bo := am_ aP
 clear aP
 replace H := bm_ H
 obtain ⟨⟨y,am⟩,bY,H⟩ := H
 replace H : ((a0y.f).bind fun J => ((a1c.f).bind fun K => ((a2m.f k J K 15).bind fun Z => ((a0y.f).bind fun E => ((a1c.f).bind fun G => ((a0j.f k E G (([(⟨1,8,11⟩ : S42),(⟨2,10,14⟩ : S42)] : List (S42)))).bind fun z => (if a5 = 0 then (if ab = 0 then (if am = 0 then (if Z.2 = 20 then (if z = 21 then ((a0y.f).bind fun O => ((a1c.f).bind fun P => ((a3z.f k O P).bind fun T => (a0f.j0 k l u y T)))) else (a0f.j0 k l u y false)) else (a0f.j0 k l u y false)) else (a0f.j0 k l u y false)) else (a0f.j0 k l u y false)) else (a0f.j0 k l u y false)))))))) = some r := H
 have A8 := am_ bY
 clear bY
 replace H := bm_ H
 obtain ⟨J,bZ,H⟩ := H
 have A9 := am_ bZ
 clear bZ
 replace H := bm_ H
 obtain ⟨K,bE,H⟩ := H
 have bl := am_ bE
 clear bE
 replace H := bm_ H
 obtain ⟨⟨c1,ap⟩,bF,H⟩ := H
 replace H : ((a0y.f).bind fun E => ((a1c.f).bind fun G => ((a0j.f k E G (([(⟨1,8,11⟩ : S42),(⟨2,10,14⟩ : S42)] : List (S42)))).bind fun z => (if a5 = 0 then (if ab = 0 then (if am = 0 then (if ap = 20 then (if z = 21 then ((a0y.f).bind fun O => ((a1c.f).bind fun P => ((a3z.f k O P).bind fun T => (a0f.j0 k l u y T)))) else (a0f.j0 k l u y false)) else (a0f.j0 k l u y false)) else (a0f.j0 k l u y false)) else (a0f.j0 k l u y false)) else (a0f.j0 k l u y false))))) = some r := H
 have cH := am_ bF
 clear bF
 replace H := bm_ H
 obtain ⟨E,bG,H⟩ := H
 have cI := am_ bG
 clear bG
 replace H := bm_ H
 obtain ⟨G,bH,H⟩ := H
 have cJ := am_ bH
 clear bH
 obtain ⟨aY,aQ⟩ : ∃ y_ : List (S42),y_ = (([(⟨1,8,11⟩ : S42),(⟨2,10,14⟩ : S42)] : List (S42))) := ⟨_,rfl⟩
 replace H : ((a0j.f k E G aY).bind fun z => (if a5 = 0 then (if ab = 0 then (if am = 0 then (if ap = 20 then (if z = 21 then ((a0y.f).bind fun O => ((a1c.f).bind fun P => ((a3z.f k O P).bind fun T => (a0f.j0 k l u y T)))) else (a0f.j0 k l u y false)) else (a0f.j0 k l u y false)) else (a0f.j0 k l u y false)) else (a0f.j0 k l u y false)) else (a0f.j0 k l u y false))) = some r := by first | (rw [aQ];with_reducible exact H) | (have W := (Option.bind_some _ _).symm.trans H;rw [aQ];with_reducible exact W) | (have W := (Option.bind_some _ _).symm.trans H;with_reducible exact W) | with_reducible exact H | (rw [aQ];exact H) | exact H
 have bp := am_ aQ
 clear aQ
 replace H := bm_ H
 obtain ⟨z,bI,H⟩ := H
 have cK := am_ bI
 clear bI
 have bc := am_ H
 clear H
 go_enter Try.func10,Try.ntmps10
 go_upto_region 6 with (first | ((with_reducible refine a0r (f := 28) rfl ?_);refine a2a (some 12) rfl rfl Try.func28 (by kernel_rfl) rfl #[] rfl ql_ ?_;(with_reducible refine (a0y.calls  a3 _ A1.out).mono ?_);rintro e dx ⟨ca,rfl,a,hb⟩;refine ⟨_,rfl,?_⟩;have c := am_ (Kd.a6f (Kd.a6t (ok' := fun k_ => True) a (fun k_ hk_ => trivial)) (a0z qb_));replace HB := qbs_ hb;(try clear hb);(try clear a8);(try clear hk);(try clear hi);(try clear a)) | ((with_reducible refine a0r (f := 29) rfl ?_);refine a2a (some 13) rfl rfl Try.func29 (by kernel_rfl) rfl #[] rfl ql_ ?_;(with_reducible refine (a1c.calls  a4 _ A2.out).mono ?_);rintro e dy ⟨cS,rfl,a,hb⟩;refine ⟨_,rfl,?_⟩;have d := am_ (Kd.a6f (Kd.a6t (ok' := fun k_ => some k_ ≠ (ca : Value).ownBlock) a (fun k_ hk_ => (Kd.fresh' (Kd.N_lt (by (with_reducible repeat (first | apply Kd.N_alloc | apply Kd.N_drewN | apply Kd.N_drew));exact c.out)) k_ hk_))) (a0z qb_));replace c := qnl_ c (Kd.a3d a) hb;replace HB := qbs_ hb;(try clear hb);(try clear a8);(try clear hk);(try clear hi);(try clear a);obtain ⟨af,ag,cb⟩ := Kd.a6n c.out;subst cb;obtain ⟨ah,ai,cc⟩ := Kd.a6n d.out;subst cc) | ((with_reducible refine a0r (f := 12) rfl ?_);refine a2a (some 14) rfl rfl Try.func12 (by kernel_rfl) rfl #[.slice af a3.length ag, .slice ah a4.length ai, .int .i64 1] rfl ql_ ?_;(with_reducible refine (a2m.calls k _ _ a3 _ _ a4 1 l a5 _ ?s1 ?s2 ?s3 ?s4 A3.out).mono ?_);(case s1 => repeat (first | exact (Kd.a4r c.out).2.2 | (with_reducible refine Kd.a1t ?_ _) | (with_reducible refine Kd.a1u ?_ _) | (with_reducible refine Kd.a2h ?_)));(case s2 => exact (Kd.a4r c.out).2.1);(case s3 => repeat (first | exact (Kd.a4r d.out).2.2 | (with_reducible refine Kd.a1t ?_ _) | (with_reducible refine Kd.a1u ?_ _) | (with_reducible refine Kd.a2h ?_)));(case s4 => exact (Kd.a4r d.out).2.1);rintro e dz ⟨ac,rfl,a,hb⟩;refine ⟨_,rfl,?_⟩;replace c := qnl_ c (Kd.a3j a) hb;replace d := qnl_ d (Kd.a3j a) hb;have b := am_ (Kd.a4b a (a0z qb_));replace HB := qbs_ hb;(try clear hb);(try clear a8);(try clear hk);(try clear hi);(try clear a)) | ((with_reducible refine a0r (f := 28) rfl ?_);refine a2a (some 18) rfl rfl Try.func28 (by kernel_rfl) rfl #[] rfl ql_ ?_;(with_reducible refine (a0y.calls  a1 _ A4.out).mono ?_);rintro e dA ⟨cd,rfl,a,hb⟩;refine ⟨_,rfl,?_⟩;have i := am_ (Kd.a6f (Kd.a6t (ok' := fun k_ => some k_ ≠ (.slice af a3.length ag : Value).ownBlock ∧ some k_ ≠ (.slice ah a4.length ai : Value).ownBlock ∧ some k_ ≠ (ac : Value).ownBlock) a (fun k_ hk_ => ⟨(Kd.fresh' (Kd.N_lt (by (with_reducible repeat (first | apply Kd.N_alloc | apply Kd.N_drewN | apply Kd.N_drew));exact c.out)) k_ hk_),(Kd.fresh' (Kd.N_lt (by (with_reducible repeat (first | apply Kd.N_alloc | apply Kd.N_drewN | apply Kd.N_drew));exact d.out)) k_ hk_),(Kd.fresh' (Kd.R_lt (qr_ b)) k_ hk_)⟩)) (a0z qb_));replace c := qnl_ c (Kd.a3d a) hb;replace d := qnl_ d (Kd.a3d a) hb;replace b := qrb_ b hb;replace HB := qbs_ hb;(try clear hb);(try clear a8);(try clear hk);(try clear hi);(try clear a)) | ((with_reducible refine a0r (f := 29) rfl ?_);refine a2a (some 19) rfl rfl Try.func29 (by kernel_rfl) rfl #[] rfl ql_ ?_;(with_reducible refine (a1c.calls  a2 _ A5.out).mono ?_);rintro e dB ⟨cT,rfl,a,hb⟩;refine ⟨_,rfl,?_⟩;have m := am_ (Kd.a6f (Kd.a6t (ok' := fun k_ => some k_ ≠ (.slice af a3.length ag : Value).ownBlock ∧ some k_ ≠ (.slice ah a4.length ai : Value).ownBlock ∧ some k_ ≠ (ac : Value).ownBlock ∧ some k_ ≠ (cd : Value).ownBlock) a (fun k_ hk_ => ⟨(Kd.fresh' (Kd.N_lt (by (with_reducible repeat (first | apply Kd.N_alloc | apply Kd.N_drewN | apply Kd.N_drew));exact c.out)) k_ hk_),(Kd.fresh' (Kd.N_lt (by (with_reducible repeat (first | apply Kd.N_alloc | apply Kd.N_drewN | apply Kd.N_drew));exact d.out)) k_ hk_),(Kd.fresh' (Kd.R_lt (qr_ b)) k_ hk_),(Kd.fresh' (Kd.N_lt (by (with_reducible repeat (first | apply Kd.N_alloc | apply Kd.N_drewN | apply Kd.N_drew));exact i.out)) k_ hk_)⟩)) (a0z qb_));replace c := qnl_ c (Kd.a3d a) hb;replace d := qnl_ d (Kd.a3d a) hb;replace b := qrb_ b hb;replace i := qnl_ i (Kd.a3d a) hb;replace HB := qbs_ hb;(try clear hb);(try clear a8);(try clear hk);(try clear hi);(try clear a)) | ((with_reducible refine a0t (N := 22) rfl ?_);(try (refine a3r (by rfl) ?_;dsimp only));refine Kd.a5q k42 _ 42 ?hg (N := 22) ?hd (xs := ([(⟨1,1,4⟩ : S42),(⟨2,8,12⟩ : S42)] : List (S42))) (inner := [.int .i64 1, .int .i64 1, .int .i64 4, .int .i64 2, .int .i64 8, .int .i64 12]) (ok := fun _ => True) (okp := fun _ => True) ?hr ?hp (fun _ hk => hk) trivial (Below.refl _ _) (Nat.le_refl _) (by simp) ?_;(case hd => rfl);(case hg => rfl);(case hr => exact qq_);(case hp => exact (Reps.c3 (show Kd.M k42 _ _ _ (⟨1,1,4⟩ : S42) [.int .i64 1, .int .i64 1, .int .i64 4] from (a4p _ _ _ (⟨1,1,4⟩ : S42) )) (Reps.c3 (show Kd.M k42 _ _ _ (⟨2,8,12⟩ : S42) [.int .i64 2, .int .i64 8, .int .i64 12] from (a4p _ _ _ (⟨2,8,12⟩ : S42) )) (Reps.none _ _))));intro cU dC aj hb hg_ hnew_;clear hg_ hnew_;(first | rw [← bm.out] at aj | (simp only [Int.reduceToNat] at aj;rw [← bm.out] at aj));replace c := qnl_ c (Kd.a3j aj) hb;replace d := qnl_ d (Kd.a3j aj) hb;replace i := qnl_ i (Kd.a3j aj) hb;replace m := qnl_ m (Kd.a3j aj) hb;have j := am_ (Kd.a4b (Kd.a4d aj (Kd.R_lt (qr_ b))) (a0z qb_));replace b := qel_ b aj hb;replace HB := qbs_ hb;clear hb aj) | ((with_reducible refine a0t (N := 23) rfl ?_);(try (refine a3r (by rfl) ?_;dsimp only));refine Kd.a5q (Kd.int .i64) _ 3 ?hg (N := 23) ?hd (xs := ([1] : List Int)) (inner := [.int .i64 1]) (ok := fun _ => True) (okp := fun _ => True) ?hr ?hp (fun _ hk => hk) trivial (Below.refl _ _) (Nat.le_refl _) (by simp) ?_;(case hd => rfl);(case hg => rfl);(case hr => exact qq_);(case hp => exact (Reps.one (show Kd.M (Kd.int .i64) _ _ _ 1 [.int .i64 1] from rfl) (Reps.none _ _)));intro cV dD an hb hg_ hnew_;clear hg_ hnew_;(first | rw [← bn.out] at an | (simp only [Int.reduceToNat] at an;rw [← bn.out] at an));replace c := qnl_ c (Kd.a3j an) hb;replace d := qnl_ d (Kd.a3j an) hb;replace b := qrb_ b hb;replace i := qnl_ i (Kd.a3j an) hb;replace m := qnl_ m (Kd.a3j an) hb;replace j := qrb_ j hb;have o := am_ (Kd.a4b an (a0z qb_));replace HB := qbs_ hb;clear hb an;obtain ⟨aq,ar,ce⟩ := Kd.a6n i.out;subst ce;obtain ⟨au,av,cf⟩ := Kd.a6n m.out;subst cf;obtain ⟨aw,ax,cg⟩ := Kd.a3c j.out;subst cg;obtain ⟨ay,az,ch⟩ := Kd.a3c o.out;subst ch) | ((with_reducible refine a0r (f := 19) rfl ?_);refine a2a (some 24) rfl rfl Try.func19 (by kernel_rfl) rfl #[.slice aq a1.length ar, .slice au a2.length av, .slice aw aa.length ax, .int .i64 2, .slice ay ae.length az] rfl ql_ ?_;(with_reducible refine (a1e.calls k _ _ a1 _ _ a2 _ _ aa 2 _ _ ae u ab _ ?s1 ?s2 ?s3 ?s4 ?s5 ?s6 ?s7 ?s8 A6.out).mono ?_);(case s1 => repeat (first | exact (Kd.a4r i.out).2.2 | (with_reducible refine Kd.a1t ?_ _) | (with_reducible refine Kd.a1u ?_ _) | (with_reducible refine Kd.a2h ?_)));(case s2 => exact (Kd.a4r i.out).2.1);(case s3 => repeat (first | exact (Kd.a4r m.out).2.2 | (with_reducible refine Kd.a1t ?_ _) | (with_reducible refine Kd.a1u ?_ _) | (with_reducible refine Kd.a2h ?_)));(case s4 => exact (Kd.a4r m.out).2.1);(case s5 => exact qv_ (Kd.a0s j.out).2.2);(case s6 => exact (Kd.a0s j.out).2.1);(case s7 => exact qv_ (Kd.a0s o.out).2.2);(case s8 => exact (Kd.a0s o.out).2.1);rintro e dE ⟨ao,rfl,a,hb⟩;refine ⟨_,rfl,?_⟩;replace c := qnl_ c (Kd.a3j a) hb;replace d := qnl_ d (Kd.a3j a) hb;replace i := qnl_ i (Kd.a3j a) hb;replace m := qnl_ m (Kd.a3j a) hb;replace o := qrb_ o hb;have n := am_ (Kd.a4b (Kd.a4d (Kd.a4d a (Kd.R_lt (qr_ b))) (Kd.R_lt (qr_ j))) (a0z qb_));replace b := qel_ b a hb;replace j := qel_ j a hb;replace HB := qbs_ hb;(try clear hb);(try clear a8);(try clear hk);(try clear hi);(try clear a)) | ((with_reducible refine a0r (f := 28) rfl ?_);refine a2a (some 28) rfl rfl Try.func28 (by kernel_rfl) rfl #[] rfl ql_ ?_;(with_reducible refine (a0y.calls  L _ A7.out).mono ?_);rintro e dF ⟨cW,rfl,a,hb⟩;refine ⟨_,rfl,?_⟩;have p := am_ (Kd.a6f (Kd.a6t (ok' := fun k_ => some k_ ≠ (.slice af a3.length ag : Value).ownBlock ∧ some k_ ≠ (.slice ah a4.length ai : Value).ownBlock ∧ some k_ ≠ (ac : Value).ownBlock ∧ some k_ ≠ (.slice aq a1.length ar : Value).ownBlock ∧ some k_ ≠ (.slice au a2.length av : Value).ownBlock ∧ some k_ ≠ (.slice aw aa.length ax : Value).ownBlock ∧ some k_ ≠ (.slice ay ae.length az : Value).ownBlock ∧ some k_ ≠ (ao : Value).ownBlock) a (fun k_ hk_ => ⟨(Kd.fresh' (Kd.N_lt (by (with_reducible repeat (first | apply Kd.N_alloc | apply Kd.N_drewN | apply Kd.N_drew));exact c.out)) k_ hk_),(Kd.fresh' (Kd.N_lt (by (with_reducible repeat (first | apply Kd.N_alloc | apply Kd.N_drewN | apply Kd.N_drew));exact d.out)) k_ hk_),(Kd.fresh' (Kd.R_lt (qr_ b)) k_ hk_),(Kd.fresh' (Kd.N_lt (by (with_reducible repeat (first | apply Kd.N_alloc | apply Kd.N_drewN | apply Kd.N_drew));exact i.out)) k_ hk_),(Kd.fresh' (Kd.N_lt (by (with_reducible repeat (first | apply Kd.N_alloc | apply Kd.N_drewN | apply Kd.N_drew));exact m.out)) k_ hk_),(Kd.fresh' (Kd.R_lt (qr_ j)) k_ hk_),(Kd.fresh' (Kd.R_lt (qr_ o)) k_ hk_),(Kd.fresh' (Kd.R_lt (qr_ n)) k_ hk_)⟩)) (a0z qb_));replace c := qnl_ c (Kd.a3d a) hb;replace d := qnl_ d (Kd.a3d a) hb;replace b := qrb_ b hb;replace i := qnl_ i (Kd.a3d a) hb;replace m := qnl_ m (Kd.a3d a) hb;replace j := qrb_ j hb;replace o := qrb_ o hb;replace n := qrb_ n hb;replace HB := qbs_ hb;(try clear hb);(try clear a8);(try clear hk);(try clear hi);(try clear a)) | ((with_reducible refine a0t (N := 31) rfl ?_);(try (refine a3r (by rfl) ?_;dsimp only));refine Kd.a5q k42 _ 42 ?hg (N := 31) ?hd (xs := ([(⟨1,1,4⟩ : S42),(⟨2,8,12⟩ : S42)] : List (S42))) (inner := [.int .i64 1, .int .i64 1, .int .i64 4, .int .i64 2, .int .i64 8, .int .i64 12]) (ok := fun _ => True) (okp := fun _ => True) ?hr ?hp (fun _ hk => hk) trivial (Below.refl _ _) (Nat.le_refl _) (by simp) ?_;(case hd => rfl);(case hg => rfl);(case hr => exact qq_);(case hp => exact (Reps.c3 (show Kd.M k42 _ _ _ (⟨1,1,4⟩ : S42) [.int .i64 1, .int .i64 1, .int .i64 4] from (a4p _ _ _ (⟨1,1,4⟩ : S42) )) (Reps.c3 (show Kd.M k42 _ _ _ (⟨2,8,12⟩ : S42) [.int .i64 2, .int .i64 8, .int .i64 12] from (a4p _ _ _ (⟨2,8,12⟩ : S42) )) (Reps.none _ _))));intro cX dG a6 hb hg_ hnew_;clear hg_ hnew_;(first | rw [← bo.out] at a6 | (simp only [Int.reduceToNat] at a6;rw [← bo.out] at a6));replace c := qnl_ c (Kd.a3j a6) hb;replace d := qnl_ d (Kd.a3j a6) hb;replace i := qnl_ i (Kd.a3j a6) hb;replace m := qnl_ m (Kd.a3j a6) hb;replace o := qrb_ o hb;replace p := qnl_ p (Kd.a3j a6) hb;have q := am_ (Kd.a4b (Kd.a4d (Kd.a4d (Kd.a4d a6 (Kd.R_lt (qr_ b))) (Kd.R_lt (qr_ j))) (Kd.R_lt (qr_ n))) (a0z qb_));replace b := qel_ b a6 hb;replace j := qel_ j a6 hb;replace n := qel_ n a6 hb;replace HB := qbs_ hb;clear hb a6;obtain ⟨aE,aF,ci⟩ := Kd.a6n p.out;subst ci;obtain ⟨aG,aH,cj⟩ := Kd.a3c q.out;subst cj) | ((with_reducible refine a0r (f := 21) rfl ?_);refine a2a (some 32) rfl rfl Try.func21 (by kernel_rfl) rfl #[.slice aE L.length aF, .slice aG al.length aH, .int .i64 2] rfl ql_ ?_;(with_reducible refine (a1y.calls k _ _ L _ _ al 2 y am _ ?s1 ?s2 ?s3 ?s4 A8.out).mono ?_);(case s1 => repeat (first | exact (Kd.a4r p.out).2.2 | (with_reducible refine Kd.a1t ?_ _) | (with_reducible refine Kd.a1u ?_ _) | (with_reducible refine Kd.a2h ?_)));(case s2 => exact (Kd.a4r p.out).2.1);(case s3 => exact qv_ (Kd.a0s q.out).2.2);(case s4 => exact (Kd.a0s q.out).2.1);rintro e dH ⟨aI,rfl,a,hb⟩;refine ⟨_,rfl,?_⟩;replace c := qnl_ c (Kd.a3j a) hb;replace d := qnl_ d (Kd.a3j a) hb;replace b := qrb_ b hb;replace i := qnl_ i (Kd.a3j a) hb;replace m := qnl_ m (Kd.a3j a) hb;replace j := qrb_ j hb;replace o := qrb_ o hb;replace n := qrb_ n hb;replace p := qnl_ p (Kd.a3j a) hb;replace q := qrb_ q hb;have s := am_ (Kd.a4b a (a0z qb_));replace HB := qbs_ hb;(try clear hb);(try clear a8);(try clear hk);(try clear hi);(try clear a)) | ((with_reducible refine a0r (f := 28) rfl ?_);refine a2a (some 36) rfl rfl Try.func28 (by kernel_rfl) rfl #[] rfl ql_ ?_;(with_reducible refine (a0y.calls  J _ A9.out).mono ?_);rintro e dI ⟨ck,rfl,a,hb⟩;refine ⟨_,rfl,?_⟩;have v := am_ (Kd.a6f (Kd.a6t (ok' := fun k_ => some k_ ≠ (.slice af a3.length ag : Value).ownBlock ∧ some k_ ≠ (.slice ah a4.length ai : Value).ownBlock ∧ some k_ ≠ (ac : Value).ownBlock ∧ some k_ ≠ (.slice aq a1.length ar : Value).ownBlock ∧ some k_ ≠ (.slice au a2.length av : Value).ownBlock ∧ some k_ ≠ (.slice aw aa.length ax : Value).ownBlock ∧ some k_ ≠ (.slice ay ae.length az : Value).ownBlock ∧ some k_ ≠ (ao : Value).ownBlock ∧ some k_ ≠ (.slice aE L.length aF : Value).ownBlock ∧ some k_ ≠ (.slice aG al.length aH : Value).ownBlock ∧ some k_ ≠ (aI : Value).ownBlock) a (fun k_ hk_ => ⟨(Kd.fresh' (Kd.N_lt (by (with_reducible repeat (first | apply Kd.N_alloc | apply Kd.N_drewN | apply Kd.N_drew));exact c.out)) k_ hk_),(Kd.fresh' (Kd.N_lt (by (with_reducible repeat (first | apply Kd.N_alloc | apply Kd.N_drewN | apply Kd.N_drew));exact d.out)) k_ hk_),(Kd.fresh' (Kd.R_lt (qr_ b)) k_ hk_),(Kd.fresh' (Kd.N_lt (by (with_reducible repeat (first | apply Kd.N_alloc | apply Kd.N_drewN | apply Kd.N_drew));exact i.out)) k_ hk_),(Kd.fresh' (Kd.N_lt (by (with_reducible repeat (first | apply Kd.N_alloc | apply Kd.N_drewN | apply Kd.N_drew));exact m.out)) k_ hk_),(Kd.fresh' (Kd.R_lt (qr_ j)) k_ hk_),(Kd.fresh' (Kd.R_lt (qr_ o)) k_ hk_),(Kd.fresh' (Kd.R_lt (qr_ n)) k_ hk_),(Kd.fresh' (Kd.N_lt (by (with_reducible repeat (first | apply Kd.N_alloc | apply Kd.N_drewN | apply Kd.N_drew));exact p.out)) k_ hk_),(Kd.fresh' (Kd.R_lt (qr_ q)) k_ hk_),(Kd.fresh' (Kd.R_lt (qr_ s)) k_ hk_)⟩)) (a0z qb_));replace c := qnl_ c (Kd.a3d a) hb;replace d := qnl_ d (Kd.a3d a) hb;replace b := qrb_ b hb;replace i := qnl_ i (Kd.a3d a) hb;replace m := qnl_ m (Kd.a3d a) hb;replace j := qrb_ j hb;replace o := qrb_ o hb;replace n := qrb_ n hb;replace p := qnl_ p (Kd.a3d a) hb;replace q := qrb_ q hb;replace s := qrb_ s hb;replace HB := qbs_ hb;(try clear hb);(try clear a8);(try clear hk);(try clear hi);(try clear a)) | ((with_reducible refine a0r (f := 29) rfl ?_);refine a2a (some 37) rfl rfl Try.func29 (by kernel_rfl) rfl #[] rfl ql_ ?_;(with_reducible refine (a1c.calls  K _ bl.out).mono ?_);rintro e dJ ⟨cY,rfl,a,hb⟩;refine ⟨_,rfl,?_⟩;have x := am_ (Kd.a6f (Kd.a6t (ok' := fun k_ => some k_ ≠ (.slice af a3.length ag : Value).ownBlock ∧ some k_ ≠ (.slice ah a4.length ai : Value).ownBlock ∧ some k_ ≠ (ac : Value).ownBlock ∧ some k_ ≠ (.slice aq a1.length ar : Value).ownBlock ∧ some k_ ≠ (.slice au a2.length av : Value).ownBlock ∧ some k_ ≠ (.slice aw aa.length ax : Value).ownBlock ∧ some k_ ≠ (.slice ay ae.length az : Value).ownBlock ∧ some k_ ≠ (ao : Value).ownBlock ∧ some k_ ≠ (.slice aE L.length aF : Value).ownBlock ∧ some k_ ≠ (.slice aG al.length aH : Value).ownBlock ∧ some k_ ≠ (aI : Value).ownBlock ∧ some k_ ≠ (ck : Value).ownBlock) a (fun k_ hk_ => ⟨(Kd.fresh' (Kd.N_lt (by (with_reducible repeat (first | apply Kd.N_alloc | apply Kd.N_drewN | apply Kd.N_drew));exact c.out)) k_ hk_),(Kd.fresh' (Kd.N_lt (by (with_reducible repeat (first | apply Kd.N_alloc | apply Kd.N_drewN | apply Kd.N_drew));exact d.out)) k_ hk_),(Kd.fresh' (Kd.R_lt (qr_ b)) k_ hk_),(Kd.fresh' (Kd.N_lt (by (with_reducible repeat (first | apply Kd.N_alloc | apply Kd.N_drewN | apply Kd.N_drew));exact i.out)) k_ hk_),(Kd.fresh' (Kd.N_lt (by (with_reducible repeat (first | apply Kd.N_alloc | apply Kd.N_drewN | apply Kd.N_drew));exact m.out)) k_ hk_),(Kd.fresh' (Kd.R_lt (qr_ j)) k_ hk_),(Kd.fresh' (Kd.R_lt (qr_ o)) k_ hk_),(Kd.fresh' (Kd.R_lt (qr_ n)) k_ hk_),(Kd.fresh' (Kd.N_lt (by (with_reducible repeat (first | apply Kd.N_alloc | apply Kd.N_drewN | apply Kd.N_drew));exact p.out)) k_ hk_),(Kd.fresh' (Kd.R_lt (qr_ q)) k_ hk_),(Kd.fresh' (Kd.R_lt (qr_ s)) k_ hk_),(Kd.fresh' (Kd.N_lt (by (with_reducible repeat (first | apply Kd.N_alloc | apply Kd.N_drewN | apply Kd.N_drew));exact v.out)) k_ hk_)⟩)) (a0z qb_));replace c := qnl_ c (Kd.a3d a) hb;replace d := qnl_ d (Kd.a3d a) hb;replace b := qrb_ b hb;replace i := qnl_ i (Kd.a3d a) hb;replace m := qnl_ m (Kd.a3d a) hb;replace j := qrb_ j hb;replace o := qrb_ o hb;replace n := qrb_ n hb;replace p := qnl_ p (Kd.a3d a) hb;replace q := qrb_ q hb;replace s := qrb_ s hb;replace v := qnl_ v (Kd.a3d a) hb;replace HB := qbs_ hb;(try clear hb);(try clear a8);(try clear hk);(try clear hi);(try clear a);obtain ⟨aZ,b0,cl⟩ := Kd.a6n v.out;subst cl;obtain ⟨b1,b2,cm⟩ := Kd.a6n x.out;subst cm) | ((with_reducible refine a0r (f := 12) rfl ?_);refine a2a (some 38) rfl rfl Try.func12 (by kernel_rfl) rfl #[.slice aZ J.length b0, .slice b1 K.length b2, .int .i64 15] rfl ql_ ?_;(with_reducible refine (a2m.calls k _ _ J _ _ K 15 c1 ap _ ?s1 ?s2 ?s3 ?s4 cH.out).mono ?_);(case s1 => repeat (first | exact (Kd.a4r v.out).2.2 | (with_reducible refine Kd.a1t ?_ _) | (with_reducible refine Kd.a1u ?_ _) | (with_reducible refine Kd.a2h ?_)));(case s2 => exact (Kd.a4r v.out).2.1);(case s3 => repeat (first | exact (Kd.a4r x.out).2.2 | (with_reducible refine Kd.a1t ?_ _) | (with_reducible refine Kd.a1u ?_ _) | (with_reducible refine Kd.a2h ?_)));(case s4 => exact (Kd.a4r x.out).2.1);rintro e dK ⟨b9,rfl,a,hb⟩;refine ⟨_,rfl,?_⟩;replace c := qnl_ c (Kd.a3j a) hb;replace d := qnl_ d (Kd.a3j a) hb;replace i := qnl_ i (Kd.a3j a) hb;replace m := qnl_ m (Kd.a3j a) hb;replace o := qrb_ o hb;replace p := qnl_ p (Kd.a3j a) hb;replace s := qrb_ s hb;replace v := qnl_ v (Kd.a3j a) hb;replace x := qnl_ x (Kd.a3j a) hb;have A := am_ (Kd.a4b (Kd.a4d (Kd.a4d (Kd.a4d (Kd.a4d a (Kd.R_lt (qr_ b))) (Kd.R_lt (qr_ j))) (Kd.R_lt (qr_ n))) (Kd.R_lt (qr_ q))) (a0z qb_));replace b := qel_ b a hb;replace j := qel_ j a hb;replace n := qel_ n a hb;replace q := qel_ q a hb;replace HB := qbs_ hb;(try clear hb);(try clear a8);(try clear hk);(try clear hi);(try clear a)) | ((with_reducible refine a0r (f := 28) rfl ?_);refine a2a (some 41) rfl rfl Try.func28 (by kernel_rfl) rfl #[] rfl ql_ ?_;(with_reducible refine (a0y.calls  E _ cI.out).mono ?_);rintro e dL ⟨cn,rfl,a,hb⟩;refine ⟨_,rfl,?_⟩;have D := am_ (Kd.a6f (Kd.a6t (ok' := fun k_ => some k_ ≠ (.slice af a3.length ag : Value).ownBlock ∧ some k_ ≠ (.slice ah a4.length ai : Value).ownBlock ∧ some k_ ≠ (ac : Value).ownBlock ∧ some k_ ≠ (.slice aq a1.length ar : Value).ownBlock ∧ some k_ ≠ (.slice au a2.length av : Value).ownBlock ∧ some k_ ≠ (.slice aw aa.length ax : Value).ownBlock ∧ some k_ ≠ (.slice ay ae.length az : Value).ownBlock ∧ some k_ ≠ (ao : Value).ownBlock ∧ some k_ ≠ (.slice aE L.length aF : Value).ownBlock ∧ some k_ ≠ (.slice aG al.length aH : Value).ownBlock ∧ some k_ ≠ (aI : Value).ownBlock ∧ some k_ ≠ (.slice aZ J.length b0 : Value).ownBlock ∧ some k_ ≠ (.slice b1 K.length b2 : Value).ownBlock ∧ some k_ ≠ (b9 : Value).ownBlock) a (fun k_ hk_ => ⟨(Kd.fresh' (Kd.N_lt (by (with_reducible repeat (first | apply Kd.N_alloc | apply Kd.N_drewN | apply Kd.N_drew));exact c.out)) k_ hk_),(Kd.fresh' (Kd.N_lt (by (with_reducible repeat (first | apply Kd.N_alloc | apply Kd.N_drewN | apply Kd.N_drew));exact d.out)) k_ hk_),(Kd.fresh' (Kd.R_lt (qr_ b)) k_ hk_),(Kd.fresh' (Kd.N_lt (by (with_reducible repeat (first | apply Kd.N_alloc | apply Kd.N_drewN | apply Kd.N_drew));exact i.out)) k_ hk_),(Kd.fresh' (Kd.N_lt (by (with_reducible repeat (first | apply Kd.N_alloc | apply Kd.N_drewN | apply Kd.N_drew));exact m.out)) k_ hk_),(Kd.fresh' (Kd.R_lt (qr_ j)) k_ hk_),(Kd.fresh' (Kd.R_lt (qr_ o)) k_ hk_),(Kd.fresh' (Kd.R_lt (qr_ n)) k_ hk_),(Kd.fresh' (Kd.N_lt (by (with_reducible repeat (first | apply Kd.N_alloc | apply Kd.N_drewN | apply Kd.N_drew));exact p.out)) k_ hk_),(Kd.fresh' (Kd.R_lt (qr_ q)) k_ hk_),(Kd.fresh' (Kd.R_lt (qr_ s)) k_ hk_),(Kd.fresh' (Kd.N_lt (by (with_reducible repeat (first | apply Kd.N_alloc | apply Kd.N_drewN | apply Kd.N_drew));exact v.out)) k_ hk_),(Kd.fresh' (Kd.N_lt (by (with_reducible repeat (first | apply Kd.N_alloc | apply Kd.N_drewN | apply Kd.N_drew));exact x.out)) k_ hk_),(Kd.fresh' (Kd.R_lt (qr_ A)) k_ hk_)⟩)) (a0z qb_));replace c := qnl_ c (Kd.a3d a) hb;replace d := qnl_ d (Kd.a3d a) hb;replace b := qrb_ b hb;replace i := qnl_ i (Kd.a3d a) hb;replace m := qnl_ m (Kd.a3d a) hb;replace j := qrb_ j hb;replace o := qrb_ o hb;replace n := qrb_ n hb;replace p := qnl_ p (Kd.a3d a) hb;replace q := qrb_ q hb;replace s := qrb_ s hb;replace v := qnl_ v (Kd.a3d a) hb;replace x := qnl_ x (Kd.a3d a) hb;replace A := qrb_ A hb;replace HB := qbs_ hb;(try clear hb);(try clear a8);(try clear hk);(try clear hi);(try clear a)) | ((with_reducible refine a0r (f := 29) rfl ?_);refine a2a (some 42) rfl rfl Try.func29 (by kernel_rfl) rfl #[] rfl ql_ ?_;(with_reducible refine (a1c.calls  G _ cJ.out).mono ?_);rintro e dM ⟨cZ,rfl,a,hb⟩;refine ⟨_,rfl,?_⟩;have X := am_ (Kd.a6f (Kd.a6t (ok' := fun k_ => some k_ ≠ (.slice af a3.length ag : Value).ownBlock ∧ some k_ ≠ (.slice ah a4.length ai : Value).ownBlock ∧ some k_ ≠ (ac : Value).ownBlock ∧ some k_ ≠ (.slice aq a1.length ar : Value).ownBlock ∧ some k_ ≠ (.slice au a2.length av : Value).ownBlock ∧ some k_ ≠ (.slice aw aa.length ax : Value).ownBlock ∧ some k_ ≠ (.slice ay ae.length az : Value).ownBlock ∧ some k_ ≠ (ao : Value).ownBlock ∧ some k_ ≠ (.slice aE L.length aF : Value).ownBlock ∧ some k_ ≠ (.slice aG al.length aH : Value).ownBlock ∧ some k_ ≠ (aI : Value).ownBlock ∧ some k_ ≠ (.slice aZ J.length b0 : Value).ownBlock ∧ some k_ ≠ (.slice b1 K.length b2 : Value).ownBlock ∧ some k_ ≠ (b9 : Value).ownBlock ∧ some k_ ≠ (cn : Value).ownBlock) a (fun k_ hk_ => ⟨(Kd.fresh' (Kd.N_lt (by (with_reducible repeat (first | apply Kd.N_alloc | apply Kd.N_drewN | apply Kd.N_drew));exact c.out)) k_ hk_),(Kd.fresh' (Kd.N_lt (by (with_reducible repeat (first | apply Kd.N_alloc | apply Kd.N_drewN | apply Kd.N_drew));exact d.out)) k_ hk_),(Kd.fresh' (Kd.R_lt (qr_ b)) k_ hk_),(Kd.fresh' (Kd.N_lt (by (with_reducible repeat (first | apply Kd.N_alloc | apply Kd.N_drewN | apply Kd.N_drew));exact i.out)) k_ hk_),(Kd.fresh' (Kd.N_lt (by (with_reducible repeat (first | apply Kd.N_alloc | apply Kd.N_drewN | apply Kd.N_drew));exact m.out)) k_ hk_),(Kd.fresh' (Kd.R_lt (qr_ j)) k_ hk_),(Kd.fresh' (Kd.R_lt (qr_ o)) k_ hk_),(Kd.fresh' (Kd.R_lt (qr_ n)) k_ hk_),(Kd.fresh' (Kd.N_lt (by (with_reducible repeat (first | apply Kd.N_alloc | apply Kd.N_drewN | apply Kd.N_drew));exact p.out)) k_ hk_),(Kd.fresh' (Kd.R_lt (qr_ q)) k_ hk_),(Kd.fresh' (Kd.R_lt (qr_ s)) k_ hk_),(Kd.fresh' (Kd.N_lt (by (with_reducible repeat (first | apply Kd.N_alloc | apply Kd.N_drewN | apply Kd.N_drew));exact v.out)) k_ hk_),(Kd.fresh' (Kd.N_lt (by (with_reducible repeat (first | apply Kd.N_alloc | apply Kd.N_drewN | apply Kd.N_drew));exact x.out)) k_ hk_),(Kd.fresh' (Kd.R_lt (qr_ A)) k_ hk_),(Kd.fresh' (Kd.N_lt (by (with_reducible repeat (first | apply Kd.N_alloc | apply Kd.N_drewN | apply Kd.N_drew));exact D.out)) k_ hk_)⟩)) (a0z qb_));replace c := qnl_ c (Kd.a3d a) hb;replace d := qnl_ d (Kd.a3d a) hb;replace b := qrb_ b hb;replace i := qnl_ i (Kd.a3d a) hb;replace m := qnl_ m (Kd.a3d a) hb;replace j := qrb_ j hb;replace o := qrb_ o hb;replace n := qrb_ n hb;replace p := qnl_ p (Kd.a3d a) hb;replace q := qrb_ q hb;replace s := qrb_ s hb;replace v := qnl_ v (Kd.a3d a) hb;replace x := qnl_ x (Kd.a3d a) hb;replace A := qrb_ A hb;replace D := qnl_ D (Kd.a3d a) hb;replace HB := qbs_ hb;(try clear hb);(try clear a8);(try clear hk);(try clear hi);(try clear a)) | ((with_reducible refine a0t (N := 45) rfl ?_);(try (refine a3r (by rfl) ?_;dsimp only));refine Kd.a5q k42 _ 42 ?hg (N := 45) ?hd (xs := ([(⟨1,8,11⟩ : S42),(⟨2,10,14⟩ : S42)] : List (S42))) (inner := [.int .i64 1, .int .i64 8, .int .i64 11, .int .i64 2, .int .i64 10, .int .i64 14]) (ok := fun _ => True) (okp := fun _ => True) ?hr ?hp (fun _ hk => hk) trivial (Below.refl _ _) (Nat.le_refl _) (by simp) ?_;(case hd => rfl);(case hg => rfl);(case hr => exact qq_);(case hp => exact (Reps.c3 (show Kd.M k42 _ _ _ (⟨1,8,11⟩ : S42) [.int .i64 1, .int .i64 8, .int .i64 11] from (a4p _ _ _ (⟨1,8,11⟩ : S42) )) (Reps.c3 (show Kd.M k42 _ _ _ (⟨2,10,14⟩ : S42) [.int .i64 2, .int .i64 10, .int .i64 14] from (a4p _ _ _ (⟨2,10,14⟩ : S42) )) (Reps.none _ _))));intro d0 dN Y hb hg_ hnew_;clear hg_ hnew_;(first | rw [← bp.out] at Y | (simp only [Int.reduceToNat] at Y;rw [← bp.out] at Y));replace c := qnl_ c (Kd.a3j Y) hb;replace d := qnl_ d (Kd.a3j Y) hb;replace i := qnl_ i (Kd.a3j Y) hb;replace m := qnl_ m (Kd.a3j Y) hb;replace o := qrb_ o hb;replace p := qnl_ p (Kd.a3j Y) hb;replace s := qrb_ s hb;replace v := qnl_ v (Kd.a3j Y) hb;replace x := qnl_ x (Kd.a3j Y) hb;replace D := qnl_ D (Kd.a3j Y) hb;replace X := qnl_ X (Kd.a3j Y) hb;have a0 := am_ (Kd.a4b (Kd.a4d (Kd.a4d (Kd.a4d (Kd.a4d (Kd.a4d Y (Kd.R_lt (qr_ b))) (Kd.R_lt (qr_ j))) (Kd.R_lt (qr_ n))) (Kd.R_lt (qr_ q))) (Kd.R_lt (qr_ A))) (a0z qb_));replace b := qel_ b Y hb;replace j := qel_ j Y hb;replace n := qel_ n Y hb;replace q := qel_ q Y hb;replace A := qel_ A Y hb;replace HB := qbs_ hb;clear hb Y;obtain ⟨bd,be,co⟩ := Kd.a6n D.out;subst co;obtain ⟨bf,bg,cp⟩ := Kd.a6n X.out;subst cp;obtain ⟨bh,bi,cq⟩ := Kd.a3c a0.out;subst cq) | ((with_reducible refine a0r (f := 17) rfl ?_);refine a2a (some 46) rfl rfl Try.func17 (by kernel_rfl) rfl #[.slice bd E.length be, .slice bf G.length bg, .slice bh aY.length bi] rfl ql_ ?_;(with_reducible refine (a0j.calls k _ _ E _ _ G _ _ aY z _ ?s1 ?s2 ?s3 ?s4 ?s5 ?s6 cK.out).mono ?_);(case s1 => repeat (first | exact (Kd.a4r D.out).2.2 | (with_reducible refine Kd.a1t ?_ _) | (with_reducible refine Kd.a1u ?_ _) | (with_reducible refine Kd.a2h ?_)));(case s2 => exact (Kd.a4r D.out).2.1);(case s3 => repeat (first | exact (Kd.a4r X.out).2.2 | (with_reducible refine Kd.a1t ?_ _) | (with_reducible refine Kd.a1u ?_ _) | (with_reducible refine Kd.a2h ?_)));(case s4 => exact (Kd.a4r X.out).2.1);(case s5 => exact qv_ (Kd.a0s a0.out).2.2);(case s6 => exact (Kd.a0s a0.out).2.1);rintro e dO ⟨rfl,hb⟩;refine ⟨_,rfl,?_⟩;replace c := qnw_ c hb;replace d := qnw_ d hb;replace b := qrb_ b hb;replace i := qnw_ i hb;replace m := qnw_ m hb;replace j := qrb_ j hb;replace o := qrb_ o hb;replace n := qrb_ n hb;replace p := qnw_ p hb;replace q := qrb_ q hb;replace s := qrb_ s hb;replace v := qnw_ v hb;replace x := qnw_ x hb;replace A := qrb_ A hb;replace D := qnw_ D hb;replace X := qnw_ X hb;replace a0 := qrb_ a0 hb;replace HB := qbs_ hb;(try clear hb);(try clear a8);(try clear hk);(try clear hi)))
 (try simp only [Act.put,List.setIfInBounds_toArray,List.set_cons_zero,List.set_cons_succ])
 go_cut [10] (fun cL wc => ∃ (kq : Nat) (aR : Bool),cL = .bool aR ∧ Aside0 (a0f.j0 kq l u y aR = some r) ∧ Aside0 (kq ≤ k) ∧ Aside0 (Kd.R k42 42 wc w.heap.size (fun k_ => some k_ ≠ (ao : Value).ownBlock) ac l) ∧ Aside0 (Kd.R k42 42 wc w.heap.size (fun k_ => some k_ ≠ (ac : Value).ownBlock) ao u) ∧ Aside0 (Kd.R k56 56 wc w.heap.size (fun _ => True) aI y) ∧ Aside0 (Below w.heap.size w wc))
 case first =>
  have H := bc.out
  clear bc
  by_cases b3 : a5 = 0
  rotate_left
  ·rw [if_neg b3] at H
   have aC : (a5 == 0) = false := beq_eq_false_iff_ne.mpr b3
   have bq : (a5 != 0) = true := bne_iff_ne.mpr b3
   (first | rw [aC] | (simp only [a4j,a4v];rw [aC]) | skip)
   have H' := am_ H
   clear H
   go_wp2
   go_meet
   case rel => exact ⟨_,(false),qs_,H',⟨qo_⟩,⟨by (with_reducible repeat (first | apply Kd.a2n | apply Kd.a2o | apply Kd.a2i));exact Kd.a2f b.out (fun _ hk => hk.1.1.1.2)⟩,⟨by (with_reducible repeat (first | apply Kd.a2n | apply Kd.a2o | apply Kd.a2i));exact Kd.a2f n.out (fun _ hk => hk.1.1.1.1.2)⟩,⟨by (with_reducible repeat (first | apply Kd.a2n | apply Kd.a2o | apply Kd.a2i));exact s.out⟩,⟨qb_⟩⟩
  rw [if_pos b3] at H
  have aC : (a5 == 0) = true := beq_iff_eq.mpr b3
  have bq : (a5 != 0) = false := bne_eq_false_iff_eq.mpr b3
  clear b3
  (first | rw [aC] | (simp only [a4j,a4v];rw [aC]) | skip)
  by_cases b4 : ab = 0
  rotate_left
  ·rw [if_neg b4] at H
   have br : (ab == 0) = false := beq_eq_false_iff_ne.mpr b4
   have bs : (ab != 0) = true := bne_iff_ne.mpr b4
   have H' := am_ H
   clear H
   go_wp2
   go_meet
   case rel => exact ⟨_,(false),qs_,H',⟨qo_⟩,⟨by (with_reducible repeat (first | apply Kd.a2n | apply Kd.a2o | apply Kd.a2i));exact Kd.a2f b.out (fun _ hk => hk.1.1.1.2)⟩,⟨by (with_reducible repeat (first | apply Kd.a2n | apply Kd.a2o | apply Kd.a2i));exact Kd.a2f n.out (fun _ hk => hk.1.1.1.1.2)⟩,⟨by (with_reducible repeat (first | apply Kd.a2n | apply Kd.a2o | apply Kd.a2i));exact s.out⟩,⟨qb_⟩⟩
  rw [if_pos b4] at H
  have br : (ab == 0) = true := beq_iff_eq.mpr b4
  have bs : (ab != 0) = false := bne_eq_false_iff_eq.mpr b4
  clear b4
  by_cases b5 : am = 0
  rotate_left
  ·rw [if_neg b5] at H
   have bt : (am == 0) = false := beq_eq_false_iff_ne.mpr b5
   have bu : (am != 0) = true := bne_iff_ne.mpr b5
   have H' := am_ H
   clear H
   go_wp2
   go_meet
   case rel => exact ⟨_,(false),qs_,H',⟨qo_⟩,⟨by (with_reducible repeat (first | apply Kd.a2n | apply Kd.a2o | apply Kd.a2i));exact Kd.a2f b.out (fun _ hk => hk.1.1.1.2)⟩,⟨by (with_reducible repeat (first | apply Kd.a2n | apply Kd.a2o | apply Kd.a2i));exact Kd.a2f n.out (fun _ hk => hk.1.1.1.1.2)⟩,⟨by (with_reducible repeat (first | apply Kd.a2n | apply Kd.a2o | apply Kd.a2i));exact s.out⟩,⟨qb_⟩⟩
  rw [if_pos b5] at H
  have bt : (am == 0) = true := beq_iff_eq.mpr b5
  have bu : (am != 0) = false := bne_eq_false_iff_eq.mpr b5
  clear b5
  by_cases b6 : ap = 20
  rotate_left
  ·rw [if_neg b6] at H
   have bv : (ap == 20) = false := beq_eq_false_iff_ne.mpr b6
   have bw : (ap != 20) = true := bne_iff_ne.mpr b6
   have H' := am_ H
   clear H
   go_wp2
   go_meet
   case rel => exact ⟨_,(false),qs_,H',⟨qo_⟩,⟨by (with_reducible repeat (first | apply Kd.a2n | apply Kd.a2o | apply Kd.a2i));exact Kd.a2f b.out (fun _ hk => hk.1.1.1.2)⟩,⟨by (with_reducible repeat (first | apply Kd.a2n | apply Kd.a2o | apply Kd.a2i));exact Kd.a2f n.out (fun _ hk => hk.1.1.1.1.2)⟩,⟨by (with_reducible repeat (first | apply Kd.a2n | apply Kd.a2o | apply Kd.a2i));exact s.out⟩,⟨qb_⟩⟩
  rw [if_pos b6] at H
  have bv : (ap == 20) = true := beq_iff_eq.mpr b6
  have bw : (ap != 20) = false := bne_eq_false_iff_eq.mpr b6
  clear b6
  by_cases b7 : z = 21
  rotate_left
  ·rw [if_neg b7] at H
   have bx : (z == 21) = false := beq_eq_false_iff_ne.mpr b7
   have bz : (z != 21) = true := bne_iff_ne.mpr b7
   have H' := am_ H
   clear H
   go_wp2
   go_meet
   case rel => exact ⟨_,(false),qs_,H',⟨qo_⟩,⟨by (with_reducible repeat (first | apply Kd.a2n | apply Kd.a2o | apply Kd.a2i));exact Kd.a2f b.out (fun _ hk => hk.1.1.1.2)⟩,⟨by (with_reducible repeat (first | apply Kd.a2n | apply Kd.a2o | apply Kd.a2i));exact Kd.a2f n.out (fun _ hk => hk.1.1.1.1.2)⟩,⟨by (with_reducible repeat (first | apply Kd.a2n | apply Kd.a2o | apply Kd.a2i));exact s.out⟩,⟨qb_⟩⟩
  rw [if_pos b7] at H
  have bx : (z == 21) = true := beq_iff_eq.mpr b7
  have bz : (z != 21) = false := bne_eq_false_iff_eq.mpr b7
  clear b7
  replace H := bm_ H
  obtain ⟨O,bJ,H⟩ := H
  have cM := am_ bJ
  clear bJ
  replace H := bm_ H
  obtain ⟨P,bK,H⟩ := H
  have cN := am_ bK
  clear bK
  replace H := bm_ H
  obtain ⟨T,bL,H⟩ := H
  have cO := am_ bL
  clear bL
  have H' := am_ H
  clear H
  go_wp2_with (first | (go_at_call 28;(with_reducible refine (a0y.calls  O _ cM.out).mono ?_);rintro e dP ⟨cr,rfl,a,hb⟩;have ad := am_ (Kd.a6f (Kd.a6t (ok' := fun k_ => some k_ ≠ (.slice af a3.length ag : Value).ownBlock ∧ some k_ ≠ (.slice ah a4.length ai : Value).ownBlock ∧ some k_ ≠ (ac : Value).ownBlock ∧ some k_ ≠ (.slice aq a1.length ar : Value).ownBlock ∧ some k_ ≠ (.slice au a2.length av : Value).ownBlock ∧ some k_ ≠ (.slice aw aa.length ax : Value).ownBlock ∧ some k_ ≠ (.slice ay ae.length az : Value).ownBlock ∧ some k_ ≠ (ao : Value).ownBlock ∧ some k_ ≠ (.slice aE L.length aF : Value).ownBlock ∧ some k_ ≠ (.slice aG al.length aH : Value).ownBlock ∧ some k_ ≠ (aI : Value).ownBlock ∧ some k_ ≠ (.slice aZ J.length b0 : Value).ownBlock ∧ some k_ ≠ (.slice b1 K.length b2 : Value).ownBlock ∧ some k_ ≠ (b9 : Value).ownBlock ∧ some k_ ≠ (.slice bd E.length be : Value).ownBlock ∧ some k_ ≠ (.slice bf G.length bg : Value).ownBlock ∧ some k_ ≠ (.slice bh aY.length bi : Value).ownBlock) a (fun k_ hk_ => ⟨(Kd.fresh' (Kd.N_lt (by (with_reducible repeat (first | apply Kd.N_alloc | apply Kd.N_drewN | apply Kd.N_drew));exact c.out)) k_ hk_),(Kd.fresh' (Kd.N_lt (by (with_reducible repeat (first | apply Kd.N_alloc | apply Kd.N_drewN | apply Kd.N_drew));exact d.out)) k_ hk_),(Kd.fresh' (Kd.R_lt (qr_ b)) k_ hk_),(Kd.fresh' (Kd.N_lt (by (with_reducible repeat (first | apply Kd.N_alloc | apply Kd.N_drewN | apply Kd.N_drew));exact i.out)) k_ hk_),(Kd.fresh' (Kd.N_lt (by (with_reducible repeat (first | apply Kd.N_alloc | apply Kd.N_drewN | apply Kd.N_drew));exact m.out)) k_ hk_),(Kd.fresh' (Kd.R_lt (qr_ j)) k_ hk_),(Kd.fresh' (Kd.R_lt (qr_ o)) k_ hk_),(Kd.fresh' (Kd.R_lt (qr_ n)) k_ hk_),(Kd.fresh' (Kd.N_lt (by (with_reducible repeat (first | apply Kd.N_alloc | apply Kd.N_drewN | apply Kd.N_drew));exact p.out)) k_ hk_),(Kd.fresh' (Kd.R_lt (qr_ q)) k_ hk_),(Kd.fresh' (Kd.R_lt (qr_ s)) k_ hk_),(Kd.fresh' (Kd.N_lt (by (with_reducible repeat (first | apply Kd.N_alloc | apply Kd.N_drewN | apply Kd.N_drew));exact v.out)) k_ hk_),(Kd.fresh' (Kd.N_lt (by (with_reducible repeat (first | apply Kd.N_alloc | apply Kd.N_drewN | apply Kd.N_drew));exact x.out)) k_ hk_),(Kd.fresh' (Kd.R_lt (qr_ A)) k_ hk_),(Kd.fresh' (Kd.N_lt (by (with_reducible repeat (first | apply Kd.N_alloc | apply Kd.N_drewN | apply Kd.N_drew));exact D.out)) k_ hk_),(Kd.fresh' (Kd.N_lt (by (with_reducible repeat (first | apply Kd.N_alloc | apply Kd.N_drewN | apply Kd.N_drew));exact X.out)) k_ hk_),(Kd.fresh' (Kd.R_lt (qr_ a0)) k_ hk_)⟩)) (a0z qb_));replace c := qnl_ c (Kd.a3d a) hb;replace d := qnl_ d (Kd.a3d a) hb;replace b := qrb_ b hb;replace i := qnl_ i (Kd.a3d a) hb;replace m := qnl_ m (Kd.a3d a) hb;replace j := qrb_ j hb;replace o := qrb_ o hb;replace n := qrb_ n hb;replace p := qnl_ p (Kd.a3d a) hb;replace q := qrb_ q hb;replace s := qrb_ s hb;replace v := qnl_ v (Kd.a3d a) hb;replace x := qnl_ x (Kd.a3d a) hb;replace A := qrb_ A hb;replace D := qnl_ D (Kd.a3d a) hb;replace X := qnl_ X (Kd.a3d a) hb;replace a0 := qrb_ a0 hb;replace HB := qbs_ hb;(try clear hb);(try clear a8);(try clear hk);(try clear hi);(try clear a)) | (go_at_call 29;(with_reducible refine (a1c.calls  P _ cN.out).mono ?_);rintro e dQ ⟨d1,rfl,a,hb⟩;have aS := am_ (Kd.a6f (Kd.a6t (ok' := fun k_ => some k_ ≠ (.slice af a3.length ag : Value).ownBlock ∧ some k_ ≠ (.slice ah a4.length ai : Value).ownBlock ∧ some k_ ≠ (ac : Value).ownBlock ∧ some k_ ≠ (.slice aq a1.length ar : Value).ownBlock ∧ some k_ ≠ (.slice au a2.length av : Value).ownBlock ∧ some k_ ≠ (.slice aw aa.length ax : Value).ownBlock ∧ some k_ ≠ (.slice ay ae.length az : Value).ownBlock ∧ some k_ ≠ (ao : Value).ownBlock ∧ some k_ ≠ (.slice aE L.length aF : Value).ownBlock ∧ some k_ ≠ (.slice aG al.length aH : Value).ownBlock ∧ some k_ ≠ (aI : Value).ownBlock ∧ some k_ ≠ (.slice aZ J.length b0 : Value).ownBlock ∧ some k_ ≠ (.slice b1 K.length b2 : Value).ownBlock ∧ some k_ ≠ (b9 : Value).ownBlock ∧ some k_ ≠ (.slice bd E.length be : Value).ownBlock ∧ some k_ ≠ (.slice bf G.length bg : Value).ownBlock ∧ some k_ ≠ (.slice bh aY.length bi : Value).ownBlock ∧ some k_ ≠ (cr : Value).ownBlock) a (fun k_ hk_ => ⟨(Kd.fresh' (Kd.N_lt (by (with_reducible repeat (first | apply Kd.N_alloc | apply Kd.N_drewN | apply Kd.N_drew));exact c.out)) k_ hk_),(Kd.fresh' (Kd.N_lt (by (with_reducible repeat (first | apply Kd.N_alloc | apply Kd.N_drewN | apply Kd.N_drew));exact d.out)) k_ hk_),(Kd.fresh' (Kd.R_lt (qr_ b)) k_ hk_),(Kd.fresh' (Kd.N_lt (by (with_reducible repeat (first | apply Kd.N_alloc | apply Kd.N_drewN | apply Kd.N_drew));exact i.out)) k_ hk_),(Kd.fresh' (Kd.N_lt (by (with_reducible repeat (first | apply Kd.N_alloc | apply Kd.N_drewN | apply Kd.N_drew));exact m.out)) k_ hk_),(Kd.fresh' (Kd.R_lt (qr_ j)) k_ hk_),(Kd.fresh' (Kd.R_lt (qr_ o)) k_ hk_),(Kd.fresh' (Kd.R_lt (qr_ n)) k_ hk_),(Kd.fresh' (Kd.N_lt (by (with_reducible repeat (first | apply Kd.N_alloc | apply Kd.N_drewN | apply Kd.N_drew));exact p.out)) k_ hk_),(Kd.fresh' (Kd.R_lt (qr_ q)) k_ hk_),(Kd.fresh' (Kd.R_lt (qr_ s)) k_ hk_),(Kd.fresh' (Kd.N_lt (by (with_reducible repeat (first | apply Kd.N_alloc | apply Kd.N_drewN | apply Kd.N_drew));exact v.out)) k_ hk_),(Kd.fresh' (Kd.N_lt (by (with_reducible repeat (first | apply Kd.N_alloc | apply Kd.N_drewN | apply Kd.N_drew));exact x.out)) k_ hk_),(Kd.fresh' (Kd.R_lt (qr_ A)) k_ hk_),(Kd.fresh' (Kd.N_lt (by (with_reducible repeat (first | apply Kd.N_alloc | apply Kd.N_drewN | apply Kd.N_drew));exact D.out)) k_ hk_),(Kd.fresh' (Kd.N_lt (by (with_reducible repeat (first | apply Kd.N_alloc | apply Kd.N_drewN | apply Kd.N_drew));exact X.out)) k_ hk_),(Kd.fresh' (Kd.R_lt (qr_ a0)) k_ hk_),(Kd.fresh' (Kd.N_lt (by (with_reducible repeat (first | apply Kd.N_alloc | apply Kd.N_drewN | apply Kd.N_drew));exact ad.out)) k_ hk_)⟩)) (a0z qb_));replace c := qnl_ c (Kd.a3d a) hb;replace d := qnl_ d (Kd.a3d a) hb;replace b := qrb_ b hb;replace i := qnl_ i (Kd.a3d a) hb;replace m := qnl_ m (Kd.a3d a) hb;replace j := qrb_ j hb;replace o := qrb_ o hb;replace n := qrb_ n hb;replace p := qnl_ p (Kd.a3d a) hb;replace q := qrb_ q hb;replace s := qrb_ s hb;replace v := qnl_ v (Kd.a3d a) hb;replace x := qnl_ x (Kd.a3d a) hb;replace A := qrb_ A hb;replace D := qnl_ D (Kd.a3d a) hb;replace X := qnl_ X (Kd.a3d a) hb;replace a0 := qrb_ a0 hb;replace ad := qnl_ ad (Kd.a3d a) hb;replace HB := qbs_ hb;(try clear hb);(try clear a8);(try clear hk);(try clear hi);(try clear a);obtain ⟨d2,d3,cs⟩ := Kd.a6n ad.out;subst cs;obtain ⟨d4,d5,ct⟩ := Kd.a6n aS.out;subst ct) | (go_at_call 14;(with_reducible refine (a3z.calls k _ _ O _ _ P T _ ?s1 ?s2 ?s3 ?s4 cO.out).mono ?_);(case s1 => repeat (first | exact (Kd.a4r ad.out).2.2 | (with_reducible refine Kd.a1t ?_ _) | (with_reducible refine Kd.a1u ?_ _) | (with_reducible refine Kd.a2h ?_)));(case s2 => exact (Kd.a4r ad.out).2.1);(case s3 => repeat (first | exact (Kd.a4r aS.out).2.2 | (with_reducible refine Kd.a1t ?_ _) | (with_reducible refine Kd.a1u ?_ _) | (with_reducible refine Kd.a2h ?_)));(case s4 => exact (Kd.a4r aS.out).2.1);rintro e dR ⟨rfl,hb⟩;replace c := qnw_ c hb;replace d := qnw_ d hb;replace b := qrb_ b hb;replace i := qnw_ i hb;replace m := qnw_ m hb;replace j := qrb_ j hb;replace o := qrb_ o hb;replace n := qrb_ n hb;replace p := qnw_ p hb;replace q := qrb_ q hb;replace s := qrb_ s hb;replace v := qnw_ v hb;replace x := qnw_ x hb;replace A := qrb_ A hb;replace D := qnw_ D hb;replace X := qnw_ X hb;replace a0 := qrb_ a0 hb;replace ad := qnw_ ad hb;replace aS := qnw_ aS hb;replace HB := qbs_ hb;(try clear hb);(try clear a8);(try clear hk);(try clear hi)))
  go_meet
  case rel => exact ⟨_,(T),qs_,H',⟨qo_⟩,⟨by (with_reducible repeat (first | apply Kd.a2n | apply Kd.a2o | apply Kd.a2i));exact Kd.a2f b.out (fun _ hk => hk.1.1.1.2)⟩,⟨by (with_reducible repeat (first | apply Kd.a2n | apply Kd.a2o | apply Kd.a2i));exact Kd.a2f n.out (fun _ hk => hk.1.1.1.1.2)⟩,⟨by (with_reducible repeat (first | apply Kd.a2n | apply Kd.a2o | apply Kd.a2i));exact s.out⟩,⟨qb_⟩⟩
 case rest =>
 clear bc
 try clear c3
 try clear aC
 try clear bq
 try clear br
 try clear bs
 try clear bt
 try clear bu
 try clear bv
 try clear bw
 try clear bx
 try clear bz
 obtain ⟨kq,aR,rfl,HA,d6,HO_1,HO_3,HO_5,HB⟩ := hcut
 cases kq with
 | zero => exact absurd HA.out (by simp [a0f.j0])
 | succ a7 =>
 have H := HA.out
 clear HA
 simp only [a0f.j0] at H
 by_cases bA : aR = true
 rotate_left
 ·replace bA := be_ bA
  subst bA
  replace H := qin_ H
  obtain rfl := si_ H
  go_wp2
  go_ret
  exact ⟨qx_,qb_⟩
 subst bA
 replace H := qip_ H
 obtain ⟨ba,aT⟩ : ∃ y_ : List (S42),y_ = (([(⟨1,1,4⟩ : S42),(⟨2,8,12⟩ : S42)] : List (S42))) := ⟨_,rfl⟩
 replace H : ((a1j.f a7 l ba).bind fun bj => (if bj = true then ((a1j.f a7 u (([(⟨1,2,5⟩ : S42),(⟨2,8,12⟩ : S42)] : List (S42)))).bind fun b8 => (if b8 = true then ((a1s.f a7 y (([(⟨1,4⟩ : S56)] : List (S56)))).bind fun aJ => (some aJ)) else (some false))) else (some false))) = some r := by first | (rw [aT];with_reducible exact H) | (have W := (Option.bind_some _ _).symm.trans H;rw [aT];with_reducible exact W) | (have W := (Option.bind_some _ _).symm.trans H;with_reducible exact W) | with_reducible exact H | (rw [aT];exact H) | exact H
 have aD := am_ aT
 clear aT
 replace H := bm_ H
 obtain ⟨bj,bM,H⟩ := H
 have bN := am_ bM
 clear bM
 by_cases bB : bj = true
 rotate_left
 ·replace bB := be_ bB
  subst bB
  replace H := qin_ H
  obtain rfl := si_ H
  go_wp2_with (first | ((with_reducible refine a0t (N := 75) rfl ?_);(try (refine a3r (by rfl) ?_;dsimp only));refine Kd.a5q k42 _ 42 ?hg (N := 75) ?hd (xs := ([(⟨1,1,4⟩ : S42),(⟨2,8,12⟩ : S42)] : List (S42))) (inner := [.int .i64 1, .int .i64 1, .int .i64 4, .int .i64 2, .int .i64 8, .int .i64 12]) (ok := fun _ => True) (okp := fun _ => True) ?hr ?hp (fun _ hk => hk) trivial (Below.refl _ _) (Nat.le_refl _) (by simp) ?_;(case hd => rfl);(case hg => rfl);(case hr => exact qq_);(case hp => exact (Reps.c3 (show Kd.M k42 _ _ _ (⟨1,1,4⟩ : S42) [.int .i64 1, .int .i64 1, .int .i64 4] from (a4p _ _ _ (⟨1,1,4⟩ : S42) )) (Reps.c3 (show Kd.M k42 _ _ _ (⟨2,8,12⟩ : S42) [.int .i64 2, .int .i64 8, .int .i64 12] from (a4p _ _ _ (⟨2,8,12⟩ : S42) )) (Reps.none _ _))));intro bO dS aK hb hg_ hnew_;clear hg_ hnew_;(first | rw [← aD.out] at aK | (simp only [Int.reduceToNat] at aK;rw [← aD.out] at aK));replace HO_5 := qrb_ HO_5 hb;have B := am_ (Kd.a4b (Kd.a4d (Kd.a4d aK (Kd.R_lt (qr_ HO_1))) (Kd.R_lt (qr_ HO_3))) (a0z qb_));replace HO_1 := qel_ HO_1 aK hb;replace HO_3 := qel_ HO_3 aK hb;replace HB := qbs_ hb;clear hb aK;obtain ⟨d7,d8,cu⟩ := Kd.a3c HO_1.out;subst cu;obtain ⟨d9,da,cv⟩ := Kd.a3c B.out;subst cv) | (go_at_call 16;(with_reducible refine (a1j.calls a7 _ _ l _ _ ba false _ ?s1 ?s2 ?s3 ?s4 bN.out).mono ?_);(case s1 => exact qv_ (Kd.a0s HO_1.out).2.2);(case s2 => exact (Kd.a0s HO_1.out).2.1);(case s3 => exact qv_ (Kd.a0s B.out).2.2);(case s4 => exact (Kd.a0s B.out).2.1);rintro e w' ⟨rfl,⟨nd,rfl⟩⟩))
  go_ret
  exact ⟨qx_,qb_⟩
 subst bB
 replace H := qip_ H
 obtain ⟨bk,aU⟩ : ∃ y_ : List (S42),y_ = (([(⟨1,2,5⟩ : S42),(⟨2,8,12⟩ : S42)] : List (S42))) := ⟨_,rfl⟩
 replace H : ((a1j.f a7 u bk).bind fun b8 => (if b8 = true then ((a1s.f a7 y (([(⟨1,4⟩ : S56)] : List (S56)))).bind fun aJ => (some aJ)) else (some false))) = some r := by first | (rw [aU];with_reducible exact H) | (have W := (Option.bind_some _ _).symm.trans H;rw [aU];with_reducible exact W) | (have W := (Option.bind_some _ _).symm.trans H;with_reducible exact W) | with_reducible exact H | (rw [aU];exact H) | exact H
 have aX := am_ aU
 clear aU
 replace H := bm_ H
 obtain ⟨b8,bP,H⟩ := H
 have c0 := am_ bP
 clear bP
 by_cases bC : b8 = true
 rotate_left
 ·replace bC := be_ bC
  subst bC
  replace H := qin_ H
  obtain rfl := si_ H
  go_wp2_with (first | ((with_reducible refine a0t (N := 75) rfl ?_);(try (refine a3r (by rfl) ?_;dsimp only));refine Kd.a5q k42 _ 42 ?hg (N := 75) ?hd (xs := ([(⟨1,1,4⟩ : S42),(⟨2,8,12⟩ : S42)] : List (S42))) (inner := [.int .i64 1, .int .i64 1, .int .i64 4, .int .i64 2, .int .i64 8, .int .i64 12]) (ok := fun _ => True) (okp := fun _ => True) ?hr ?hp (fun _ hk => hk) trivial (Below.refl _ _) (Nat.le_refl _) (by simp) ?_;(case hd => rfl);(case hg => rfl);(case hr => exact qq_);(case hp => exact (Reps.c3 (show Kd.M k42 _ _ _ (⟨1,1,4⟩ : S42) [.int .i64 1, .int .i64 1, .int .i64 4] from (a4p _ _ _ (⟨1,1,4⟩ : S42) )) (Reps.c3 (show Kd.M k42 _ _ _ (⟨2,8,12⟩ : S42) [.int .i64 2, .int .i64 8, .int .i64 12] from (a4p _ _ _ (⟨2,8,12⟩ : S42) )) (Reps.none _ _))));intro bO dT aL hb hg_ hnew_;clear hg_ hnew_;(first | rw [← aD.out] at aL | (simp only [Int.reduceToNat] at aL;rw [← aD.out] at aL));replace HO_5 := qrb_ HO_5 hb;have B := am_ (Kd.a4b (Kd.a4d (Kd.a4d aL (Kd.R_lt (qr_ HO_1))) (Kd.R_lt (qr_ HO_3))) (a0z qb_));replace HO_1 := qel_ HO_1 aL hb;replace HO_3 := qel_ HO_3 aL hb;replace HB := qbs_ hb;clear hb aL;obtain ⟨db,dc,cw⟩ := Kd.a3c HO_1.out;subst cw;obtain ⟨dd,de,cx⟩ := Kd.a3c B.out;subst cx) | (go_at_call 16;(with_reducible refine (a1j.calls a7 _ _ l _ _ ba true _ ?s1 ?s2 ?s3 ?s4 bN.out).mono ?_);(case s1 => exact qv_ (Kd.a0s HO_1.out).2.2);(case s2 => exact (Kd.a0s HO_1.out).2.1);(case s3 => exact qv_ (Kd.a0s B.out).2.2);(case s4 => exact (Kd.a0s B.out).2.1);rintro e w' ⟨rfl,⟨nd,rfl⟩⟩) | ((with_reducible refine a0t (N := 83) rfl ?_);(try (refine a3r (by rfl) ?_;dsimp only));refine Kd.a5q k42 _ 42 ?hg (N := 83) ?hd (xs := ([(⟨1,2,5⟩ : S42),(⟨2,8,12⟩ : S42)] : List (S42))) (inner := [.int .i64 1, .int .i64 2, .int .i64 5, .int .i64 2, .int .i64 8, .int .i64 12]) (ok := fun _ => True) (okp := fun _ => True) ?hr ?hp (fun _ hk => hk) trivial (Below.refl _ _) (Nat.le_refl _) (by simp) ?_;(case hd => rfl);(case hg => rfl);(case hr => exact qq_);(case hp => exact (Reps.c3 (show Kd.M k42 _ _ _ (⟨1,2,5⟩ : S42) [.int .i64 1, .int .i64 2, .int .i64 5] from (a4p _ _ _ (⟨1,2,5⟩ : S42) )) (Reps.c3 (show Kd.M k42 _ _ _ (⟨2,8,12⟩ : S42) [.int .i64 2, .int .i64 8, .int .i64 12] from (a4p _ _ _ (⟨2,8,12⟩ : S42) )) (Reps.none _ _))));intro cy dU aA hb hg_ hnew_;clear hg_ hnew_;(first | rw [← aX.out] at aA | (simp only [Int.reduceToNat] at aA;rw [← aX.out] at aA));replace HO_5 := qrb_ HO_5 hb;have a9 := am_ (Kd.a4b (Kd.a4d (Kd.a4d (Kd.a4d aA (Kd.R_lt (qr_ HO_1))) (Kd.R_lt (qr_ HO_3))) (Kd.R_lt (qr_ B))) (a0z qb_));replace HO_1 := qel_ HO_1 aA hb;replace HO_3 := qel_ HO_3 aA hb;replace B := qel_ B aA hb;replace HB := qbs_ hb;clear hb aA;obtain ⟨df,dg,cz⟩ := Kd.a3c HO_3.out;subst cz;obtain ⟨dh,di,cA⟩ := Kd.a3c a9.out;subst cA) | (go_at_call 16;(with_reducible refine (a1j.calls a7 _ _ u _ _ bk false _ ?s1 ?s2 ?s3 ?s4 c0.out).mono ?_);(case s1 => exact qv_ (Kd.a0s HO_3.out).2.2);(case s2 => exact (Kd.a0s HO_3.out).2.1);(case s3 => exact qv_ (Kd.a0s a9.out).2.2);(case s4 => exact (Kd.a0s a9.out).2.1);rintro e w' ⟨rfl,⟨nd,rfl⟩⟩))
  go_ret
  exact ⟨qx_,qb_⟩
 subst bC
 replace H := qip_ H
 obtain ⟨bQ,aV⟩ : ∃ y_ : List (S56),y_ = (([(⟨1,4⟩ : S56)] : List (S56))) := ⟨_,rfl⟩
 replace H : ((a1s.f a7 y bQ).bind fun aJ => (some aJ)) = some r := by first | (rw [aV];with_reducible exact H) | (have W := (Option.bind_some _ _).symm.trans H;rw [aV];with_reducible exact W) | (have W := (Option.bind_some _ _).symm.trans H;with_reducible exact W) | with_reducible exact H | (rw [aV];exact H) | exact H
 have bD := am_ aV
 clear aV
 replace H := bm_ H
 obtain ⟨aJ,bR,H⟩ := H
 have cP := am_ bR
 clear bR
 obtain rfl := si_ H
 go_wp2_with (first | ((with_reducible refine a0t (N := 75) rfl ?_);(try (refine a3r (by rfl) ?_;dsimp only));refine Kd.a5q k42 _ 42 ?hg (N := 75) ?hd (xs := ([(⟨1,1,4⟩ : S42),(⟨2,8,12⟩ : S42)] : List (S42))) (inner := [.int .i64 1, .int .i64 1, .int .i64 4, .int .i64 2, .int .i64 8, .int .i64 12]) (ok := fun _ => True) (okp := fun _ => True) ?hr ?hp (fun _ hk => hk) trivial (Below.refl _ _) (Nat.le_refl _) (by simp) ?_;(case hd => rfl);(case hg => rfl);(case hr => exact qq_);(case hp => exact (Reps.c3 (show Kd.M k42 _ _ _ (⟨1,1,4⟩ : S42) [.int .i64 1, .int .i64 1, .int .i64 4] from (a4p _ _ _ (⟨1,1,4⟩ : S42) )) (Reps.c3 (show Kd.M k42 _ _ _ (⟨2,8,12⟩ : S42) [.int .i64 2, .int .i64 8, .int .i64 12] from (a4p _ _ _ (⟨2,8,12⟩ : S42) )) (Reps.none _ _))));intro bO dV aM hb hg_ hnew_;clear hg_ hnew_;(first | rw [← aD.out] at aM | (simp only [Int.reduceToNat] at aM;rw [← aD.out] at aM));replace HO_5 := qrb_ HO_5 hb;have B := am_ (Kd.a4b (Kd.a4d (Kd.a4d aM (Kd.R_lt (qr_ HO_1))) (Kd.R_lt (qr_ HO_3))) (a0z qb_));replace HO_1 := qel_ HO_1 aM hb;replace HO_3 := qel_ HO_3 aM hb;replace HB := qbs_ hb;clear hb aM;obtain ⟨dj,dk,cB⟩ := Kd.a3c HO_1.out;subst cB;obtain ⟨dl,dm,cC⟩ := Kd.a3c B.out;subst cC) | (go_at_call 16;(with_reducible refine (a1j.calls a7 _ _ l _ _ ba true _ ?s1 ?s2 ?s3 ?s4 bN.out).mono ?_);(case s1 => exact qv_ (Kd.a0s HO_1.out).2.2);(case s2 => exact (Kd.a0s HO_1.out).2.1);(case s3 => exact qv_ (Kd.a0s B.out).2.2);(case s4 => exact (Kd.a0s B.out).2.1);rintro e w' ⟨rfl,⟨nd,rfl⟩⟩) | ((with_reducible refine a0t (N := 83) rfl ?_);(try (refine a3r (by rfl) ?_;dsimp only));refine Kd.a5q k42 _ 42 ?hg (N := 83) ?hd (xs := ([(⟨1,2,5⟩ : S42),(⟨2,8,12⟩ : S42)] : List (S42))) (inner := [.int .i64 1, .int .i64 2, .int .i64 5, .int .i64 2, .int .i64 8, .int .i64 12]) (ok := fun _ => True) (okp := fun _ => True) ?hr ?hp (fun _ hk => hk) trivial (Below.refl _ _) (Nat.le_refl _) (by simp) ?_;(case hd => rfl);(case hg => rfl);(case hr => exact qq_);(case hp => exact (Reps.c3 (show Kd.M k42 _ _ _ (⟨1,2,5⟩ : S42) [.int .i64 1, .int .i64 2, .int .i64 5] from (a4p _ _ _ (⟨1,2,5⟩ : S42) )) (Reps.c3 (show Kd.M k42 _ _ _ (⟨2,8,12⟩ : S42) [.int .i64 2, .int .i64 8, .int .i64 12] from (a4p _ _ _ (⟨2,8,12⟩ : S42) )) (Reps.none _ _))));intro cy dW aB hb hg_ hnew_;clear hg_ hnew_;(first | rw [← aX.out] at aB | (simp only [Int.reduceToNat] at aB;rw [← aX.out] at aB));replace HO_5 := qrb_ HO_5 hb;have a9 := am_ (Kd.a4b (Kd.a4d (Kd.a4d (Kd.a4d aB (Kd.R_lt (qr_ HO_1))) (Kd.R_lt (qr_ HO_3))) (Kd.R_lt (qr_ B))) (a0z qb_));replace HO_1 := qel_ HO_1 aB hb;replace HO_3 := qel_ HO_3 aB hb;replace B := qel_ B aB hb;replace HB := qbs_ hb;clear hb aB;obtain ⟨dn,dp,cD⟩ := Kd.a3c HO_3.out;subst cD;obtain ⟨dq,dr,cE⟩ := Kd.a3c a9.out;subst cE) | (go_at_call 16;(with_reducible refine (a1j.calls a7 _ _ u _ _ bk true _ ?s1 ?s2 ?s3 ?s4 c0.out).mono ?_);(case s1 => exact qv_ (Kd.a0s HO_3.out).2.2);(case s2 => exact (Kd.a0s HO_3.out).2.1);(case s3 => exact qv_ (Kd.a0s a9.out).2.2);(case s4 => exact (Kd.a0s a9.out).2.1);rintro e w' ⟨rfl,⟨nd,rfl⟩⟩) | ((with_reducible refine a0t (N := 89) rfl ?_);(try (refine a3r (by rfl) ?_;dsimp only));refine Kd.a5q k56 _ 56 ?hg (N := 89) ?hd (xs := ([(⟨1,4⟩ : S56)] : List (S56))) (inner := [.int .i64 1, .int .i64 4]) (ok := fun _ => True) (okp := fun _ => True) ?hr ?hp (fun _ hk => hk) trivial (Below.refl _ _) (Nat.le_refl _) (by simp) ?_;(case hd => rfl);(case hg => rfl);(case hr => exact qq_);(case hp => exact (Reps.c2 (show Kd.M k56 _ _ _ (⟨1,4⟩ : S56) [.int .i64 1, .int .i64 4] from (a6p _ _ _ (⟨1,4⟩ : S56) )) (Reps.none _ _)));intro ds dX aW hb hg_ hnew_;clear hg_ hnew_;(first | rw [← bD.out] at aW | (simp only [Int.reduceToNat] at aW;rw [← bD.out] at aW));replace HO_1 := qrb_ HO_1 hb;replace HO_3 := qrb_ HO_3 hb;replace B := qrb_ B hb;replace a9 := qrb_ a9 hb;have bb := am_ (Kd.a4b (Kd.a4d aW (Kd.R_lt (qr_ HO_5))) (a0z qb_));replace HO_5 := qel_ HO_5 aW hb;replace HB := qbs_ hb;clear hb aW;obtain ⟨dt,du,cF⟩ := Kd.a3c HO_5.out;subst cF;obtain ⟨dv,dw,cG⟩ := Kd.a3c bb.out;subst cG) | (go_at_call 23;(with_reducible refine (a1s.calls a7 _ _ y _ _ bQ aJ _ ?s1 ?s2 ?s3 ?s4 cP.out).mono ?_);(case s1 => exact qv_ (Kd.a0s HO_5.out).2.2);(case s2 => exact (Kd.a0s HO_5.out).2.1);(case s3 => exact qv_ (Kd.a0s bb.out).2.2);(case s4 => exact (Kd.a0s bb.out).2.1);rintro e w' ⟨rfl,⟨nd,rfl⟩⟩))
 go_ret
 exact ⟨qx_,qb_⟩
end Go.Proofs.Ytheibjkjmkanoaa.Px
