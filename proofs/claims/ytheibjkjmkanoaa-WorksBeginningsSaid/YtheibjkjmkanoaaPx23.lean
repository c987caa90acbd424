/- Contracts of Go functions, printed. Conditions: as each theorem states. -/
import Derived.Test.YtheibjkjmkanoaaPx0
namespace Go.Proofs.Ytheibjkjmkanoaa.Px
open Go.Proofs.Ytheibjkjmkanoaa.Given
open Go.RowKit Go.Proofs.YtheibjkjmkanoaaW.PrintWords Go.Proofs.YtheibjkjmkanoaaW.PrintLast Go.Proofs.YtheibjkjmkanoaaW.PrintMore
attribute [local go_sem] a3r a3s a4e a4f a3k a3l a3t a3u
set_option linter.unusedVariables false
set_option linter.unusedSimpArgs false
mutual
def a0n.j0 : Nat → List (S51) → List (S58) → Bool → Option (Bool)
 | 0,_,_,_ => none
 | k + 1,x0,x1,a => if a = true then (some false) else (a0n.l0 k x0 x1 0)
def a0n.l0 : Nat → List (S51) → List (S58) → Int → Option (Bool)
 | 0,_,_,_ => none
 | k + 1,x0,x1,x5 => if x5 < (x0.length : Int) then (if 0 ≤ x5 then (if (((a0a x0 x5).f3).length : Int) > 20 then (some false) else (if (((a0a x0 x5).f4).length : Int) > 20 then (some false) else (a0n.l0 k x0 x1 (wrap64 (x5 + 1))))) else (none)) else (a0n.l1 k x1 0)
def a0n.l1 : Nat → List (S58) → Int → Option (Bool)
 | 0,_,_ => none
 | k + 1,x1,x6 => if x6 < (x1.length : Int) then (if 0 ≤ x6 then (if (((a2a x1 x6).f1).length : Int) > 20 then (some false) else (a0n.l1 k x1 (wrap64 (x6 + 1)))) else (none)) else (some true)
end
def a0n.f (k : Nat) (l0 : List (S51)) (l1 : List (S58)) : Option (Bool) := if (l0.length : Int) > 12 then (a0n.j0 k l0 l1 true) else (a0n.j0 k l0 l1 (decide ((l1.length : Int) > 25)))
theorem a0n.a1t : ∀ k,(∀ y0 y1 y2,LeO (a0n.j0 k y0 y1 y2) (a0n.j0 (k + 1) y0 y1 y2)) ∧ (∀ y0 y1 y2,LeO (a0n.l0 k y0 y1 y2) (a0n.l0 (k + 1) y0 y1 y2)) ∧ (∀ y0 y1,LeO (a0n.l1 k y0 y1) (a0n.l1 (k + 1) y0 y1))
 | 0 => ⟨fun _ _ _ r h => by simp [a0n.j0] at h,fun _ _ _ r h => by simp [a0n.l0] at h,fun _ _ r h => by simp [a0n.l1] at h⟩
 | k + 1 => by
  obtain ⟨a,b,c⟩ := a0n.a1t k
  refine ⟨?_,?_,?_⟩ <;> intros <;> (first | unfold a0n.j0 | unfold a0n.l0 | unfold a0n.l1) <;> with_reducible (repeat' first | apply a | apply b | apply c | apply LeO.refl | apply LeO.none | apply LeO.ite | refine LeO.bind ?_ (fun _ => ?_))
theorem a0n.mono : ∀ a0 a1 k,LeO (a0n.f k a0 a1) (a0n.f (k + 1) a0 a1) := by
 intro a0 a1 k
 obtain ⟨a,b,c⟩ := a0n.a1t k
 unfold a0n.f
 with_reducible (repeat' first | apply a | apply b | apply c | apply LeO.refl | apply LeO.none | apply LeO.ite | refine LeO.bind ?_ (fun _ => ?_))
set_option maxHeartbeats 8000000 in
set_option maxRecDepth 100000 in
theorem a0n.calls (k : Nat) (A0 : Option Addr) (c0 : Nat) (l0 : List (S51)) (A1 : Option Addr) (c1 : Nat) (l1 : List (S58)) (r : Bool) (w : World) (ay : Kd.C k51 w A0 l0.length l0) (az : l0.length ≤ c0) (aA : Kd.C k58 w A1 l1.length l1) (aB : l1.length ≤ c1) (h : a0n.f k l0 l1 = some r) :
  Calls Try.prog 11 #[.slice A0 l0.length c0, .slice A1 l1.length c1] w fun e w' => e = .returned (.bool r) ∧ a3v w w' := by
 have a0 := am_ ay
 have aM := am_ az
 clear ay az
 have aC := am_ aA
 have aN := am_ aB
 clear aA aB
 have H : (if (l0.length : Int) > 12 then (a0n.j0 k l0 l1 true) else (a0n.j0 k l0 l1 (decide ((l1.length : Int) > 25)))) = some r := h
 clear h
 have ak := am_ H
 clear H
 go_enter Try.func11,Try.ntmps11
 go_upto_region 1 with (fail)
 go_cut [14] (fun aJ wc => ∃ (kq : Nat) (E : Bool),aJ = .bool E ∧ Aside0 (a0n.j0 kq l0 l1 E = some r) ∧ Aside0 (kq ≤ k) ∧ a3v w wc)
 case first =>
  have H := ak.out
  clear ak
  by_cases c4 : (l0.length : Int) > 12
  ·rw [if_pos c4] at H
   have t : decide (12 < (l0.length : Int)) = true := decide_eq_true c4
   have W : decide (12 < l0.length) = true := decide_eq_true (by omega)
   clear c4
   (first | rw [t] | (simp only [a4m,a4v];rw [t]) | skip)
   have H' := am_ H
   clear H
   go_wp2
   go_meet
   case rel => exact ⟨_,(true),qs_,H',⟨qo_⟩,qy_⟩
  rw [if_neg c4] at H
  have t : decide (12 < (l0.length : Int)) = false := decide_eq_false c4
  have W : decide (12 < l0.length) = false := decide_eq_false (by omega)
  clear c4
  (first | rw [t] | (simp only [a4m,a4v];rw [t]) | skip)
  have H' := am_ H
  clear H
  go_wp2
  go_meet
  case rel => exact ⟨_,(decide ((l1.length : Int) > 25)),qs_,H',⟨qo_⟩,qy_⟩
 case rest =>
 clear ak
 try clear c1
 try clear t
 try clear W
 obtain ⟨kq,E,rfl,HA,a7,⟨aO,rfl⟩⟩ := hcut
 cases kq with
 | zero => exact absurd HA.out (by simp [a0n.j0])
 | succ aD =>
 have H := HA.out
 clear HA
 simp only [a0n.j0] at H
 by_cases c5 : E = true
 ·subst c5
  replace H := qip_ H
  obtain rfl := si_ H
  go_wp2
  go_ret
  exact ⟨qs_,qy_⟩
 replace c5 := be_ c5
 subst c5
 replace H := qin_ H
 have H' := am_ H
 clear H
 go_wp2
 go_loopg [5] aD (fun kq v5 w' => ∃ (a : Int),v5 = .int .i64 a ∧ Aside0 (a0n.l0 kq l0 l1 a = some r) ∧ Aside0 (kq ≤ aD) ∧ a3v w w')
 case atStart => exact ⟨(0),qs_,H',⟨Nat.le_refl _⟩,qy_⟩
 case round =>
 clear H'
 try clear c1
 try clear t
 try clear W
 try clear c5
 obtain ⟨a,rfl,HA,a8,⟨m2,rfl⟩⟩ := hrel
 cases gk with
 | zero => exact absurd HA.out (by simp [a0n.l0])
 | succ k2 =>
 have H := HA.out
 clear HA
 simp only [a0n.l0] at H
 by_cases c6 : a < (l0.length : Int)
 rotate_left
 ·rw [if_neg c6] at H
  have al : decide (a < (l0.length : Int)) = false := decide_eq_false c6
  clear c6
  have H' := am_ H
  clear H
  go_wp2
  go_loopg [6] k2 (fun kq v6 w' => ∃ (b : Int),v6 = .int .i64 b ∧ Aside0 (a0n.l1 kq l1 b = some r) ∧ Aside0 (kq ≤ k2) ∧ a3v w w')
  case atStart => exact ⟨(0),qs_,H',⟨Nat.le_refl _⟩,qy_⟩
  case round =>
  clear H'
  try clear c1
  try clear t
  try clear W
  try clear c5
  try clear al
  obtain ⟨b,rfl,HA,aE,⟨m3,rfl⟩⟩ := hrel
  cases gk with
  | zero => exact absurd HA.out (by simp [a0n.l1])
  | succ k3 =>
  have H := HA.out
  clear HA
  simp only [a0n.l1] at H
  by_cases c10 : b < (l1.length : Int)
  rotate_left
  ·rw [if_neg c10] at H
   have au : decide (b < (l1.length : Int)) = false := decide_eq_false c10
   clear c10
   obtain rfl := si_ H
   go_wp2
   go_ret
   exact ⟨qs_,qy_⟩
  rw [if_pos c10] at H
  have au : decide (b < (l1.length : Int)) = true := decide_eq_true c10
  clear c10
  obtain ⟨aK,H⟩ := qid_ H
  by_cases J : (((a2a l1 b).f1).length : Int) > 20
  ·rw [if_pos J] at H
   have av : decide (20 < (((a2a l1 b).f1).length : Int)) = true := decide_eq_true J
   have aw : decide (20 < ((a2a l1 b).f1).length) = true := decide_eq_true (by omega)
   clear J
   obtain rfl := si_ H
   have x : 0 ≤ (b : Int) := ot_
   have y : b < (l1.length : Int) := ot_
   obtain ⟨ax,am,an,a5,a9,aa,m,n⟩ := a6w aC.out b x y
   cases a5
   have ab := am_ n
   have ac := am_ m
   clear n m
   replace x := eq_true x
   replace y := eq_true y
   go_wp2
   go_ret
   exact ⟨qs_,qy_⟩
  rw [if_neg J] at H
  have av : decide (20 < (((a2a l1 b).f1).length : Int)) = false := decide_eq_false J
  have aw : decide (20 < ((a2a l1 b).f1).length) = false := decide_eq_false (by omega)
  clear J
  have H' := am_ H
  clear H
  have x : 0 ≤ (b : Int) := ot_
  have y : b < (l1.length : Int) := ot_
  obtain ⟨ax,am,an,a5,a9,aa,m,n⟩ := a6w aC.out b x y
  cases a5
  have ab := am_ n
  have ac := am_ m
  clear n m
  replace x := eq_true x
  replace y := eq_true y
  go_wp2
  go_roundg k3
  case measure => have := a7.out;have := a8.out;have := aE.out;omega
  case rel => exact ⟨(wrap64 (b + 1)),qs_,H',⟨by have := a7.out;have := a8.out;have := aE.out;omega⟩,qy_⟩
 rw [if_pos c6] at H
 have al : decide (a < (l0.length : Int)) = true := decide_eq_true c6
 clear c6
 obtain ⟨aL,H⟩ := qid_ H
 by_cases c8 : (((a0a l0 a).f3).length : Int) > 20
 ·rw [if_pos c8] at H
  have aF : decide (20 < (((a0a l0 a).f3).length : Int)) = true := decide_eq_true c8
  have aG : decide (20 < ((a0a l0 a).f3).length) = true := decide_eq_true (by omega)
  clear c8
  obtain rfl := si_ H
  have j : 0 ≤ (a : Int) := ot_
  have l : a < (l0.length : Int) := ot_
  obtain ⟨G,a1,a2,a3,a4,I,K,L,M,u,v,c,d,g,i⟩ := a4i a0.out a j l
  cases I
  have O := am_ d
  have P := am_ c
  clear d c
  have T := am_ i
  have U := am_ g
  clear i g
  replace j := eq_true j
  replace l := eq_true l
  go_wp2
  go_ret
  exact ⟨qs_,qy_⟩
 rw [if_neg c8] at H
 have aF : decide (20 < (((a0a l0 a).f3).length : Int)) = false := decide_eq_false c8
 have aG : decide (20 < ((a0a l0 a).f3).length) = false := decide_eq_false (by omega)
 clear c8
 by_cases c9 : (((a0a l0 a).f4).length : Int) > 20
 ·rw [if_pos c9] at H
  have aH : decide (20 < (((a0a l0 a).f4).length : Int)) = true := decide_eq_true c9
  have aI : decide (20 < ((a0a l0 a).f4).length) = true := decide_eq_true (by omega)
  clear c9
  obtain rfl := si_ H
  have j : 0 ≤ (a : Int) := ot_
  have l : a < (l0.length : Int) := ot_
  obtain ⟨G,a1,a2,a3,a4,I,K,L,M,u,v,c,d,g,i⟩ := a4i a0.out a j l
  cases I
  have O := am_ d
  have P := am_ c
  clear d c
  have T := am_ i
  have U := am_ g
  clear i g
  replace j := eq_true j
  replace l := eq_true l
  have z : 0 ≤ (a : Int) := ot_
  have A : a < (l0.length : Int) := ot_
  obtain ⟨X,ao,ap,aq,ar,a6,ad,ae,af,B,D,o,p,q,s⟩ := a4i a0.out a z A
  obtain rfl : G = X := (by injection a6)
  have ag := am_ p
  have ah := am_ o
  clear p o
  have ai := am_ s
  have aj := am_ q
  clear s q
  replace z := eq_true z
  replace A := eq_true A
  have ea_ := si_ (u.symm.trans B)
  injection ea_ with ea_ en_ ec_
  subst ea_
  subst ec_
  clear en_
  have ea_ := si_ (v.symm.trans D)
  injection ea_ with ea_ en_ ec_
  subst ea_
  subst ec_
  clear en_
  go_wp2
  go_ret
  exact ⟨qs_,qy_⟩
 rw [if_neg c9] at H
 have aH : decide (20 < (((a0a l0 a).f4).length : Int)) = false := decide_eq_false c9
 have aI : decide (20 < ((a0a l0 a).f4).length) = false := decide_eq_false (by omega)
 clear c9
 have H' := am_ H
 clear H
 have j : 0 ≤ (a : Int) := ot_
 have l : a < (l0.length : Int) := ot_
 obtain ⟨G,a1,a2,a3,a4,I,K,L,M,u,v,c,d,g,i⟩ := a4i a0.out a j l
 cases I
 have O := am_ d
 have P := am_ c
 clear d c
 have T := am_ i
 have U := am_ g
 clear i g
 replace j := eq_true j
 replace l := eq_true l
 have z : 0 ≤ (a : Int) := ot_
 have A : a < (l0.length : Int) := ot_
 obtain ⟨X,ao,ap,aq,ar,a6,ad,ae,af,B,D,o,p,q,s⟩ := a4i a0.out a z A
 obtain rfl : G = X := (by injection a6)
 have ag := am_ p
 have ah := am_ o
 clear p o
 have ai := am_ s
 have aj := am_ q
 clear s q
 replace z := eq_true z
 replace A := eq_true A
 have ea_ := si_ (u.symm.trans B)
 injection ea_ with ea_ en_ ec_
 subst ea_
 subst ec_
 clear en_
 have ea_ := si_ (v.symm.trans D)
 injection ea_ with ea_ en_ ec_
 subst ea_
 subst ec_
 clear en_
 go_wp2
 go_roundg k2
 case measure => have := a7.out;have := a8.out;omega
 case rel => exact ⟨(wrap64 (a + 1)),qs_,H',⟨by have := a7.out;have := a8.out;omega⟩,qy_⟩
def a4l.f (a b : Int) : Option (Bool) := if a ≥ 0 then (if a < b then (some (decide (b ≤ 36525))) else (some false)) else (some false)
set_option maxHeartbeats 8000000 in
set_option maxRecDepth 100000 in
theorem a4l.calls (a c : Int) (r : Bool) (w : World) (h : a4l.f a c = some r) :
  Calls Try.prog 51 #[.agg #[.int .i64 a, .int .i64 c]] w fun e w' => e = .returned (.bool r) ∧ Below w.heap.size w w' := by
 have z := Try.underlying56
 have HB := am_ (Below.refl w.heap.size w)
 have H : (if a ≥ 0 then (if a < c then (some (decide (c ≤ 36525))) else (some false)) else (some false)) = some r := h
 clear h
 by_cases c2 : a ≥ 0
 rotate_left
 ·rw [if_neg c2] at H
  have j : decide (0 ≤ a) = false := decide_eq_false c2
  clear c2
  obtain rfl := si_ H
  go_enter Try.func51,Try.ntmps51
  go_wp2_with (first | ((with_reducible refine a1d (N := 1) rfl ?_);refine qev_ 1 #[.int .i64 a, .int .i64 c] 56 ?_;intro d hg w8 hbox hb;have b := am_ (hbox);have g := qga_ hg;have i := qga_ hg;replace HB := qbs_ hb;clear hb hbox hg;obtain ⟨l,m⟩ := qz2_ b;obtain ⟨n,o⟩ := qf2_ b))
  go_ret
  exact ⟨qx_,qb_⟩
 rw [if_pos c2] at H
 have j : decide (0 ≤ a) = true := decide_eq_true c2
 clear c2
 by_cases c3 : a < c
 rotate_left
 ·rw [if_neg c3] at H
  have k : decide (a < c) = false := decide_eq_false c3
  clear c3
  obtain rfl := si_ H
  go_enter Try.func51,Try.ntmps51
  go_wp2_with (first | ((with_reducible refine a1d (N := 1) rfl ?_);refine qev_ 1 #[.int .i64 a, .int .i64 c] 56 ?_;intro d hg w6 hbox hb;have b := am_ (hbox);have g := qga_ hg;have i := qga_ hg;replace HB := qbs_ hb;clear hb hbox hg;obtain ⟨p,q⟩ := qz2_ b;obtain ⟨s,t⟩ := qf2_ b))
  go_ret
  exact ⟨qx_,qb_⟩
 rw [if_pos c3] at H
 have k : decide (a < c) = true := decide_eq_true c3
 clear c3
 obtain rfl := si_ H
 go_enter Try.func51,Try.ntmps51
 go_wp2_with (first | ((with_reducible refine a1d (N := 1) rfl ?_);refine qev_ 1 #[.int .i64 a, .int .i64 c] 56 ?_;intro d hg w4 hbox hb;have b := am_ (hbox);have g := qga_ hg;have i := qga_ hg;replace HB := qbs_ hb;clear hb hbox hg;obtain ⟨u,v⟩ := qz2_ b;obtain ⟨x,y⟩ := qf2_ b))
 go_ret
 exact ⟨qx_,qb_⟩
end Go.Proofs.Ytheibjkjmkanoaa.Px
/- Contracts of Go functions, written by a program of this session's own (wip/tools/myprint.py) out of the translation: each Go function does what the Lean function of its name says. Conditions: as each theorem states. -/
namespace Go.Proofs.Ytheibjkjmkanoaa.Px
open Go.Proofs.Ytheibjkjmkanoaa.Given
open Go.RowKit Go.Proofs.YtheibjkjmkanoaaW.PrintWords Go.Proofs.YtheibjkjmkanoaaW.PrintLast Go.Proofs.YtheibjkjmkanoaaW.PrintMore
attribute [local go_sem] a3r a3s a4e a4f a3k a3l a3t a3u
set_option linter.unusedVariables false
set_option linter.unusedSimpArgs false
mutual
def a0y.l0 : Nat → List (S56) → Int → Option (Bool)
 | 0,_,_ => none
 | k + 1,x0,x3 => if x3 < (x0.length : Int) then (if 0 ≤ x3 then ((a4l.f ((a0h x0 x3).f0) ((a0h x0 x3).f1)).bind fun a => (if a = true then (if x3 > 0 then (if 0 ≤ (wrap64 (x3 - 1)) then (if (wrap64 (x3 - 1)) < (x0.length : Int) then (a0y.j1 k x0 x3 (decide (((a0h x0 (wrap64 (x3 - 1))).f1) ≥ ((a0h x0 x3).f0)))) else (none)) else (none)) else (a0y.j1 k x0 x3 false)) else (a0y.j1 k x0 x3 true))) else (none)) else (some (decide ((x0.length : Int) ≤ 1000)))
def a0y.j1 : Nat → List (S56) → Int → Bool → Option (Bool)
 | 0,_,_,_ => none
 | k + 1,x0,x3,a => if a = true then (some false) else (a0y.l0 k x0 (wrap64 (x3 + 1)))
end
def a0y.f (k : Nat) (l0 : List (S56)) : Option (Bool) := a0y.l0 k l0 0
theorem a0y.a1t : ∀ k,(∀ y0 y1,LeO (a0y.l0 k y0 y1) (a0y.l0 (k + 1) y0 y1)) ∧ (∀ y0 y1 y2,LeO (a0y.j1 k y0 y1 y2) (a0y.j1 (k + 1) y0 y1 y2))
 | 0 => ⟨fun _ _ r h => by simp [a0y.l0] at h,fun _ _ _ r h => by simp [a0y.j1] at h⟩
 | k + 1 => by
  obtain ⟨a,b⟩ := a0y.a1t k
  refine ⟨?_,?_⟩ <;> intros <;> (first | unfold a0y.l0 | unfold a0y.j1) <;> with_reducible (repeat' first | apply a | apply b | apply LeO.refl | apply LeO.none | apply LeO.ite | refine LeO.bind ?_ (fun _ => ?_))
theorem a0y.mono : ∀ a0 k,LeO (a0y.f k a0) (a0y.f (k + 1) a0) := by
 intro a0 k
 obtain ⟨a,b⟩ := a0y.a1t k
 unfold a0y.f
 with_reducible (repeat' first | apply a | apply b | apply LeO.refl | apply LeO.none | apply LeO.ite | refine LeO.bind ?_ (fun _ => ?_))
set_option maxHeartbeats 8000000 in
set_option maxRecDepth 100000 in
theorem a0y.calls (k : Nat) (A0 : Option Addr) (c0 : Nat) (l0 : List (S56)) (r : Bool) (w : World) (L : Kd.C k56 w A0 l0.length l0) (M : l0.length ≤ c0) (h : a0y.f k l0 = some r) :
  Calls Try.prog 33 #[.slice A0 l0.length c0] w fun e w' => e = .returned (.bool r) ∧ Below w.heap.size w w' := by
 have a3 := Try.underlying56
 have B := am_ L
 have a4 := am_ M
 clear L M
 have HB := am_ (Below.refl w.heap.size w)
 have H : (a0y.l0 k l0 0) = some r := h
 clear h
 have H' := am_ H
 clear H
 go_enter Try.func33,Try.ntmps33
 go_wp2
 repeat (go_quiet (fail);try go_wp2)
 go_loopg [3] k (fun kq v3 w' => ∃ (a : Int),v3 = .int .i64 a ∧ Aside0 (a0y.l0 kq l0 a = some r) ∧ Aside0 (kq ≤ k) ∧ Aside0 (Below w.heap.size w w'))
 case atStart => exact ⟨(0),qs_,H',⟨Nat.le_refl _⟩,⟨qb_⟩⟩
 case round =>
 clear H'
 obtain ⟨a,rfl,HA,y,HB⟩ := hrel
 cases gk with
 | zero => exact absurd HA.out (by simp [a0y.l0])
 | succ k1 =>
 have H := HA.out
 clear HA
 simp only [a0y.l0] at H
 by_cases c2 : a < (l0.length : Int)
 rotate_left
 ·rw [if_neg c2] at H
  have D : decide (a < (l0.length : Int)) = false := decide_eq_false c2
  clear c2
  obtain rfl := si_ H
  go_wp2
  repeat (go_quiet (fail);try go_wp2)
  go_ret
  exact ⟨qx_,qb_⟩
 rw [if_pos c2] at H
 have D : decide (a < (l0.length : Int)) = true := decide_eq_true c2
 clear c2
 obtain ⟨U,H⟩ := qid_ H
 replace H := bm_ H
 obtain ⟨p,O,H⟩ := H
 have A4 := am_ O
 clear O
 have E := am_ H
 clear H
 have q : 0 ≤ (a : Int) := ot_
 have s : a < (l0.length : Int) := ot_
 obtain ⟨z,W,b,c⟩ := a5d B.out a q s
 cases W
 replace b := qh_ HB b
 replace c := qh_ HB c
 replace q := eq_true q
 replace s := eq_true s
 go_upto_region 5 with (first | (go_at_call 51;(with_reducible refine (a4l.calls ((a0h l0 a).f0) ((a0h l0 a).f1) p _ A4.out).mono ?_);rintro e w6 ⟨rfl,hb⟩;replace HB := qbs_ hb;(try clear hb);(try clear P);(try clear hk);(try clear hi)))
 repeat (go_quiet (first | (go_at_call 51;(with_reducible refine (a4l.calls ((a0h l0 a).f0) ((a0h l0 a).f1) p _ A4.out).mono ?_);rintro e w6 ⟨rfl,hb⟩;replace HB := qbs_ hb;(try clear hb);(try clear P);(try clear hk);(try clear hi)));go_upto_region 5 with (first | (go_at_call 51;(with_reducible refine (a4l.calls ((a0h l0 a).f0) ((a0h l0 a).f1) p _ A4.out).mono ?_);rintro e w6 ⟨rfl,hb⟩;replace HB := qbs_ hb;(try clear hb);(try clear P);(try clear hk);(try clear hi))))
 (try simp only [Act.put,List.setIfInBounds_toArray,List.set_cons_zero,List.set_cons_succ])
 go_cut [35] (fun a1 wc => ∃ (kq : Nat) (m : Bool),a1 = .bool m ∧ Aside0 (a0y.j1 kq l0 a m = some r) ∧ Aside0 (kq ≤ k1) ∧ Aside0 (Below w.heap.size w wc))
 case first =>
  have H := E.out
  clear E
  by_cases c7 : p = true
  rotate_left
  ·replace c7 := be_ c7
   subst c7
   replace H := qin_ H
   have H' := am_ H
   clear H
   go_wp2
   repeat (go_quiet (fail);try go_wp2)
   go_meet
   case rel => exact ⟨_,(true),qs_,H',⟨by have := y.out;first | omega | exact Nat.le_refl _⟩,⟨qb_⟩⟩
  subst c7
  replace H := qip_ H
  by_cases c8 : a > 0
  rotate_left
  ·rw [if_neg c8] at H
   have d : decide (0 < a) = false := decide_eq_false c8
   clear c8
   (first | rw [d] | (simp only [a4m,a4v];rw [d]) | skip)
   have H' := am_ H
   clear H
   go_wp2
   repeat (go_quiet (fail);try go_wp2)
   go_meet
   case rel => exact ⟨_,(false),qs_,H',⟨by have := y.out;first | omega | exact Nat.le_refl _⟩,⟨qb_⟩⟩
  rw [if_pos c8] at H
  have d : decide (0 < a) = true := decide_eq_true c8
  clear c8
  (first | rw [d] | (simp only [a4m,a4v];rw [d]) | skip)
  obtain ⟨n,o⟩ : ∃ j_ : Int,(wrap64 (a - 1)) = j_ := ⟨_,rfl⟩
  replace H : (if 0 ≤ (n) then (if (n) < (l0.length : Int) then (a0y.j1 k1 l0 a (decide (((a0h l0 (n)).f1) ≥ ((a0h l0 a).f0)))) else (none)) else (none)) = some r := by first | (rw [o] at H;exact H) | (simp only [o] at H ⊢;exact H)
  have hji9w : (IntKind.i64.wrap (a - 1)) = n := (a4m _).trans o
  obtain ⟨G,H⟩ := qid_ H
  obtain ⟨I,H⟩ := qid_ H
  have H' := am_ H
  clear H
  have t : 0 ≤ ((n) : Int) := ot_
  have u : (n) < (l0.length : Int) := ot_
  obtain ⟨J,X,g,i⟩ := a5d B.out (n) t u
  obtain rfl : z = J := (by injection X)
  replace g := qh_ HB g
  replace i := qh_ HB i
  replace t := eq_true t
  replace u := eq_true u
  have v : 0 ≤ (a : Int) := ot_
  have x : a < (l0.length : Int) := ot_
  obtain ⟨K,a0,j,l⟩ := a5d B.out a v x
  obtain rfl : z = K := (by injection a0)
  replace j := qh_ HB j
  replace l := qh_ HB l
  replace v := eq_true v
  replace x := eq_true x
  go_wp2
  repeat (go_quiet (fail);try go_wp2)
  try subst o
  go_meet
  case rel => exact ⟨_,(decide (((a0h l0 ((wrap64 (a - 1)))).f1) ≥ ((a0h l0 a).f0))),(by first | rfl | (simp;done) | (simp only [← o] <;> (first | rfl | simp)) | (simp [*];done)),H',⟨by have := y.out;first | omega | exact Nat.le_refl _⟩,⟨qb_⟩⟩
 case rest =>
 clear E
 try clear D
 try clear U
 try clear c7
 try clear d
 try clear G
 try clear I
 try clear b
 try clear c
 try clear g
 try clear i
 try clear j
 try clear l
 try clear q
 try clear t
 try clear v
 try clear s
 try clear u
 try clear x
 obtain ⟨kq,m,rfl,HA,T,HB⟩ := hcut
 cases kq with
 | zero => exact absurd HA.out (by simp [a0y.j1])
 | succ a2 =>
 have H := HA.out
 clear HA
 simp only [a0y.j1] at H
 by_cases A : m = true
 ·subst A
  replace H := qip_ H
  obtain rfl := si_ H
  go_wp2
  repeat (go_quiet (fail);try go_wp2)
  go_ret
  exact ⟨qx_,qb_⟩
 replace A := be_ A
 subst A
 replace H := qin_ H
 have H' := am_ H
 clear H
 go_wp2
 repeat (go_quiet (fail);try go_wp2)
 go_roundg a2
 case measure => have := y.out;have := T.out;omega
 case rel => exact ⟨(wrap64 (a + 1)),qs_,H',⟨by have := y.out;have := T.out;omega⟩,⟨qb_⟩⟩
def a1v.l0 : Nat → List (S58) → Int → Int → Option ((List (S56)) × Bool)
 | 0,_,_,_ => none
 | k + 1,x0,x1,x6 => if x6 < (x0.length : Int) then (if 0 ≤ x6 then (if ((a2a x0 x6).f0) = x1 then (some ((a2a x0 x6).f1,true)) else (a1v.l0 k x0 x1 (wrap64 (x6 + 1)))) else (none)) else (some (([] : List (S56)),false))
def a1v.f (k : Nat) (l0 : List (S58)) (a1 : Int) : Option ((List (S56)) × Bool) := a1v.l0 k l0 a1 0
theorem a1v.a1t : ∀ k,(∀ y0 y1 y2,LeO (a1v.l0 k y0 y1 y2) (a1v.l0 (k + 1) y0 y1 y2))
 | 0 => fun _ _ _ r h => by simp [a1v.l0] at h
 | k + 1 => by
  have a := a1v.a1t k
  intro y0 y1 y2
  unfold a1v.l0
  with_reducible (repeat' first | apply a | apply LeO.refl | apply LeO.none | apply LeO.ite | refine LeO.bind ?_ (fun _ => ?_))
theorem a1v.mono : ∀ a0 a1 k,LeO (a1v.f k a0 a1) (a1v.f (k + 1) a0 a1) := by
 intro a0 a1 k
 have a := a1v.a1t k
 unfold a1v.f
 with_reducible (repeat' first | apply a | apply LeO.refl | apply LeO.none | apply LeO.ite | refine LeO.bind ?_ (fun _ => ?_))
set_option maxHeartbeats 8000000 in
set_option maxRecDepth 100000 in
theorem a1v.calls (k : Nat) (B : Nat → Prop) (A0 : Option Addr) (c0 : Nat) (l0 : List (S58)) (a1 : Int) (r1 : List (S56)) (r2 : Bool) (w : World) (ac : Kd.V k58 58 w w.heap.size (fun k_ => B k_) (.slice A0 l0.length c0) l0) (h : a1v.f k l0 a1 = some (r1,r2)) :
  Calls Try.prog 34 #[.slice A0 l0.length c0, .int .i64 a1] w fun e w' => ∃ a0 : Value,e = .returned (.tuple #[a0, .bool r2]) ∧ Kd.V k56 56 w' w.heap.size (fun k_ => (B k_ ∨ w.heap.size ≤ k_)) a0 r1 ∧ Below w.heap.size w w' := by
 have ad := am_ (show Kd.V k58 58 w w.heap.size (fun k_ => (B k_ ∨ w.heap.size ≤ k_)) (.slice A0 l0.length c0) l0 from Kd.b0e ac (fun k_ hk => .inl hk))
 have HB := am_ (Below.refl w.heap.size w)
 have H : (a1v.l0 k l0 a1 0) = some (r1,r2) := h
 clear h
 have H' := am_ H
 clear H
 go_enter Try.func34,Try.ntmps34
 go_wp2
 go_loopg [6] k (fun kq v6 w' => ∃ (a : Int),v6 = .int .i64 a ∧ Aside0 (a1v.l0 kq l0 a1 a = some (r1,r2)) ∧ Aside0 (kq ≤ k) ∧ Aside0 (Kd.V k58 58 w' w.heap.size (fun k_ => (B k_ ∨ w.heap.size ≤ k_)) (.slice A0 l0.length c0) l0) ∧ Aside0 (Below w.heap.size w w'))
 case atStart => exact ⟨(0),qs_,H',⟨Nat.le_refl _⟩,⟨by (with_reducible repeat (first | apply Kd.V_alloc | apply Kd.V_drewN | apply Kd.V_drew));exact ad.out⟩,⟨qb_⟩⟩
 case round =>
 clear H'
 obtain ⟨a,rfl,HA,a2,HO_0,HB⟩ := hrel
 cases gk with
 | zero => exact absurd HA.out (by simp [a1v.l0])
 | succ k1 =>
 have H := HA.out
 clear HA
 simp only [a1v.l0] at H
 by_cases c3 : a < (l0.length : Int)
 rotate_left
 ·rw [if_neg c3] at H
  have a3 : decide (a < (l0.length : Int)) = false := decide_eq_false c3
  clear c3
  simp only [Option.some.injEq,Prod.mk.injEq] at H
  obtain ⟨rfl,rfl⟩ := H
  go_wp2
  go_ret2
  exact ⟨_,qx_,Kd.a7j _ _ _ _ _,qb_⟩
 rw [if_pos c3] at H
 have a3 : decide (a < (l0.length : Int)) = true := decide_eq_true c3
 clear c3
 obtain ⟨ah,H⟩ := qid_ H
 by_cases c5 : ((a2a l0 a).f0) = a1
 rotate_left
 ·rw [if_neg c5] at H
  have a4 : (((a2a l0 a).f0) == a1) = false := beq_eq_false_iff_ne.mpr c5
  have a5 : (((a2a l0 a).f0) != a1) = true := bne_iff_ne.mpr c5
  have H' := am_ H
  clear H
  have j : 0 ≤ (a : Int) := ot_
  have l : a < (l0.length : Int) := ot_
  obtain ⟨D,O,P,A,E,n,g,i⟩ := a6w (Kd.a6o HO_0.out).2.2 a j l
  cases A
  obtain ⟨W,r,s,m⟩ := Kd.b8r HO_0.out z58 a j (by first | exact l | exact ot_ | (have e_ := (Kd.a6o HO_0.out).1;omega))
  obtain ⟨G,I,rfl,c,d⟩ := b1v s
  have b := m 1 _ rfl
  rw [a6b _ _ 1 (by omega)] at b
  replace b := si_ (b.symm.trans n)
  injection b with hva_ hvn_ hvc_
  rw [hva_] at d
  rw [hvc_] at c
  have J := am_ (show Kd.V k56 56 _ w.heap.size _ _ ((a2a l0 a).f1) from Kd.V_mk c d)
  clear hva_ hvn_ hvc_ d c m r
  have K := am_ i
  have L := am_ g
  clear i g
  replace j := eq_true j
  replace l := eq_true l
  go_wp2
  go_roundg k1
  case measure => have := a2.out;omega
  case rel => exact ⟨(wrap64 (a + 1)),qs_,H',⟨by have := a2.out;omega⟩,⟨by (with_reducible repeat (first | apply Kd.V_alloc | apply Kd.V_drewN | apply Kd.V_drew));exact HO_0.out⟩,⟨qb_⟩⟩
 rw [if_pos c5] at H
 have a4 : (((a2a l0 a).f0) == a1) = true := beq_iff_eq.mpr c5
 have a5 : (((a2a l0 a).f0) != a1) = false := bne_eq_false_iff_eq.mpr c5
 clear c5
 simp only [Option.some.injEq,Prod.mk.injEq] at H
 obtain ⟨rfl,rfl⟩ := H
 have j : 0 ≤ (a : Int) := ot_
 have l : a < (l0.length : Int) := ot_
 obtain ⟨D,O,P,A,E,n,g,i⟩ := a6w (Kd.a6o HO_0.out).2.2 a j l
 cases A
 obtain ⟨W,r,s,m⟩ := Kd.b8r HO_0.out z58 a j (by first | exact l | exact ot_ | (have e_ := (Kd.a6o HO_0.out).1;omega))
 obtain ⟨G,I,rfl,c,d⟩ := b1v s
 have b := m 1 _ rfl
 rw [a6b _ _ 1 (by omega)] at b
 replace b := si_ (b.symm.trans n)
 injection b with hva_ hvn_ hvc_
 rw [hva_] at d
 rw [hvc_] at c
 have J := am_ (show Kd.V k56 56 _ w.heap.size _ _ ((a2a l0 a).f1) from Kd.V_mk c d)
 clear hva_ hvn_ hvc_ d c m r
 have K := am_ i
 have L := am_ g
 clear i g
 replace j := eq_true j
 replace l := eq_true l
 have x : 0 ≤ (a : Int) := ot_
 have y : a < (l0.length : Int) := ot_
 obtain ⟨X,ae,af,a6,a7,t,u,v⟩ := a6w (Kd.a6o HO_0.out).2.2 a x y
 obtain rfl : D = X := (by injection a6)
 obtain ⟨ag,T,U,z⟩ := Kd.b8r HO_0.out z58 a x (by first | exact y | exact ot_ | (have e_ := (Kd.a6o HO_0.out).1;omega))
 obtain ⟨a8,a9,rfl,p,q⟩ := b1v U
 have o := z 1 _ rfl
 rw [a6b _ _ 1 (by omega)] at o
 replace o := si_ (o.symm.trans t)
 injection o with hva_ hvn_ hvc_
 rw [hva_] at q
 rw [hvc_] at p
 have M := am_ (show Kd.V k56 56 _ w.heap.size _ _ ((a2a l0 a).f1) from Kd.V_mk p q)
 clear hva_ hvn_ hvc_ q p z T
 have aa := am_ v
 have ab := am_ u
 clear v u
 replace x := eq_true x
 replace y := eq_true y
 have ea_ := si_ (n.symm.trans t)
 injection ea_ with ea_ en_ ec_
 subst ea_
 subst ec_
 clear en_
 go_wp2
 go_ret2
 exact ⟨_,qx_,by (with_reducible repeat (first | apply Kd.V_alloc | apply Kd.V_drewN | apply Kd.V_drew));exact M.out,qb_⟩
end Go.Proofs.Ytheibjkjmkanoaa.Px
/- Contracts of Go functions, written by a program of this session's own (wip/tools/myprint.py) out of the translation: each Go function does what the Lean function of its name says. Conditions: as each theorem states. -/
namespace Go.Proofs.Ytheibjkjmkanoaa.Px
open Go.Proofs.Ytheibjkjmkanoaa.Given
open Go.RowKit Go.Proofs.YtheibjkjmkanoaaW.PrintWords Go.Proofs.YtheibjkjmkanoaaW.PrintLast Go.Proofs.YtheibjkjmkanoaaW.PrintMore
attribute [local go_sem] a3r a3s a4e a4f a3k a3l a3t a3u
set_option linter.unusedVariables false
set_option linter.unusedSimpArgs false
mutual
def a0p.l0 : Nat → List Int → Int → Int → Int → Option (Bool)
 | 0,_,_,_,_ => none
 | k + 1,x0,x1,x2,x7 => if x7 < (x0.length : Int) then (if 0 ≤ x7 then (if (rd x0 x7) < x1 then (a0p.j1 k x0 x1 x2 x7 true) else (if (rd x0 x7) > x2 then (a0p.j1 k x0 x1 x2 x7 true) else (if x7 > 0 then (if 0 ≤ (wrap64 (x7 - 1)) then (if (wrap64 (x7 - 1)) < (x0.length : Int) then (a0p.j1 k x0 x1 x2 x7 (decide ((rd x0 x7) ≤ (rd x0 (wrap64 (x7 - 1)))))) else (none)) else (none)) else (a0p.j1 k x0 x1 x2 x7 false)))) else (none)) else (some true)
def a0p.j1 : Nat → List Int → Int → Int → Int → Bool → Option (Bool)
 | 0,_,_,_,_,_ => none
 | k + 1,x0,x1,x2,x7,a => if a = true then (some false) else (a0p.l0 k x0 x1 x2 (wrap64 (x7 + 1)))
end
def a0p.f (k : Nat) (l0 : List Int) (a1 a2 : Int) : Option (Bool) := a0p.l0 k l0 a1 a2 0
theorem a0p.a1t : ∀ k,(∀ y0 y1 y2 y3,LeO (a0p.l0 k y0 y1 y2 y3) (a0p.l0 (k + 1) y0 y1 y2 y3)) ∧ (∀ y0 y1 y2 y3 y4,LeO (a0p.j1 k y0 y1 y2 y3 y4) (a0p.j1 (k + 1) y0 y1 y2 y3 y4))
 | 0 => ⟨fun _ _ _ _ r h => by simp [a0p.l0] at h,fun _ _ _ _ _ r h => by simp [a0p.j1] at h⟩
 | k + 1 => by
  obtain ⟨a,b⟩ := a0p.a1t k
  refine ⟨?_,?_⟩ <;> intros <;> (first | unfold a0p.l0 | unfold a0p.j1) <;> with_reducible (repeat' first | apply a | apply b | apply LeO.refl | apply LeO.none | apply LeO.ite | refine LeO.bind ?_ (fun _ => ?_))
theorem a0p.mono : ∀ a0 a1 a2 k,LeO (a0p.f k a0 a1 a2) (a0p.f (k + 1) a0 a1 a2) := by
 intro a0 a1 a2 k
 obtain ⟨a,b⟩ := a0p.a1t k
 unfold a0p.f
 with_reducible (repeat' first | apply a | apply b | apply LeO.refl | apply LeO.none | apply LeO.ite | refine LeO.bind ?_ (fun _ => ?_))
set_option maxHeartbeats 8000000 in
set_option maxRecDepth 100000 in
theorem a0p.calls (k : Nat) (A0 : Option Addr) (c0 : Nat) (l0 : List Int) (a1 a2 : Int) (r : Bool) (w : World) (U : Kd.C (Kd.int .i64) w A0 l0.length l0) (W : l0.length ≤ c0) (h : a0p.f k l0 a1 a2 = some r) :
  Calls Try.prog 35 #[.slice A0 l0.length c0, .int .i64 a1, .int .i64 a2] w fun e w' => e = .returned (.bool r) ∧ a3v w w' := by
 have n := am_ U
 have a6 := am_ W
 clear U W
 have H : (a0p.l0 k l0 a1 a2 0) = some r := h
 clear h
 have H' := am_ H
 clear H
 go_enter Try.func35,Try.ntmps35
 go_wp2
 repeat (go_quiet (fail);try go_wp2)
 go_loopg [7] k (fun kq v7 w' => ∃ (a : Int),v7 = .int .i64 a ∧ Aside0 (a0p.l0 kq l0 a1 a2 a = some r) ∧ Aside0 (kq ≤ k) ∧ a3v w w')
 case atStart => exact ⟨(0),qs_,H',⟨Nat.le_refl _⟩,qy_⟩
 case round =>
 clear H'
 obtain ⟨a,rfl,HA,u,⟨m1,rfl⟩⟩ := hrel
 cases gk with
 | zero => exact absurd HA.out (by simp [a0p.l0])
 | succ k1 =>
 have H := HA.out
 clear HA
 simp only [a0p.l0] at H
 by_cases c4 : a < (l0.length : Int)
 rotate_left
 ·rw [if_neg c4] at H
  have G : decide (a < (l0.length : Int)) = false := decide_eq_false c4
  clear c4
  obtain rfl := si_ H
  go_wp2
  repeat (go_quiet (fail);try go_wp2)
  go_ret
  exact ⟨qs_,qy_⟩
 rw [if_pos c4] at H
 have G : decide (a < (l0.length : Int)) = true := decide_eq_true c4
 clear c4
 have I := am_ H
 clear H
 go_upto_region 4 with (fail)
 repeat (go_quiet (fail);go_upto_region 4 with (fail))
 go_cut [43] (fun a4 wc => ∃ (kq : Nat) (s : Bool),a4 = .bool s ∧ Aside0 (a0p.j1 kq l0 a1 a2 a s = some r) ∧ Aside0 (kq ≤ k1) ∧ a3v w wc)
 case first =>
  have H := I.out
  clear I
  obtain ⟨A,H⟩ := qid_ H
  (first | rw [A] | (simp only [a4m,a4v];rw [A]) | skip)
  by_cases c7 : (rd l0 a) < a1
  ·rw [if_pos c7] at H
   have J : decide ((rd l0 a) < a1) = true := decide_eq_true c7
   clear c7
   have H' := am_ H
   clear H
   have b : 0 ≤ (a : Int) := ot_
   have c : a < (l0.length : Int) := ot_
   obtain ⟨i,l,j⟩ := Kd.a4q n.out a b c
   cases l
   replace b := eq_true b
   replace c := eq_true c
   go_wp2
   repeat (go_quiet (fail);try go_wp2)
   go_meet
   case rel => exact ⟨_,(true),qs_,H',⟨by have := u.out;first | omega | exact Nat.le_refl _⟩,qy_⟩
  rw [if_neg c7] at H
  have J : decide ((rd l0 a) < a1) = false := decide_eq_false c7
  clear c7
  by_cases c8 : (rd l0 a) > a2
  ·rw [if_pos c8] at H
   have K : decide (a2 < (rd l0 a)) = true := decide_eq_true c8
   clear c8
   have H' := am_ H
   clear H
   have b : 0 ≤ (a : Int) := ot_
   have c : a < (l0.length : Int) := ot_
   obtain ⟨i,l,j⟩ := Kd.a4q n.out a b c
   cases l
   replace b := eq_true b
   replace c := eq_true c
   have d : 0 ≤ (a : Int) := ot_
   have g : a < (l0.length : Int) := ot_
   obtain ⟨o,t,q⟩ := Kd.a4q n.out a d g
   obtain rfl : i = o := (by injection t)
   replace d := eq_true d
   replace g := eq_true g
   go_wp2
   repeat (go_quiet (fail);try go_wp2)
   go_meet
   case rel => exact ⟨_,(true),qs_,H',⟨by have := u.out;first | omega | exact Nat.le_refl _⟩,qy_⟩
  rw [if_neg c8] at H
  have K : decide (a2 < (rd l0 a)) = false := decide_eq_false c8
  clear c8
  by_cases c9 : a > 0
  rotate_left
  ·rw [if_neg c9] at H
   have L : decide (0 < a) = false := decide_eq_false c9
   clear c9
   have H' := am_ H
   clear H
   have b : 0 ≤ (a : Int) := ot_
   have c : a < (l0.length : Int) := ot_
   obtain ⟨i,l,j⟩ := Kd.a4q n.out a b c
   cases l
   replace b := eq_true b
   replace c := eq_true c
   have d : 0 ≤ (a : Int) := ot_
   have g : a < (l0.length : Int) := ot_
   obtain ⟨o,t,q⟩ := Kd.a4q n.out a d g
   obtain rfl : i = o := (by injection t)
   replace d := eq_true d
   replace g := eq_true g
   go_wp2
   repeat (go_quiet (fail);try go_wp2)
   go_meet
   case rel => exact ⟨_,(false),qs_,H',⟨by have := u.out;first | omega | exact Nat.le_refl _⟩,qy_⟩
  rw [if_pos c9] at H
  have L : decide (0 < a) = true := decide_eq_true c9
  clear c9
  obtain ⟨m,p⟩ : ∃ j_ : Int,(wrap64 (a - 1)) = j_ := ⟨_,rfl⟩
  replace H : (if 0 ≤ (m) then (if (m) < (l0.length : Int) then (a0p.j1 k1 l0 a1 a2 a (decide ((rd l0 a) ≤ (rd l0 (m))))) else (none)) else (none)) = some r := by first | (rw [p] at H;exact H) | (simp only [p] at H ⊢;exact H)
  have hji10w : (IntKind.i64.wrap (a - 1)) = m := (a4m _).trans p
  obtain ⟨M,H⟩ := qid_ H
  obtain ⟨O,H⟩ := qid_ H
  have H' := am_ H
  clear H
  have b : 0 ≤ (a : Int) := ot_
  have c : a < (l0.length : Int) := ot_
  obtain ⟨i,l,j⟩ := Kd.a4q n.out a b c
  cases l
  replace b := eq_true b
  replace c := eq_true c
  have d : 0 ≤ (a : Int) := ot_
  have g : a < (l0.length : Int) := ot_
  obtain ⟨o,t,q⟩ := Kd.a4q n.out a d g
  obtain rfl : i = o := (by injection t)
  replace d := eq_true d
  replace g := eq_true g
  have v : 0 ≤ (a : Int) := ot_
  have x : a < (l0.length : Int) := ot_
  obtain ⟨P,a0,D⟩ := Kd.a4q n.out a v x
  obtain rfl : i = P := (by injection a0)
  replace v := eq_true v
  replace x := eq_true x
  have y : 0 ≤ ((m) : Int) := ot_
  have z : (m) < (l0.length : Int) := ot_
  obtain ⟨T,a3,E⟩ := Kd.a4q n.out (m) y z
  obtain rfl : i = T := (by injection a3)
  replace y := eq_true y
  replace z := eq_true z
  go_wp2
  repeat (go_quiet (fail);try go_wp2)
  try subst p
  go_meet
  case rel => exact ⟨_,(decide ((rd l0 a) ≤ (rd l0 ((wrap64 (a - 1)))))),(by first | rfl | (simp;done) | (simp only [← p] <;> (first | rfl | simp)) | (simp [*];done)),H',⟨by have := u.out;first | omega | exact Nat.le_refl _⟩,qy_⟩
 case rest =>
 clear I
 try clear G
 try clear A
 try clear J
 try clear K
 try clear L
 try clear M
 try clear O
 try clear j
 try clear q
 try clear D
 try clear E
 try clear b
 try clear d
 try clear v
 try clear y
 try clear c
 try clear g
 try clear x
 try clear z
 obtain ⟨kq,s,rfl,HA,X,⟨a7,rfl⟩⟩ := hcut
 cases kq with
 | zero => exact absurd HA.out (by simp [a0p.j1])
 | succ a5 =>
 have H := HA.out
 clear HA
 simp only [a0p.j1] at H
 by_cases B : s = true
 ·subst B
  replace H := qip_ H
  obtain rfl := si_ H
  go_wp2
  repeat (go_quiet (fail);try go_wp2)
  go_ret
  exact ⟨qs_,qy_⟩
 replace B := be_ B
 subst B
 replace H := qin_ H
 have H' := am_ H
 clear H
 go_wp2
 repeat (go_quiet (fail);try go_wp2)
 go_roundg a5
 case measure => have := u.out;have := X.out;omega
 case rel => exact ⟨(wrap64 (a + 1)),qs_,H',⟨by have := u.out;have := X.out;omega⟩,qy_⟩
def a1m.l0 : Nat → List (S51) → Int → Int → Int → Option (Int)
 | 0,_,_,_,_ => none
 | k + 1,x0,x1,x2,x7 => if x7 < x1 then (if 0 ≤ x7 then (if x7 < (x0.length : Int) then (if ((a0a x0 x7).f0) = x2 then (some x7) else (a1m.l0 k x0 x1 x2 (wrap64 (x7 + 1)))) else (none)) else (none)) else (some (-1))
def a1m.f (k : Nat) (l0 : List (S51)) (a1 a2 : Int) : Option (Int) := a1m.l0 k l0 a1 a2 0
theorem a1m.a1t : ∀ k,(∀ y0 y1 y2 y3,LeO (a1m.l0 k y0 y1 y2 y3) (a1m.l0 (k + 1) y0 y1 y2 y3))
 | 0 => fun _ _ _ _ r h => by simp [a1m.l0] at h
 | k + 1 => by
  have a := a1m.a1t k
  intro y0 y1 y2 y3
  unfold a1m.l0
  with_reducible (repeat' first | apply a | apply LeO.refl | apply LeO.none | apply LeO.ite | refine LeO.bind ?_ (fun _ => ?_))
theorem a1m.mono : ∀ a0 a1 a2 k,LeO (a1m.f k a0 a1 a2) (a1m.f (k + 1) a0 a1 a2) := by
 intro a0 a1 a2 k
 have a := a1m.a1t k
 unfold a1m.f
 with_reducible (repeat' first | apply a | apply LeO.refl | apply LeO.none | apply LeO.ite | refine LeO.bind ?_ (fun _ => ?_))
set_option maxHeartbeats 8000000 in
set_option maxRecDepth 100000 in
theorem a1m.calls (k : Nat) (A0 : Option Addr) (c0 : Nat) (l0 : List (S51)) (a1 a2 r : Int) (w : World) (D : Kd.C k51 w A0 l0.length l0) (E : l0.length ≤ c0) (h : a1m.f k l0 a1 a2 = some r) :
  Calls Try.prog 36 #[.slice A0 l0.length c0, .int .i64 a1, .int .i64 a2] w fun e w' => e = .returned (.int .i64 r) ∧ a3v w w' := by
 have G := am_ D
 have P := am_ E
 clear D E
 have H : (a1m.l0 k l0 a1 a2 0) = some r := h
 clear h
 have H' := am_ H
 clear H
 go_enter Try.func36,Try.ntmps36
 go_wp2
 go_loopg [7] k (fun kq v7 w' => ∃ (a : Int),v7 = .int .i64 a ∧ Aside0 (a1m.l0 kq l0 a1 a2 a = some r) ∧ Aside0 (kq ≤ k) ∧ a3v w w')
 case atStart => exact ⟨(0),qs_,H',⟨Nat.le_refl _⟩,qy_⟩
 case round =>
 clear H'
 obtain ⟨a,rfl,HA,I,⟨m1,rfl⟩⟩ := hrel
 cases gk with
 | zero => exact absurd HA.out (by simp [a1m.l0])
 | succ k1 =>
 have H := HA.out
 clear HA
 simp only [a1m.l0] at H
 by_cases c4 : a < a1
 rotate_left
 ·rw [if_neg c4] at H
  have J : decide (a < a1) = false := decide_eq_false c4
  clear c4
  obtain rfl := si_ H
  go_wp2
  go_ret
  exact ⟨qs_,qy_⟩
 rw [if_pos c4] at H
 have J : decide (a < a1) = true := decide_eq_true c4
 clear c4
 obtain ⟨M,H⟩ := qid_ H
 obtain ⟨O,H⟩ := qid_ H
 by_cases c7 : ((a0a l0 a).f0) = a2
 ·rw [if_pos c7] at H
  have K : (((a0a l0 a).f0) == a2) = true := beq_iff_eq.mpr c7
  have L : (((a0a l0 a).f0) != a2) = false := bne_eq_false_iff_eq.mpr c7
  clear c7
  obtain rfl := si_ H
  have i : 0 ≤ (a : Int) := ot_
  have j : a < (l0.length : Int) := ot_
  obtain ⟨B,x,y,z,A,l,m,n,o,p,q,b,c,d,g⟩ := a4i G.out a i j
  cases l
  have s := am_ c
  have t := am_ b
  clear c b
  have u := am_ g
  have v := am_ d
  clear g d
  replace i := eq_true i
  replace j := eq_true j
  go_wp2
  go_ret
  exact ⟨qs_,qy_⟩
 rw [if_neg c7] at H
 have K : (((a0a l0 a).f0) == a2) = false := beq_eq_false_iff_ne.mpr c7
 have L : (((a0a l0 a).f0) != a2) = true := bne_iff_ne.mpr c7
 have H' := am_ H
 clear H
 have i : 0 ≤ (a : Int) := ot_
 have j : a < (l0.length : Int) := ot_
 obtain ⟨B,x,y,z,A,l,m,n,o,p,q,b,c,d,g⟩ := a4i G.out a i j
 cases l
 have s := am_ c
 have t := am_ b
 clear c b
 have u := am_ g
 have v := am_ d
 clear g d
 replace i := eq_true i
 replace j := eq_true j
 go_wp2
 go_roundg k1
 case measure => have := I.out;omega
 case rel => exact ⟨(wrap64 (a + 1)),qs_,H',⟨by have := I.out;omega⟩,qy_⟩
end Go.Proofs.Ytheibjkjmkanoaa.Px
