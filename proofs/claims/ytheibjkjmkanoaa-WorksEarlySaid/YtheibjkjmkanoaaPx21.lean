/- Contracts of Go functions, printed. Conditions: as each theorem states. -/
import Derived.Test.YtheibjkjmkanoaaPx0
namespace Go.Proofs.Ytheibjkjmkanoaa.Px
open Go.Proofs.Ytheibjkjmkanoaa.Given
open Go.RowKit Go.Proofs.YtheibjkjmkanoaaW.PrintWords Go.Proofs.YtheibjkjmkanoaaW.PrintLast Go.Proofs.YtheibjkjmkanoaaW.PrintMore
attribute [local go_sem] a3m a3n a3x a3y a3e a3f a3o a3p
set_option linter.unusedVariables false
set_option linter.unusedSimpArgs false
mutual
def a0o.j0 : Nat → List (S51) → List (S58) → Bool → Option (Bool)
 | 0,_,_,_ => none
 | k + 1,x0,x1,a => if a = true then (some false) else (a0o.l0 k x0 x1 0)
def a0o.l0 : Nat → List (S51) → List (S58) → Int → Option (Bool)
 | 0,_,_,_ => none
 | k + 1,x0,x1,x5 => if x5 < (x0.length : Int) then (if 0 ≤ x5 then (if (((a0a x0 x5).f3).length : Int) > 20 then (some false) else (if (((a0a x0 x5).f4).length : Int) > 20 then (some false) else (a0o.l0 k x0 x1 (wrap64 (x5 + 1))))) else (none)) else (a0o.l1 k x1 0)
def a0o.l1 : Nat → List (S58) → Int → Option (Bool)
 | 0,_,_ => none
 | k + 1,x1,x6 => if x6 < (x1.length : Int) then (if 0 ≤ x6 then (if (((a1l x1 x6).f1).length : Int) > 20 then (some false) else (a0o.l1 k x1 (wrap64 (x6 + 1)))) else (none)) else (some true)
end
def a0o.f (k : Nat) (l0 : List (S51)) (l1 : List (S58)) : Option (Bool) := if (l0.length : Int) > 12 then (a0o.j0 k l0 l1 true) else (a0o.j0 k l0 l1 (decide ((l1.length : Int) > 25)))
theorem a0o.a1h : ∀ k,(∀ y0 y1 y2,LeO (a0o.j0 k y0 y1 y2) (a0o.j0 (k + 1) y0 y1 y2)) ∧ (∀ y0 y1 y2,LeO (a0o.l0 k y0 y1 y2) (a0o.l0 (k + 1) y0 y1 y2)) ∧ (∀ y0 y1,LeO (a0o.l1 k y0 y1) (a0o.l1 (k + 1) y0 y1))
 | 0 => ⟨fun _ _ _ r h => by simp [a0o.j0] at h,fun _ _ _ r h => by simp [a0o.l0] at h,fun _ _ r h => by simp [a0o.l1] at h⟩
 | k + 1 => by
  obtain ⟨a,b,c⟩ := a0o.a1h k
  refine ⟨?_,?_,?_⟩ <;> intros <;> (first | unfold a0o.j0 | unfold a0o.l0 | unfold a0o.l1) <;> with_reducible (repeat' first | apply a | apply b | apply c | apply LeO.refl | apply LeO.none | apply LeO.ite | refine LeO.bind ?_ (fun _ => ?_))
theorem a0o.mono : ∀ a0 a1 k,LeO (a0o.f k a0 a1) (a0o.f (k + 1) a0 a1) := by
 intro a0 a1 k
 obtain ⟨a,b,c⟩ := a0o.a1h k
 unfold a0o.f
 with_reducible (repeat' first | apply a | apply b | apply c | apply LeO.refl | apply LeO.none | apply LeO.ite | refine LeO.bind ?_ (fun _ => ?_))
set_option maxHeartbeats 8000000 in
set_option maxRecDepth 100000 in
theorem a0o.calls (k : Nat) (A0 : Option Addr) (c0 : Nat) (l0 : List (S51)) (A1 : Option Addr) (c1 : Nat) (l1 : List (S58)) (r : Bool) (w : World) (ay : Kd.C k51 w A0 l0.length l0) (az : l0.length ≤ c0) (aA : Kd.C k58 w A1 l1.length l1) (aB : l1.length ≤ c1) (h : a0o.f k l0 l1 = some r) :
  Calls Try.prog 11 #[.slice A0 l0.length c0, .slice A1 l1.length c1] w fun e w' => e = .returned (.bool r) ∧ a3u w w' := by
 have a0 := am_ ay
 have aM := am_ az
 clear ay az
 have aC := am_ aA
 have aN := am_ aB
 clear aA aB
 have H : (if (l0.length : Int) > 12 then (a0o.j0 k l0 l1 true) else (a0o.j0 k l0 l1 (decide ((l1.length : Int) > 25)))) = some r := h
 clear h
 have ak := am_ H
 clear H
 go_enter Try.func11,Try.ntmps11
 go_upto_region 1 with (fail)
 go_cut [14] (fun aJ wc => ∃ (kq : Nat) (E : Bool),aJ = .bool E ∧ Aside0 (a0o.j0 kq l0 l1 E = some r) ∧ Aside0 (kq ≤ k) ∧ a3u w wc)
 case first =>
  have H := ak.out
  clear ak
  by_cases c4 : (l0.length : Int) > 12
  ·rw [if_pos c4] at H
   have t : decide (12 < (l0.length : Int)) = true := decide_eq_true c4
   have Y : decide (12 < l0.length) = true := decide_eq_true (by omega)
   clear c4
   (first | rw [t] | (simp only [a4j,a4v];rw [t]) | skip)
   have H' := am_ H
   clear H
   go_wp2
   go_meet
   case rel => exact ⟨_,(true),qs_,H',⟨qo_⟩,qy_⟩
  rw [if_neg c4] at H
  have t : decide (12 < (l0.length : Int)) = false := decide_eq_false c4
  have Y : decide (12 < l0.length) = false := decide_eq_false (by omega)
  clear c4
  (first | rw [t] | (simp only [a4j,a4v];rw [t]) | skip)
  have H' := am_ H
  clear H
  go_wp2
  go_meet
  case rel => exact ⟨_,(decide ((l1.length : Int) > 25)),qs_,H',⟨qo_⟩,qy_⟩
 case rest =>
 clear ak
 try clear c1
 try clear t
 try clear Y
 obtain ⟨kq,E,rfl,HA,a7,⟨aO,rfl⟩⟩ := hcut
 cases kq with
 | zero => exact absurd HA.out (by simp [a0o.j0])
 | succ aD =>
 have H := HA.out
 clear HA
 simp only [a0o.j0] at H
 by_cases c5 : E = true
 ·subst c5
  replace H := qip_ H
  obtain rfl := si_ H
  go_wp2
  go_ret
  exact ⟨qs_,qy_⟩
 replace c5 := be_ c5
 subst c5
 replace H := qin_ H
 have H' := am_ H
 clear H
 go_wp2
 go_loopg [5] aD (fun kq v5 w' => ∃ (a : Int),v5 = .int .i64 a ∧ Aside0 (a0o.l0 kq l0 l1 a = some r) ∧ Aside0 (kq ≤ aD) ∧ a3u w w')
 case atStart => exact ⟨(0),qs_,H',⟨Nat.le_refl _⟩,qy_⟩
 case round =>
 clear H'
 try clear c1
 try clear t
 try clear Y
 try clear c5
 obtain ⟨a,rfl,HA,a8,⟨m2,rfl⟩⟩ := hrel
 cases gk with
 | zero => exact absurd HA.out (by simp [a0o.l0])
 | succ k2 =>
 have H := HA.out
 clear HA
 simp only [a0o.l0] at H
 by_cases c6 : a < (l0.length : Int)
 rotate_left
 ·rw [if_neg c6] at H
  have al : decide (a < (l0.length : Int)) = false := decide_eq_false c6
  clear c6
  have H' := am_ H
  clear H
  go_wp2
  go_loopg [6] k2 (fun kq v6 w' => ∃ (b : Int),v6 = .int .i64 b ∧ Aside0 (a0o.l1 kq l1 b = some r) ∧ Aside0 (kq ≤ k2) ∧ a3u w w')
  case atStart => exact ⟨(0),qs_,H',⟨Nat.le_refl _⟩,qy_⟩
  case round =>
  clear H'
  try clear c1
  try clear t
  try clear Y
  try clear c5
  try clear al
  obtain ⟨b,rfl,HA,aE,⟨m3,rfl⟩⟩ := hrel
  cases gk with
  | zero => exact absurd HA.out (by simp [a0o.l1])
  | succ k3 =>
  have H := HA.out
  clear HA
  simp only [a0o.l1] at H
  by_cases c10 : b < (l1.length : Int)
  rotate_left
  ·rw [if_neg c10] at H
   have au : decide (b < (l1.length : Int)) = false := decide_eq_false c10
   clear c10
   obtain rfl := si_ H
   go_wp2
   go_ret
   exact ⟨qs_,qy_⟩
  rw [if_pos c10] at H
  have au : decide (b < (l1.length : Int)) = true := decide_eq_true c10
  clear c10
  obtain ⟨aK,H⟩ := qid_ H
  by_cases K : (((a1l l1 b).f1).length : Int) > 20
  ·rw [if_pos K] at H
   have av : decide (20 < (((a1l l1 b).f1).length : Int)) = true := decide_eq_true K
   have aw : decide (20 < ((a1l l1 b).f1).length) = true := decide_eq_true (by omega)
   clear K
   obtain rfl := si_ H
   have x : 0 ≤ (b : Int) := ot_
   have y : b < (l1.length : Int) := ot_
   obtain ⟨ax,am,an,a5,a9,aa,m,n⟩ := a6u aC.out b x y
   cases a5
   have ab := am_ n
   have ac := am_ m
   clear n m
   replace x := eq_true x
   replace y := eq_true y
   go_wp2
   go_ret
   exact ⟨qs_,qy_⟩
  rw [if_neg K] at H
  have av : decide (20 < (((a1l l1 b).f1).length : Int)) = false := decide_eq_false K
  have aw : decide (20 < ((a1l l1 b).f1).length) = false := decide_eq_false (by omega)
  clear K
  have H' := am_ H
  clear H
  have x : 0 ≤ (b : Int) := ot_
  have y : b < (l1.length : Int) := ot_
  obtain ⟨ax,am,an,a5,a9,aa,m,n⟩ := a6u aC.out b x y
  cases a5
  have ab := am_ n
  have ac := am_ m
  clear n m
  replace x := eq_true x
  replace y := eq_true y
  go_wp2
  go_roundg k3
  case measure => have := a7.out;have := a8.out;have := aE.out;omega
  case rel => exact ⟨(wrap64 (b + 1)),qs_,H',⟨by have := a7.out;have := a8.out;have := aE.out;omega⟩,qy_⟩
 rw [if_pos c6] at H
 have al : decide (a < (l0.length : Int)) = true := decide_eq_true c6
 clear c6
 obtain ⟨aL,H⟩ := qid_ H
 by_cases c8 : (((a0a l0 a).f3).length : Int) > 20
 ·rw [if_pos c8] at H
  have aF : decide (20 < (((a0a l0 a).f3).length : Int)) = true := decide_eq_true c8
  have aG : decide (20 < ((a0a l0 a).f3).length) = true := decide_eq_true (by omega)
  clear c8
  obtain rfl := si_ H
  have j : 0 ≤ (a : Int) := ot_
  have l : a < (l0.length : Int) := ot_
  obtain ⟨G,a1,a2,a3,a4,J,L,M,O,u,v,c,d,g,i⟩ := a5j a0.out a j l
  cases J
  have P := am_ d
  have T := am_ c
  clear d c
  have W := am_ i
  have X := am_ g
  clear i g
  replace j := eq_true j
  replace l := eq_true l
  go_wp2
  go_ret
  exact ⟨qs_,qy_⟩
 rw [if_neg c8] at H
 have aF : decide (20 < (((a0a l0 a).f3).length : Int)) = false := decide_eq_false c8
 have aG : decide (20 < ((a0a l0 a).f3).length) = false := decide_eq_false (by omega)
 clear c8
 by_cases c9 : (((a0a l0 a).f4).length : Int) > 20
 ·rw [if_pos c9] at H
  have aH : decide (20 < (((a0a l0 a).f4).length : Int)) = true := decide_eq_true c9
  have aI : decide (20 < ((a0a l0 a).f4).length) = true := decide_eq_true (by omega)
  clear c9
  obtain rfl := si_ H
  have j : 0 ≤ (a : Int) := ot_
  have l : a < (l0.length : Int) := ot_
  obtain ⟨G,a1,a2,a3,a4,J,L,M,O,u,v,c,d,g,i⟩ := a5j a0.out a j l
  cases J
  have P := am_ d
  have T := am_ c
  clear d c
  have W := am_ i
  have X := am_ g
  clear i g
  replace j := eq_true j
  replace l := eq_true l
  have z : 0 ≤ (a : Int) := ot_
  have A : a < (l0.length : Int) := ot_
  obtain ⟨Z,ao,ap,aq,ar,a6,ad,ae,af,B,D,o,p,q,s⟩ := a5j a0.out a z A
  obtain rfl : G = Z := (by injection a6)
  have ag := am_ p
  have ah := am_ o
  clear p o
  have ai := am_ s
  have aj := am_ q
  clear s q
  replace z := eq_true z
  replace A := eq_true A
  have ea_ := si_ (u.symm.trans B)
  injection ea_ with ea_ en_ ec_
  subst ea_
  subst ec_
  clear en_
  have ea_ := si_ (v.symm.trans D)
  injection ea_ with ea_ en_ ec_
  subst ea_
  subst ec_
  clear en_
  go_wp2
  go_ret
  exact ⟨qs_,qy_⟩
 rw [if_neg c9] at H
 have aH : decide (20 < (((a0a l0 a).f4).length : Int)) = false := decide_eq_false c9
 have aI : decide (20 < ((a0a l0 a).f4).length) = false := decide_eq_false (by omega)
 clear c9
 have H' := am_ H
 clear H
 have j : 0 ≤ (a : Int) := ot_
 have l : a < (l0.length : Int) := ot_
 obtain ⟨G,a1,a2,a3,a4,J,L,M,O,u,v,c,d,g,i⟩ := a5j a0.out a j l
 cases J
 have P := am_ d
 have T := am_ c
 clear d c
 have W := am_ i
 have X := am_ g
 clear i g
 replace j := eq_true j
 replace l := eq_true l
 have z : 0 ≤ (a : Int) := ot_
 have A : a < (l0.length : Int) := ot_
 obtain ⟨Z,ao,ap,aq,ar,a6,ad,ae,af,B,D,o,p,q,s⟩ := a5j a0.out a z A
 obtain rfl : G = Z := (by injection a6)
 have ag := am_ p
 have ah := am_ o
 clear p o
 have ai := am_ s
 have aj := am_ q
 clear s q
 replace z := eq_true z
 replace A := eq_true A
 have ea_ := si_ (u.symm.trans B)
 injection ea_ with ea_ en_ ec_
 subst ea_
 subst ec_
 clear en_
 have ea_ := si_ (v.symm.trans D)
 injection ea_ with ea_ en_ ec_
 subst ea_
 subst ec_
 clear en_
 go_wp2
 go_roundg k2
 case measure => have := a7.out;have := a8.out;omega
 case rel => exact ⟨(wrap64 (a + 1)),qs_,H',⟨by have := a7.out;have := a8.out;omega⟩,qy_⟩
def a4a.f (a b : Int) : Option (Bool) := if a ≥ 0 then (if a < b then (some (decide (b ≤ 36525))) else (some false)) else (some false)
set_option maxHeartbeats 8000000 in
set_option maxRecDepth 100000 in
theorem a4a.calls (a c : Int) (r : Bool) (w : World) (h : a4a.f a c = some r) :
  Calls Try.prog 51 #[.agg #[.int .i64 a, .int .i64 c]] w fun e w' => e = .returned (.bool r) ∧ Below w.heap.size w w' := by
 have z := Try.underlying56
 have HB := am_ (Below.refl w.heap.size w)
 have H : (if a ≥ 0 then (if a < c then (some (decide (c ≤ 36525))) else (some false)) else (some false)) = some r := h
 clear h
 by_cases c2 : a ≥ 0
 rotate_left
 ·rw [if_neg c2] at H
  have j : decide (0 ≤ a) = false := decide_eq_false c2
  clear c2
  obtain rfl := si_ H
  go_enter Try.func51,Try.ntmps51
  go_wp2_with (first | ((with_reducible refine a0t (N := 1) rfl ?_);refine qev_ 1 #[.int .i64 a, .int .i64 c] 56 ?_;intro d hg w8 hbox hb;have b := am_ (hbox);have g := qga_ hg;have i := qga_ hg;replace HB := qbs_ hb;clear hb hbox hg;obtain ⟨l,m⟩ := qz2_ b;obtain ⟨n,o⟩ := qf2_ b))
  go_ret
  exact ⟨qx_,qb_⟩
 rw [if_pos c2] at H
 have j : decide (0 ≤ a) = true := decide_eq_true c2
 clear c2
 by_cases c3 : a < c
 rotate_left
 ·rw [if_neg c3] at H
  have k : decide (a < c) = false := decide_eq_false c3
  clear c3
  obtain rfl := si_ H
  go_enter Try.func51,Try.ntmps51
  go_wp2_with (first | ((with_reducible refine a0t (N := 1) rfl ?_);refine qev_ 1 #[.int .i64 a, .int .i64 c] 56 ?_;intro d hg w6 hbox hb;have b := am_ (hbox);have g := qga_ hg;have i := qga_ hg;replace HB := qbs_ hb;clear hb hbox hg;obtain ⟨p,q⟩ := qz2_ b;obtain ⟨s,t⟩ := qf2_ b))
  go_ret
  exact ⟨qx_,qb_⟩
 rw [if_pos c3] at H
 have k : decide (a < c) = true := decide_eq_true c3
 clear c3
 obtain rfl := si_ H
 go_enter Try.func51,Try.ntmps51
 go_wp2_with (first | ((with_reducible refine a0t (N := 1) rfl ?_);refine qev_ 1 #[.int .i64 a, .int .i64 c] 56 ?_;intro d hg w4 hbox hb;have b := am_ (hbox);have g := qga_ hg;have i := qga_ hg;replace HB := qbs_ hb;clear hb hbox hg;obtain ⟨u,v⟩ := qz2_ b;obtain ⟨x,y⟩ := qf2_ b))
 go_ret
 exact ⟨qx_,qb_⟩
end Go.Proofs.Ytheibjkjmkanoaa.Px
