/- Contracts of Go functions, printed. Conditions: as each theorem states. -/
import Derived.Test.YtheibjkjmkanoaaPx0
import Derived.Test.YtheibjkjmkanoaaPx21
namespace Go.Proofs.Ytheibjkjmkanoaa.Px
open Go.Proofs.Ytheibjkjmkanoaa.Given
open Go.RowKit Go.Proofs.YtheibjkjmkanoaaW.PrintWords Go.Proofs.YtheibjkjmkanoaaW.PrintLast Go.Proofs.YtheibjkjmkanoaaW.PrintMore
attribute [local go_sem] a3m a3n a3x a3y a3e a3f a3o a3p
set_option linter.unusedVariables false
set_option linter.unusedSimpArgs false
mutual
def a0w.l0 : Nat → List (S56) → Int → Option (Bool)
 | 0,_,_ => none
 | k + 1,x0,x3 => if x3 < (x0.length : Int) then (if 0 ≤ x3 then ((a4a.f ((a0h x0 x3).f0) ((a0h x0 x3).f1)).bind fun a => (if a = true then (if x3 > 0 then (if 0 ≤ (wrap64 (x3 - 1)) then (if (wrap64 (x3 - 1)) < (x0.length : Int) then (a0w.j1 k x0 x3 (decide (((a0h x0 (wrap64 (x3 - 1))).f1) ≥ ((a0h x0 x3).f0)))) else (none)) else (none)) else (a0w.j1 k x0 x3 false)) else (a0w.j1 k x0 x3 true))) else (none)) else (some (decide ((x0.length : Int) ≤ 1000)))
def a0w.j1 : Nat → List (S56) → Int → Bool → Option (Bool)
 | 0,_,_,_ => none
 | k + 1,x0,x3,a => if a = true then (some false) else (a0w.l0 k x0 (wrap64 (x3 + 1)))
end
def a0w.f (k : Nat) (l0 : List (S56)) : Option (Bool) := a0w.l0 k l0 0
theorem a0w.a1h : ∀ k,(∀ y0 y1,LeO (a0w.l0 k y0 y1) (a0w.l0 (k + 1) y0 y1)) ∧ (∀ y0 y1 y2,LeO (a0w.j1 k y0 y1 y2) (a0w.j1 (k + 1) y0 y1 y2))
 | 0 => ⟨fun _ _ r h => by simp [a0w.l0] at h,fun _ _ _ r h => by simp [a0w.j1] at h⟩
 | k + 1 => by
  obtain ⟨a,b⟩ := a0w.a1h k
  refine ⟨?_,?_⟩ <;> intros <;> (first | unfold a0w.l0 | unfold a0w.j1) <;> with_reducible (repeat' first | apply a | apply b | apply LeO.refl | apply LeO.none | apply LeO.ite | refine LeO.bind ?_ (fun _ => ?_))
theorem a0w.mono : ∀ a0 k,LeO (a0w.f k a0) (a0w.f (k + 1) a0) := by
 intro a0 k
 obtain ⟨a,b⟩ := a0w.a1h k
 unfold a0w.f
 with_reducible (repeat' first | apply a | apply b | apply LeO.refl | apply LeO.none | apply LeO.ite | refine LeO.bind ?_ (fun _ => ?_))
set_option maxHeartbeats 8000000 in
set_option maxRecDepth 100000 in
theorem a0w.calls (k : Nat) (A0 : Option Addr) (c0 : Nat) (l0 : List (S56)) (r : Bool) (w : World) (M : Kd.C k56 w A0 l0.length l0) (O : l0.length ≤ c0) (h : a0w.f k l0 = some r) :
  Calls Try.prog 33 #[.slice A0 l0.length c0] w fun e w' => e = .returned (.bool r) ∧ Below w.heap.size w w' := by
 have a3 := Try.underlying56
 have B := am_ M
 have a4 := am_ O
 clear M O
 have HB := am_ (Below.refl w.heap.size w)
 have H : (a0w.l0 k l0 0) = some r := h
 clear h
 have H' := am_ H
 clear H
 go_enter Try.func33,Try.ntmps33
 go_wp2
 repeat (go_quiet (fail);try go_wp2)
 go_loopg [3] k (fun kq v3 w' => ∃ (a : Int),v3 = .int .i64 a ∧ Aside0 (a0w.l0 kq l0 a = some r) ∧ Aside0 (kq ≤ k) ∧ Aside0 (Below w.heap.size w w'))
 case atStart => exact ⟨(0),qs_,H',⟨Nat.le_refl _⟩,⟨qb_⟩⟩
 case round =>
 clear H'
 obtain ⟨a,rfl,HA,y,HB⟩ := hrel
 cases gk with
 | zero => exact absurd HA.out (by simp [a0w.l0])
 | succ k1 =>
 have H := HA.out
 clear HA
 simp only [a0w.l0] at H
 by_cases c2 : a < (l0.length : Int)
 rotate_left
 ·rw [if_neg c2] at H
  have D : decide (a < (l0.length : Int)) = false := decide_eq_false c2
  clear c2
  obtain rfl := si_ H
  go_wp2
  repeat (go_quiet (fail);try go_wp2)
  go_ret
  exact ⟨qx_,qb_⟩
 rw [if_pos c2] at H
 have D : decide (a < (l0.length : Int)) = true := decide_eq_true c2
 clear c2
 obtain ⟨X,H⟩ := qid_ H
 replace H := bm_ H
 obtain ⟨p,P,H⟩ := H
 have A4 := am_ P
 clear P
 have E := am_ H
 clear H
 have q : 0 ≤ (a : Int) := ot_
 have s : a < (l0.length : Int) := ot_
 obtain ⟨z,Y,b,c⟩ := a5k B.out a q s
 cases Y
 replace b := qh_ HB b
 replace c := qh_ HB c
 replace q := eq_true q
 replace s := eq_true s
 go_upto_region 5 with (first | (go_at_call 51;(with_reducible refine (a4a.calls ((a0h l0 a).f0) ((a0h l0 a).f1) p _ A4.out).mono ?_);rintro e w6 ⟨rfl,hb⟩;replace HB := qbs_ hb;(try clear hb);(try clear T);(try clear hk);(try clear hi)))
 repeat (go_quiet (first | (go_at_call 51;(with_reducible refine (a4a.calls ((a0h l0 a).f0) ((a0h l0 a).f1) p _ A4.out).mono ?_);rintro e w6 ⟨rfl,hb⟩;replace HB := qbs_ hb;(try clear hb);(try clear T);(try clear hk);(try clear hi)));go_upto_region 5 with (first | (go_at_call 51;(with_reducible refine (a4a.calls ((a0h l0 a).f0) ((a0h l0 a).f1) p _ A4.out).mono ?_);rintro e w6 ⟨rfl,hb⟩;replace HB := qbs_ hb;(try clear hb);(try clear T);(try clear hk);(try clear hi))))
 (try simp only [Act.put,List.setIfInBounds_toArray,List.set_cons_zero,List.set_cons_succ])
 go_cut [35] (fun a1 wc => ∃ (kq : Nat) (m : Bool),a1 = .bool m ∧ Aside0 (a0w.j1 kq l0 a m = some r) ∧ Aside0 (kq ≤ k1) ∧ Aside0 (Below w.heap.size w wc))
 case first =>
  have H := E.out
  clear E
  by_cases c7 : p = true
  rotate_left
  ·replace c7 := be_ c7
   subst c7
   replace H := qin_ H
   have H' := am_ H
   clear H
   go_wp2
   repeat (go_quiet (fail);try go_wp2)
   go_meet
   case rel => exact ⟨_,(true),qs_,H',⟨by have := y.out;first | omega | exact Nat.le_refl _⟩,⟨qb_⟩⟩
  subst c7
  replace H := qip_ H
  by_cases c8 : a > 0
  rotate_left
  ·rw [if_neg c8] at H
   have d : decide (0 < a) = false := decide_eq_false c8
   clear c8
   (first | rw [d] | (simp only [a4j,a4v];rw [d]) | skip)
   have H' := am_ H
   clear H
   go_wp2
   repeat (go_quiet (fail);try go_wp2)
   go_meet
   case rel => exact ⟨_,(false),qs_,H',⟨by have := y.out;first | omega | exact Nat.le_refl _⟩,⟨qb_⟩⟩
  rw [if_pos c8] at H
  have d : decide (0 < a) = true := decide_eq_true c8
  clear c8
  (first | rw [d] | (simp only [a4j,a4v];rw [d]) | skip)
  obtain ⟨n,o⟩ : ∃ j_ : Int,(wrap64 (a - 1)) = j_ := ⟨_,rfl⟩
  replace H : (if 0 ≤ (n) then (if (n) < (l0.length : Int) then (a0w.j1 k1 l0 a (decide (((a0h l0 (n)).f1) ≥ ((a0h l0 a).f0)))) else (none)) else (none)) = some r := by first | (rw [o] at H;exact H) | (simp only [o] at H ⊢;exact H)
  have hji9w : (IntKind.i64.wrap (a - 1)) = n := (a4j _).trans o
  obtain ⟨G,H⟩ := qid_ H
  obtain ⟨J,H⟩ := qid_ H
  have H' := am_ H
  clear H
  have t : 0 ≤ ((n) : Int) := ot_
  have u : (n) < (l0.length : Int) := ot_
  obtain ⟨K,Z,g,i⟩ := a5k B.out (n) t u
  obtain rfl : z = K := (by injection Z)
  replace g := qh_ HB g
  replace i := qh_ HB i
  replace t := eq_true t
  replace u := eq_true u
  have v : 0 ≤ (a : Int) := ot_
  have x : a < (l0.length : Int) := ot_
  obtain ⟨L,a0,j,l⟩ := a5k B.out a v x
  obtain rfl : z = L := (by injection a0)
  replace j := qh_ HB j
  replace l := qh_ HB l
  replace v := eq_true v
  replace x := eq_true x
  go_wp2
  repeat (go_quiet (fail);try go_wp2)
  try subst o
  go_meet
  case rel => exact ⟨_,(decide (((a0h l0 ((wrap64 (a - 1)))).f1) ≥ ((a0h l0 a).f0))),(by first | rfl | (simp;done) | (simp only [← o] <;> (first | rfl | simp)) | (simp [*];done)),H',⟨by have := y.out;first | omega | exact Nat.le_refl _⟩,⟨qb_⟩⟩
 case rest =>
 clear E
 try clear D
 try clear X
 try clear c7
 try clear d
 try clear G
 try clear J
 try clear b
 try clear c
 try clear g
 try clear i
 try clear j
 try clear l
 try clear q
 try clear t
 try clear v
 try clear s
 try clear u
 try clear x
 obtain ⟨kq,m,rfl,HA,W,HB⟩ := hcut
 cases kq with
 | zero => exact absurd HA.out (by simp [a0w.j1])
 | succ a2 =>
 have H := HA.out
 clear HA
 simp only [a0w.j1] at H
 by_cases A : m = true
 ·subst A
  replace H := qip_ H
  obtain rfl := si_ H
  go_wp2
  repeat (go_quiet (fail);try go_wp2)
  go_ret
  exact ⟨qx_,qb_⟩
 replace A := be_ A
 subst A
 replace H := qin_ H
 have H' := am_ H
 clear H
 go_wp2
 repeat (go_quiet (fail);try go_wp2)
 go_roundg a2
 case measure => have := y.out;have := W.out;omega
 case rel => exact ⟨(wrap64 (a + 1)),qs_,H',⟨by have := y.out;have := W.out;omega⟩,⟨qb_⟩⟩
def a1k.l0 : Nat → List (S58) → Int → Int → Option ((List (S56)) × Bool)
 | 0,_,_,_ => none
 | k + 1,x0,x1,x6 => if x6 < (x0.length : Int) then (if 0 ≤ x6 then (if ((a1l x0 x6).f0) = x1 then (some ((a1l x0 x6).f1,true)) else (a1k.l0 k x0 x1 (wrap64 (x6 + 1)))) else (none)) else (some (([] : List (S56)),false))
def a1k.f (k : Nat) (l0 : List (S58)) (a1 : Int) : Option ((List (S56)) × Bool) := a1k.l0 k l0 a1 0
theorem a1k.a1h : ∀ k,(∀ y0 y1 y2,LeO (a1k.l0 k y0 y1 y2) (a1k.l0 (k + 1) y0 y1 y2))
 | 0 => fun _ _ _ r h => by simp [a1k.l0] at h
 | k + 1 => by
  have a := a1k.a1h k
  intro y0 y1 y2
  unfold a1k.l0
  with_reducible (repeat' first | apply a | apply LeO.refl | apply LeO.none | apply LeO.ite | refine LeO.bind ?_ (fun _ => ?_))
theorem a1k.mono : ∀ a0 a1 k,LeO (a1k.f k a0 a1) (a1k.f (k + 1) a0 a1) := by
 intro a0 a1 k
 have a := a1k.a1h k
 unfold a1k.f
 with_reducible (repeat' first | apply a | apply LeO.refl | apply LeO.none | apply LeO.ite | refine LeO.bind ?_ (fun _ => ?_))
set_option maxHeartbeats 8000000 in
set_option maxRecDepth 100000 in
theorem a1k.calls (k : Nat) (B : Nat → Prop) (A0 : Option Addr) (c0 : Nat) (l0 : List (S58)) (a1 : Int) (r1 : List (S56)) (r2 : Bool) (w : World) (ac : Kd.V k58 58 w w.heap.size (fun k_ => B k_) (.slice A0 l0.length c0) l0) (h : a1k.f k l0 a1 = some (r1,r2)) :
  Calls Try.prog 34 #[.slice A0 l0.length c0, .int .i64 a1] w fun e w' => ∃ a0 : Value,e = .returned (.tuple #[a0, .bool r2]) ∧ Kd.V k56 56 w' w.heap.size (fun k_ => (B k_ ∨ w.heap.size ≤ k_)) a0 r1 ∧ Below w.heap.size w w' := by
 have ad := am_ (show Kd.V k58 58 w w.heap.size (fun k_ => (B k_ ∨ w.heap.size ≤ k_)) (.slice A0 l0.length c0) l0 from Kd.b1w ac (fun k_ hk => .inl hk))
 have HB := am_ (Below.refl w.heap.size w)
 have H : (a1k.l0 k l0 a1 0) = some (r1,r2) := h
 clear h
 have H' := am_ H
 clear H
 go_enter Try.func34,Try.ntmps34
 go_wp2
 go_loopg [6] k (fun kq v6 w' => ∃ (a : Int),v6 = .int .i64 a ∧ Aside0 (a1k.l0 kq l0 a1 a = some (r1,r2)) ∧ Aside0 (kq ≤ k) ∧ Aside0 (Kd.V k58 58 w' w.heap.size (fun k_ => (B k_ ∨ w.heap.size ≤ k_)) (.slice A0 l0.length c0) l0) ∧ Aside0 (Below w.heap.size w w'))
 case atStart => exact ⟨(0),qs_,H',⟨Nat.le_refl _⟩,⟨by (with_reducible repeat (first | apply Kd.V_alloc | apply Kd.V_drewN | apply Kd.V_drew));exact ad.out⟩,⟨qb_⟩⟩
 case round =>
 clear H'
 obtain ⟨a,rfl,HA,a2,HO_0,HB⟩ := hrel
 cases gk with
 | zero => exact absurd HA.out (by simp [a1k.l0])
 | succ k1 =>
 have H := HA.out
 clear HA
 simp only [a1k.l0] at H
 by_cases c3 : a < (l0.length : Int)
 rotate_left
 ·rw [if_neg c3] at H
  have a3 : decide (a < (l0.length : Int)) = false := decide_eq_false c3
  clear c3
  simp only [Option.some.injEq,Prod.mk.injEq] at H
  obtain ⟨rfl,rfl⟩ := H
  go_wp2
  go_ret2
  exact ⟨_,qx_,Kd.a7f _ _ _ _ _,qb_⟩
 rw [if_pos c3] at H
 have a3 : decide (a < (l0.length : Int)) = true := decide_eq_true c3
 clear c3
 obtain ⟨ah,H⟩ := qid_ H
 by_cases c5 : ((a1l l0 a).f0) = a1
 rotate_left
 ·rw [if_neg c5] at H
  have a4 : (((a1l l0 a).f0) == a1) = false := beq_eq_false_iff_ne.mpr c5
  have a5 : (((a1l l0 a).f0) != a1) = true := bne_iff_ne.mpr c5
  have H' := am_ H
  clear H
  have j : 0 ≤ (a : Int) := ot_
  have l : a < (l0.length : Int) := ot_
  obtain ⟨D,P,T,A,E,n,g,i⟩ := a6u (Kd.a7r HO_0.out).2.2 a j l
  cases A
  obtain ⟨Y,r,s,m⟩ := Kd.b6q HO_0.out z58 a j (by first | exact l | exact ot_ | (have e_ := (Kd.a7r HO_0.out).1;omega))
  obtain ⟨G,J,rfl,c,d⟩ := b0i s
  have b := m 1 _ rfl
  rw [a6a _ _ 1 (by omega)] at b
  replace b := si_ (b.symm.trans n)
  injection b with hva_ hvn_ hvc_
  rw [hva_] at d
  rw [hvc_] at c
  have K := am_ (show Kd.V k56 56 _ w.heap.size _ _ ((a1l l0 a).f1) from Kd.V_mk c d)
  clear hva_ hvn_ hvc_ d c m r
  have L := am_ i
  have M := am_ g
  clear i g
  replace j := eq_true j
  replace l := eq_true l
  go_wp2
  go_roundg k1
  case measure => have := a2.out;omega
  case rel => exact ⟨(wrap64 (a + 1)),qs_,H',⟨by have := a2.out;omega⟩,⟨by (with_reducible repeat (first | apply Kd.V_alloc | apply Kd.V_drewN | apply Kd.V_drew));exact HO_0.out⟩,⟨qb_⟩⟩
 rw [if_pos c5] at H
 have a4 : (((a1l l0 a).f0) == a1) = true := beq_iff_eq.mpr c5
 have a5 : (((a1l l0 a).f0) != a1) = false := bne_eq_false_iff_eq.mpr c5
 clear c5
 simp only [Option.some.injEq,Prod.mk.injEq] at H
 obtain ⟨rfl,rfl⟩ := H
 have j : 0 ≤ (a : Int) := ot_
 have l : a < (l0.length : Int) := ot_
 obtain ⟨D,P,T,A,E,n,g,i⟩ := a6u (Kd.a7r HO_0.out).2.2 a j l
 cases A
 obtain ⟨Y,r,s,m⟩ := Kd.b6q HO_0.out z58 a j (by first | exact l | exact ot_ | (have e_ := (Kd.a7r HO_0.out).1;omega))
 obtain ⟨G,J,rfl,c,d⟩ := b0i s
 have b := m 1 _ rfl
 rw [a6a _ _ 1 (by omega)] at b
 replace b := si_ (b.symm.trans n)
 injection b with hva_ hvn_ hvc_
 rw [hva_] at d
 rw [hvc_] at c
 have K := am_ (show Kd.V k56 56 _ w.heap.size _ _ ((a1l l0 a).f1) from Kd.V_mk c d)
 clear hva_ hvn_ hvc_ d c m r
 have L := am_ i
 have M := am_ g
 clear i g
 replace j := eq_true j
 replace l := eq_true l
 have x : 0 ≤ (a : Int) := ot_
 have y : a < (l0.length : Int) := ot_
 obtain ⟨Z,ae,af,a6,a7,t,u,v⟩ := a6u (Kd.a7r HO_0.out).2.2 a x y
 obtain rfl : D = Z := (by injection a6)
 obtain ⟨ag,W,X,z⟩ := Kd.b6q HO_0.out z58 a x (by first | exact y | exact ot_ | (have e_ := (Kd.a7r HO_0.out).1;omega))
 obtain ⟨a8,a9,rfl,p,q⟩ := b0i X
 have o := z 1 _ rfl
 rw [a6a _ _ 1 (by omega)] at o
 replace o := si_ (o.symm.trans t)
 injection o with hva_ hvn_ hvc_
 rw [hva_] at q
 rw [hvc_] at p
 have O := am_ (show Kd.V k56 56 _ w.heap.size _ _ ((a1l l0 a).f1) from Kd.V_mk p q)
 clear hva_ hvn_ hvc_ q p z W
 have aa := am_ v
 have ab := am_ u
 clear v u
 replace x := eq_true x
 replace y := eq_true y
 have ea_ := si_ (n.symm.trans t)
 injection ea_ with ea_ en_ ec_
 subst ea_
 subst ec_
 clear en_
 go_wp2
 go_ret2
 exact ⟨_,qx_,by (with_reducible repeat (first | apply Kd.V_alloc | apply Kd.V_drewN | apply Kd.V_drew));exact O.out,qb_⟩
end Go.Proofs.Ytheibjkjmkanoaa.Px
