/- Contracts of Go functions, printed. Conditions: as each theorem states. -/
import Derived.Test.YtheibjkjmkanoaaPx0
import Derived.Test.YtheibjkjmkanoaaPx21
namespace Go.Proofs.Ytheibjkjmkanoaa.Px
open Go.Proofs.Ytheibjkjmkanoaa.Given
open Go.RowKit Go.Proofs.YtheibjkjmkanoaaW.PrintWords Go.Proofs.YtheibjkjmkanoaaW.PrintLast Go.Proofs.YtheibjkjmkanoaaW.PrintMore
attribute [local go_sem] a3r a3s a4b a4c a3f a3g a3t a3u
set_option linter.unusedVariables false
set_option linter.unusedSimpArgs false
mutual
def a1c.l0 : Nat → List (S56) → Int → Option (Bool)
 | 0,_,_ => none
 | k + 1,x0,x3 => if x3 < (x0.length : Int) then (if 0 ≤ x3 then ((a3c.f ((a0f x0 x3).f0) ((a0f x0 x3).f1)).bind fun a => (if a = true then (if x3 > 0 then (if 0 ≤ (wrap64 (x3 - 1)) then (if (wrap64 (x3 - 1)) < (x0.length : Int) then (a1c.j1 k x0 x3 (decide (((a0f x0 (wrap64 (x3 - 1))).f1) ≥ ((a0f x0 x3).f0)))) else (none)) else (none)) else (a1c.j1 k x0 x3 false)) else (a1c.j1 k x0 x3 true))) else (none)) else (some (decide ((x0.length : Int) ≤ 1000)))
def a1c.j1 : Nat → List (S56) → Int → Bool → Option (Bool)
 | 0,_,_,_ => none
 | k + 1,x0,x3,a => if a = true then (some false) else (a1c.l0 k x0 (wrap64 (x3 + 1)))
end
def a1c.f (k : Nat) (l0 : List (S56)) : Option (Bool) := a1c.l0 k l0 0
theorem a1c.a1u : ∀ k,(∀ y0 y1,LeO (a1c.l0 k y0 y1) (a1c.l0 (k + 1) y0 y1)) ∧ (∀ y0 y1 y2,LeO (a1c.j1 k y0 y1 y2) (a1c.j1 (k + 1) y0 y1 y2))
 | 0 => ⟨fun _ _ r h => by simp [a1c.l0] at h,fun _ _ _ r h => by simp [a1c.j1] at h⟩
 | k + 1 => by
  obtain ⟨a,b⟩ := a1c.a1u k
  refine ⟨?_,?_⟩ <;> intros <;> (first | unfold a1c.l0 | unfold a1c.j1) <;> with_reducible (repeat' first | apply a | apply b | apply LeO.refl | apply LeO.none | apply LeO.ite | refine LeO.bind ?_ (fun _ => ?_))
theorem a1c.mono : ∀ a0 k,LeO (a1c.f k a0) (a1c.f (k + 1) a0) := by
 intro a0 k
 obtain ⟨a,b⟩ := a1c.a1u k
 unfold a1c.f
 with_reducible (repeat' first | apply a | apply b | apply LeO.refl | apply LeO.none | apply LeO.ite | refine LeO.bind ?_ (fun _ => ?_))
set_option maxHeartbeats 8000000 in
set_option maxRecDepth 100000 in
theorem a1c.calls (k : Nat) (A0 : Option Addr) (c0 : Nat) (l0 : List (S56)) (r : Bool) (w : World) (L : Kd.C k56 w A0 l0.length l0) (M : l0.length ≤ c0) (h : a1c.f k l0 = some r) :
  Calls Try.prog 33 #[.slice A0 l0.length c0] w fun e w' => e = .returned (.bool r) ∧ Below w.heap.size w w' := by
 have a3 := Try.underlying56
 have B := am_ L
 have a4 := am_ M
 clear L M
 have HB := am_ (Below.refl w.heap.size w)
 have H : (a1c.l0 k l0 0) = some r := h
 clear h
 have H' := am_ H
 clear H
 go_enter Try.func33,Try.ntmps33
 go_wp2
 repeat (go_quiet (fail);try go_wp2)
 go_loopg [3] k (fun kq v3 w' => ∃ (a : Int),v3 = .int .i64 a ∧ Aside0 (a1c.l0 kq l0 a = some r) ∧ Aside0 (kq ≤ k) ∧ Aside0 (Below w.heap.size w w'))
 case atStart => exact ⟨(0),qs_,H',⟨Nat.le_refl _⟩,⟨qb_⟩⟩
 case round =>
 clear H'
 obtain ⟨a,rfl,HA,y,HB⟩ := hrel
 cases gk with
 | zero => exact absurd HA.out (by simp [a1c.l0])
 | succ k1 =>
 have H := HA.out
 clear HA
 simp only [a1c.l0] at H
 by_cases c2 : a < (l0.length : Int)
 rotate_left
 ·rw [if_neg c2] at H
  have D : decide (a < (l0.length : Int)) = false := decide_eq_false c2
  clear c2
  obtain rfl := si_ H
  go_wp2
  repeat (go_quiet (fail);try go_wp2)
  go_ret
  exact ⟨qx_,qb_⟩
 rw [if_pos c2] at H
 have D : decide (a < (l0.length : Int)) = true := decide_eq_true c2
 clear c2
 obtain ⟨U,H⟩ := qid_ H
 replace H := bm_ H
 obtain ⟨p,O,H⟩ := H
 have A4 := am_ O
 clear O
 have E := am_ H
 clear H
 have q : 0 ≤ (a : Int) := ot_
 have s : a < (l0.length : Int) := ot_
 obtain ⟨z,W,b,c⟩ := a4k B.out a q s
 cases W
 replace b := qh_ HB b
 replace c := qh_ HB c
 replace q := eq_true q
 replace s := eq_true s
 go_upto_region 5 with (first | (go_at_call 51;(with_reducible refine (a3c.calls ((a0f l0 a).f0) ((a0f l0 a).f1) p _ A4.out).mono ?_);rintro e w6 ⟨rfl,hb⟩;replace HB := qbs_ hb;(try clear hb);(try clear P);(try clear hk);(try clear hi)))
 repeat (go_quiet (first | (go_at_call 51;(with_reducible refine (a3c.calls ((a0f l0 a).f0) ((a0f l0 a).f1) p _ A4.out).mono ?_);rintro e w6 ⟨rfl,hb⟩;replace HB := qbs_ hb;(try clear hb);(try clear P);(try clear hk);(try clear hi)));go_upto_region 5 with (first | (go_at_call 51;(with_reducible refine (a3c.calls ((a0f l0 a).f0) ((a0f l0 a).f1) p _ A4.out).mono ?_);rintro e w6 ⟨rfl,hb⟩;replace HB := qbs_ hb;(try clear hb);(try clear P);(try clear hk);(try clear hi))))
 (try simp only [Act.put,List.setIfInBounds_toArray,List.set_cons_zero,List.set_cons_succ])
 go_cut [35] (fun a1 wc => ∃ (kq : Nat) (m : Bool),a1 = .bool m ∧ Aside0 (a1c.j1 kq l0 a m = some r) ∧ Aside0 (kq ≤ k1) ∧ Aside0 (Below w.heap.size w wc))
 case first =>
  have H := E.out
  clear E
  by_cases c7 : p = true
  rotate_left
  ·replace c7 := be_ c7
   subst c7
   replace H := qin_ H
   have H' := am_ H
   clear H
   go_wp2
   repeat (go_quiet (fail);try go_wp2)
   go_meet
   case rel => exact ⟨_,(true),qs_,H',⟨by have := y.out;first | omega | exact Nat.le_refl _⟩,⟨qb_⟩⟩
  subst c7
  replace H := qip_ H
  by_cases c8 : a > 0
  rotate_left
  ·rw [if_neg c8] at H
   have d : decide (0 < a) = false := decide_eq_false c8
   clear c8
   (first | rw [d] | (simp only [a3x,a4g];rw [d]) | skip)
   have H' := am_ H
   clear H
   go_wp2
   repeat (go_quiet (fail);try go_wp2)
   go_meet
   case rel => exact ⟨_,(false),qs_,H',⟨by have := y.out;first | omega | exact Nat.le_refl _⟩,⟨qb_⟩⟩
  rw [if_pos c8] at H
  have d : decide (0 < a) = true := decide_eq_true c8
  clear c8
  (first | rw [d] | (simp only [a3x,a4g];rw [d]) | skip)
  obtain ⟨n,o⟩ : ∃ j_ : Int,(wrap64 (a - 1)) = j_ := ⟨_,rfl⟩
  replace H : (if 0 ≤ (n) then (if (n) < (l0.length : Int) then (a1c.j1 k1 l0 a (decide (((a0f l0 (n)).f1) ≥ ((a0f l0 a).f0)))) else (none)) else (none)) = some r := by first | (rw [o] at H;exact H) | (simp only [o] at H ⊢;exact H)
  have hji9w : (IntKind.i64.wrap (a - 1)) = n := (a3x _).trans o
  obtain ⟨G,H⟩ := qid_ H
  obtain ⟨I,H⟩ := qid_ H
  have H' := am_ H
  clear H
  have t : 0 ≤ ((n) : Int) := ot_
  have u : (n) < (l0.length : Int) := ot_
  obtain ⟨J,X,g,i⟩ := a4k B.out (n) t u
  obtain rfl : z = J := (by injection X)
  replace g := qh_ HB g
  replace i := qh_ HB i
  replace t := eq_true t
  replace u := eq_true u
  have v : 0 ≤ (a : Int) := ot_
  have x : a < (l0.length : Int) := ot_
  obtain ⟨K,a0,j,l⟩ := a4k B.out a v x
  obtain rfl : z = K := (by injection a0)
  replace j := qh_ HB j
  replace l := qh_ HB l
  replace v := eq_true v
  replace x := eq_true x
  go_wp2
  repeat (go_quiet (fail);try go_wp2)
  try subst o
  go_meet
  case rel => exact ⟨_,(decide (((a0f l0 ((wrap64 (a - 1)))).f1) ≥ ((a0f l0 a).f0))),(by first | rfl | (simp;done) | (simp only [← o] <;> (first | rfl | simp)) | (simp [*];done)),H',⟨by have := y.out;first | omega | exact Nat.le_refl _⟩,⟨qb_⟩⟩
 case rest =>
 clear E
 try clear D
 try clear U
 try clear c7
 try clear d
 try clear G
 try clear I
 try clear b
 try clear c
 try clear g
 try clear i
 try clear j
 try clear l
 try clear q
 try clear t
 try clear v
 try clear s
 try clear u
 try clear x
 obtain ⟨kq,m,rfl,HA,T,HB⟩ := hcut
 cases kq with
 | zero => exact absurd HA.out (by simp [a1c.j1])
 | succ a2 =>
 have H := HA.out
 clear HA
 simp only [a1c.j1] at H
 by_cases A : m = true
 ·subst A
  replace H := qip_ H
  obtain rfl := si_ H
  go_wp2
  repeat (go_quiet (fail);try go_wp2)
  go_ret
  exact ⟨qx_,qb_⟩
 replace A := be_ A
 subst A
 replace H := qin_ H
 have H' := am_ H
 clear H
 go_wp2
 repeat (go_quiet (fail);try go_wp2)
 go_roundg a2
 case measure => have := y.out;have := T.out;omega
 case rel => exact ⟨(wrap64 (a + 1)),qs_,H',⟨by have := y.out;have := T.out;omega⟩,⟨qb_⟩⟩
def a1o.l0 : Nat → List (S58) → Int → Int → Option ((List (S56)) × Bool)
 | 0,_,_,_ => none
 | k + 1,x0,x1,x6 => if x6 < (x0.length : Int) then (if 0 ≤ x6 then (if ((a1x x0 x6).f0) = x1 then (some ((a1x x0 x6).f1,true)) else (a1o.l0 k x0 x1 (wrap64 (x6 + 1)))) else (none)) else (some (([] : List (S56)),false))
def a1o.f (k : Nat) (l0 : List (S58)) (a1 : Int) : Option ((List (S56)) × Bool) := a1o.l0 k l0 a1 0
theorem a1o.a1u : ∀ k,(∀ y0 y1 y2,LeO (a1o.l0 k y0 y1 y2) (a1o.l0 (k + 1) y0 y1 y2))
 | 0 => fun _ _ _ r h => by simp [a1o.l0] at h
 | k + 1 => by
  have a := a1o.a1u k
  intro y0 y1 y2
  unfold a1o.l0
  with_reducible (repeat' first | apply a | apply LeO.refl | apply LeO.none | apply LeO.ite | refine LeO.bind ?_ (fun _ => ?_))
theorem a1o.mono : ∀ a0 a1 k,LeO (a1o.f k a0 a1) (a1o.f (k + 1) a0 a1) := by
 intro a0 a1 k
 have a := a1o.a1u k
 unfold a1o.f
 with_reducible (repeat' first | apply a | apply LeO.refl | apply LeO.none | apply LeO.ite | refine LeO.bind ?_ (fun _ => ?_))
set_option maxHeartbeats 8000000 in
set_option maxRecDepth 100000 in
theorem a1o.calls (k : Nat) (B : Nat → Prop) (A0 : Option Addr) (c0 : Nat) (l0 : List (S58)) (a1 : Int) (r1 : List (S56)) (r2 : Bool) (w : World) (ac : Kd.V k58 58 w w.heap.size (fun k_ => B k_) (.slice A0 l0.length c0) l0) (h : a1o.f k l0 a1 = some (r1,r2)) :
  Calls Try.prog 34 #[.slice A0 l0.length c0, .int .i64 a1] w fun e w' => ∃ a0 : Value,e = .returned (.tuple #[a0, .bool r2]) ∧ Kd.V k56 56 w' w.heap.size (fun k_ => (B k_ ∨ w.heap.size ≤ k_)) a0 r1 ∧ Below w.heap.size w w' := by
 have ad := am_ (show Kd.V k58 58 w w.heap.size (fun k_ => (B k_ ∨ w.heap.size ≤ k_)) (.slice A0 l0.length c0) l0 from Kd.a9g ac (fun k_ hk => .inl hk))
 have HB := am_ (Below.refl w.heap.size w)
 have H : (a1o.l0 k l0 a1 0) = some (r1,r2) := h
 clear h
 have H' := am_ H
 clear H
 go_enter Try.func34,Try.ntmps34
 go_wp2
 go_loopg [6] k (fun kq v6 w' => ∃ (a : Int),v6 = .int .i64 a ∧ Aside0 (a1o.l0 kq l0 a1 a = some (r1,r2)) ∧ Aside0 (kq ≤ k) ∧ Aside0 (Kd.V k58 58 w' w.heap.size (fun k_ => (B k_ ∨ w.heap.size ≤ k_)) (.slice A0 l0.length c0) l0) ∧ Aside0 (Below w.heap.size w w'))
 case atStart => exact ⟨(0),qs_,H',⟨Nat.le_refl _⟩,⟨by (with_reducible repeat (first | apply Kd.V_alloc | apply Kd.a7g | apply Kd.V_drew));exact ad.out⟩,⟨qb_⟩⟩
 case round =>
 clear H'
 obtain ⟨a,rfl,HA,a2,HO_0,HB⟩ := hrel
 cases gk with
 | zero => exact absurd HA.out (by simp [a1o.l0])
 | succ k1 =>
 have H := HA.out
 clear HA
 simp only [a1o.l0] at H
 by_cases c3 : a < (l0.length : Int)
 rotate_left
 ·rw [if_neg c3] at H
  have a3 : decide (a < (l0.length : Int)) = false := decide_eq_false c3
  clear c3
  simp only [Option.some.injEq,Prod.mk.injEq] at H
  obtain ⟨rfl,rfl⟩ := H
  go_wp2
  go_ret2
  exact ⟨_,qx_,Kd.a5r _ _ _ _ _,qb_⟩
 rw [if_pos c3] at H
 have a3 : decide (a < (l0.length : Int)) = true := decide_eq_true c3
 clear c3
 obtain ⟨ah,H⟩ := qid_ H
 by_cases c5 : ((a1x l0 a).f0) = a1
 rotate_left
 ·rw [if_neg c5] at H
  have a4 : (((a1x l0 a).f0) == a1) = false := beq_eq_false_iff_ne.mpr c5
  have a5 : (((a1x l0 a).f0) != a1) = true := bne_iff_ne.mpr c5
  have H' := am_ H
  clear H
  have j : 0 ≤ (a : Int) := ot_
  have l : a < (l0.length : Int) := ot_
  obtain ⟨D,O,P,A,E,n,g,i⟩ := a6v (Kd.a5k HO_0.out).2.2 a j l
  cases A
  obtain ⟨W,r,s,m⟩ := Kd.b8f HO_0.out z58 a j (by first | exact l | exact ot_ | (have e_ := (Kd.a5k HO_0.out).1;omega))
  obtain ⟨G,I,rfl,c,d⟩ := b1n s
  have b := m 1 _ rfl
  rw [a5z _ _ 1 (by omega)] at b
  replace b := si_ (b.symm.trans n)
  injection b with hva_ hvn_ hvc_
  rw [hva_] at d
  rw [hvc_] at c
  have J := am_ (show Kd.V k56 56 _ w.heap.size _ _ ((a1x l0 a).f1) from Kd.V_mk c d)
  clear hva_ hvn_ hvc_ d c m r
  have K := am_ i
  have L := am_ g
  clear i g
  replace j := eq_true j
  replace l := eq_true l
  go_wp2
  go_roundg k1
  case measure => have := a2.out;omega
  case rel => exact ⟨(wrap64 (a + 1)),qs_,H',⟨by have := a2.out;omega⟩,⟨by (with_reducible repeat (first | apply Kd.V_alloc | apply Kd.a7g | apply Kd.V_drew));exact HO_0.out⟩,⟨qb_⟩⟩
 rw [if_pos c5] at H
 have a4 : (((a1x l0 a).f0) == a1) = true := beq_iff_eq.mpr c5
 have a5 : (((a1x l0 a).f0) != a1) = false := bne_eq_false_iff_eq.mpr c5
 clear c5
 simp only [Option.some.injEq,Prod.mk.injEq] at H
 obtain ⟨rfl,rfl⟩ := H
 have j : 0 ≤ (a : Int) := ot_
 have l : a < (l0.length : Int) := ot_
 obtain ⟨D,O,P,A,E,n,g,i⟩ := a6v (Kd.a5k HO_0.out).2.2 a j l
 cases A
 obtain ⟨W,r,s,m⟩ := Kd.b8f HO_0.out z58 a j (by first | exact l | exact ot_ | (have e_ := (Kd.a5k HO_0.out).1;omega))
 obtain ⟨G,I,rfl,c,d⟩ := b1n s
 have b := m 1 _ rfl
 rw [a5z _ _ 1 (by omega)] at b
 replace b := si_ (b.symm.trans n)
 injection b with hva_ hvn_ hvc_
 rw [hva_] at d
 rw [hvc_] at c
 have J := am_ (show Kd.V k56 56 _ w.heap.size _ _ ((a1x l0 a).f1) from Kd.V_mk c d)
 clear hva_ hvn_ hvc_ d c m r
 have K := am_ i
 have L := am_ g
 clear i g
 replace j := eq_true j
 replace l := eq_true l
 have x : 0 ≤ (a : Int) := ot_
 have y : a < (l0.length : Int) := ot_
 obtain ⟨X,ae,af,a6,a7,t,u,v⟩ := a6v (Kd.a5k HO_0.out).2.2 a x y
 obtain rfl : D = X := (by injection a6)
 obtain ⟨ag,T,U,z⟩ := Kd.b8f HO_0.out z58 a x (by first | exact y | exact ot_ | (have e_ := (Kd.a5k HO_0.out).1;omega))
 obtain ⟨a8,a9,rfl,p,q⟩ := b1n U
 have o := z 1 _ rfl
 rw [a5z _ _ 1 (by omega)] at o
 replace o := si_ (o.symm.trans t)
 injection o with hva_ hvn_ hvc_
 rw [hva_] at q
 rw [hvc_] at p
 have M := am_ (show Kd.V k56 56 _ w.heap.size _ _ ((a1x l0 a).f1) from Kd.V_mk p q)
 clear hva_ hvn_ hvc_ q p z T
 have aa := am_ v
 have ab := am_ u
 clear v u
 replace x := eq_true x
 replace y := eq_true y
 have ea_ := si_ (n.symm.trans t)
 injection ea_ with ea_ en_ ec_
 subst ea_
 subst ec_
 clear en_
 go_wp2
 go_ret2
 exact ⟨_,qx_,by (with_reducible repeat (first | apply Kd.V_alloc | apply Kd.a7g | apply Kd.V_drew));exact M.out,qb_⟩
end Go.Proofs.Ytheibjkjmkanoaa.Px
