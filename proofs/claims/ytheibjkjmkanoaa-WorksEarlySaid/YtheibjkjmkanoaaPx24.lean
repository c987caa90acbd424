/- Contracts of Go functions, printed. Conditions: as each theorem states. -/
import Derived.Test.YtheibjkjmkanoaaPx0
import Derived.Test.YtheibjkjmkanoaaPx22
import Derived.Test.YtheibjkjmkanoaaPx23
namespace Go.Proofs.Ytheibjkjmkanoaa.Px
open Go.Proofs.Ytheibjkjmkanoaa.Given
open Go.RowKit Go.Proofs.YtheibjkjmkanoaaW.PrintWords Go.Proofs.YtheibjkjmkanoaaW.PrintLast Go.Proofs.YtheibjkjmkanoaaW.PrintMore
attribute [local go_sem] a3m a3n a3x a3y a3e a3f a3o a3p
set_option linter.unusedVariables false
set_option linter.unusedSimpArgs false
mutual
def a0c.j0 : Nat → List (S51) → List (S58) → Bool → Option (Bool)
 | 0,_,_,_ => none
 | k + 1,x0,x1,a => if a = true then (some false) else (a0c.l0 k x0 x1 0)
def a0c.l0 : Nat → List (S51) → List (S58) → Int → Option (Bool)
 | 0,_,_,_ => none
 | k + 1,x0,x1,x5 => if x5 < (x1.length : Int) then (if 0 ≤ x5 then ((a0w.f k ((a1l x1 x5).f1)).bind fun a => (if a = true then (if ((a1l x1 x5).f0) < 1 then (a0c.j2 k x0 x1 x5 true) else (if ((a1l x1 x5).f0) > 1000 then (a0c.j2 k x0 x1 x5 true) else (if x5 > 0 then (if 0 ≤ (wrap64 (x5 - 1)) then (if (wrap64 (x5 - 1)) < (x1.length : Int) then (a0c.j2 k x0 x1 x5 (decide (((a1l x1 x5).f0) ≤ ((a1l x1 (wrap64 (x5 - 1))).f0)))) else (none)) else (none)) else (a0c.j2 k x0 x1 x5 false)))) else (a0c.j2 k x0 x1 x5 true))) else (none)) else (a0c.l1 k x0 x1 0)
def a0c.j2 : Nat → List (S51) → List (S58) → Int → Bool → Option (Bool)
 | 0,_,_,_,_ => none
 | k + 1,x0,x1,x5,a => if a = true then (some false) else (a0c.l0 k x0 x1 (wrap64 (x5 + 1)))
def a0c.l1 : Nat → List (S51) → List (S58) → Int → Option (Bool)
 | 0,_,_,_ => none
 | k + 1,x0,x1,x8 => if x8 < (x0.length : Int) then (if 0 ≤ x8 then ((a1k.f k x1 ((a0a x0 x8).f1)).bind fun a => ((a0k.f k ((a0a x0 x8).f3) 1 1000).bind fun b => ((a0k.f k ((a0a x0 x8).f4) 1 64).bind fun c => (if a.2 = true then (if b = true then (if c = true then (if (((a0a x0 x8).f4).length : Int) > 8 then (a0c.j4 k x0 x1 x8 true ((a0a x0 x8).f0) ((a0a x0 x8).f1) ((a0a x0 x8).f2) ((a0a x0 x8).f3) ((a0a x0 x8).f4)) else (if ((a0a x0 x8).f0) < 1 then (a0c.j4 k x0 x1 x8 true ((a0a x0 x8).f0) ((a0a x0 x8).f1) ((a0a x0 x8).f2) ((a0a x0 x8).f3) ((a0a x0 x8).f4)) else (if ((a0a x0 x8).f0) > 1000 then (a0c.j4 k x0 x1 x8 true ((a0a x0 x8).f0) ((a0a x0 x8).f1) ((a0a x0 x8).f2) ((a0a x0 x8).f3) ((a0a x0 x8).f4)) else (if x8 > 0 then (if 0 ≤ (wrap64 (x8 - 1)) then (if (wrap64 (x8 - 1)) < (x0.length : Int) then (if ((a0a x0 x8).f0) ≤ ((a0a x0 (wrap64 (x8 - 1))).f0) then (a0c.j4 k x0 x1 x8 true ((a0a x0 x8).f0) ((a0a x0 x8).f1) ((a0a x0 x8).f2) ((a0a x0 x8).f3) ((a0a x0 x8).f4)) else (if ((a0a x0 x8).f2) < 1 then (a0c.j4 k x0 x1 x8 true ((a0a x0 x8).f0) ((a0a x0 x8).f1) ((a0a x0 x8).f2) ((a0a x0 x8).f3) ((a0a x0 x8).f4)) else (a0c.j4 k x0 x1 x8 (decide (((a0a x0 x8).f2) > 100)) ((a0a x0 x8).f0) ((a0a x0 x8).f1) ((a0a x0 x8).f2) ((a0a x0 x8).f3) ((a0a x0 x8).f4)))) else (none)) else (none)) else (if ((a0a x0 x8).f2) < 1 then (a0c.j4 k x0 x1 x8 true ((a0a x0 x8).f0) ((a0a x0 x8).f1) ((a0a x0 x8).f2) ((a0a x0 x8).f3) ((a0a x0 x8).f4)) else (a0c.j4 k x0 x1 x8 (decide (((a0a x0 x8).f2) > 100)) ((a0a x0 x8).f0) ((a0a x0 x8).f1) ((a0a x0 x8).f2) ((a0a x0 x8).f3) ((a0a x0 x8).f4))))))) else (a0c.j4 k x0 x1 x8 true ((a0a x0 x8).f0) ((a0a x0 x8).f1) ((a0a x0 x8).f2) ((a0a x0 x8).f3) ((a0a x0 x8).f4))) else (a0c.j4 k x0 x1 x8 true ((a0a x0 x8).f0) ((a0a x0 x8).f1) ((a0a x0 x8).f2) ((a0a x0 x8).f3) ((a0a x0 x8).f4))) else (a0c.j4 k x0 x1 x8 true ((a0a x0 x8).f0) ((a0a x0 x8).f1) ((a0a x0 x8).f2) ((a0a x0 x8).f3) ((a0a x0 x8).f4)))))) else (none)) else (some true)
def a0c.j4 : Nat → List (S51) → List (S58) → Int → Bool → Int → Int → Int → List Int → List Int → Option (Bool)
 | 0,_,_,_,_,_,_,_,_,_ => none
 | k + 1,x0,x1,x8,a,u0,u1,u2,u3,u4 => if a = true then (some false) else (a0c.l2 k x0 x1 x8 0 u0 u1 u2 u3 u4)
def a0c.l2 : Nat → List (S51) → List (S58) → Int → Int → Int → Int → Int → List Int → List Int → Option (Bool)
 | 0,_,_,_,_,_,_,_,_,_ => none
 | k + 1,x0,x1,x8,a,u0,u1,u2,u3,u4 => if a < (u3.length : Int) then (if 0 ≤ a then ((a1b.f k x0 x8 (rd u3 a)).bind fun b => (if b < 0 then (some false) else (a0c.l2 k x0 x1 x8 (wrap64 (a + 1)) u0 u1 u2 u3 u4))) else (none)) else (a0c.l1 k x0 x1 (wrap64 (x8 + 1)))
end
def a0c.f (k : Nat) (l0 : List (S51)) (l1 : List (S58)) : Option (Bool) := if (l1.length : Int) > 20 then (a0c.j0 k l0 l1 true) else (a0c.j0 k l0 l1 (decide ((l0.length : Int) > 60)))
theorem a0c.a1h : ∀ k,(∀ y0 y1 y2,LeO (a0c.j0 k y0 y1 y2) (a0c.j0 (k + 1) y0 y1 y2)) ∧ (∀ y0 y1 y2,LeO (a0c.l0 k y0 y1 y2) (a0c.l0 (k + 1) y0 y1 y2)) ∧ (∀ y0 y1 y2 y3,LeO (a0c.j2 k y0 y1 y2 y3) (a0c.j2 (k + 1) y0 y1 y2 y3)) ∧ (∀ y0 y1 y2,LeO (a0c.l1 k y0 y1 y2) (a0c.l1 (k + 1) y0 y1 y2)) ∧ (∀ y0 y1 y2 y3 y4 y5 y6 y7 y8,LeO (a0c.j4 k y0 y1 y2 y3 y4 y5 y6 y7 y8) (a0c.j4 (k + 1) y0 y1 y2 y3 y4 y5 y6 y7 y8)) ∧ (∀ y0 y1 y2 y3 y4 y5 y6 y7 y8,LeO (a0c.l2 k y0 y1 y2 y3 y4 y5 y6 y7 y8) (a0c.l2 (k + 1) y0 y1 y2 y3 y4 y5 y6 y7 y8))
 | 0 => ⟨fun _ _ _ r h => by simp [a0c.j0] at h,fun _ _ _ r h => by simp [a0c.l0] at h,fun _ _ _ _ r h => by simp [a0c.j2] at h,fun _ _ _ r h => by simp [a0c.l1] at h,fun _ _ _ _ _ _ _ _ _ r h => by simp [a0c.j4] at h,fun _ _ _ _ _ _ _ _ _ r h => by simp [a0c.l2] at h⟩
 | k + 1 => by
  obtain ⟨a,b,c,d,e,g⟩ := a0c.a1h k
  refine ⟨?_,?_,?_,?_,?_,?_⟩ <;> intros <;> (first | unfold a0c.j0 | unfold a0c.l0 | unfold a0c.j2 | unfold a0c.l1 | unfold a0c.j4 | unfold a0c.l2) <;> with_reducible (repeat' first | apply a | apply b | apply c | apply d | apply e | apply g | apply a0w.mono | apply a1b.mono | apply a1k.mono | apply a0k.mono | apply LeO.refl | apply LeO.none | apply LeO.ite | refine LeO.bind ?_ (fun _ => ?_))
theorem a0c.mono : ∀ a0 a1 k,LeO (a0c.f k a0 a1) (a0c.f (k + 1) a0 a1) := by
 intro a0 a1 k
 obtain ⟨a,b,c,d,e,g⟩ := a0c.a1h k
 unfold a0c.f
 with_reducible (repeat' first | apply a | apply b | apply c | apply d | apply e | apply g | apply a0w.mono | apply a1b.mono | apply a1k.mono | apply a0k.mono | apply LeO.refl | apply LeO.none | apply LeO.ite | refine LeO.bind ?_ (fun _ => ?_))
set_option maxHeartbeats 8000000 in
set_option maxRecDepth 100000 in
theorem a0c.calls (k : Nat) (A0 : Option Addr) (c0 : Nat) (l0 : List (S51)) (A1 : Option Addr) (c1 : Nat) (l1 : List (S58)) (r : Bool) (w : World) (e4 : Kd.C k51 w A0 l0.length l0) (e5 : l0.length ≤ c0) (e6 : Kd.C k58 w A1 l1.length l1) (e7 : l1.length ≤ c1) (h : a0c.f k l0 l1 = some r) :
  Calls Try.prog 15 #[.slice A0 l0.length c0, .slice A1 l1.length c1] w fun e w' => e = .returned (.bool r) ∧ Below w.heap.size w w' := by
 have f6 := Try.underlying51
 have ad := am_ e4
 have bj := am_ e5
 clear e4 e5
 have bk := am_ e6
 have dN := am_ e7
 clear e6 e7
 have HB := am_ (Below.refl w.heap.size w)
 have H : (if (l1.length : Int) > 20 then (a0c.j0 k l0 l1 true) else (a0c.j0 k l0 l1 (decide ((l0.length : Int) > 60)))) = some r := h
 clear h
 have dO := am_ H
 clear H
 go_enter Try.func15,Try.ntmps15
 go_upto_region 1 with (fail)
 repeat (go_quiet (fail);go_upto_region 1 with (fail))
 go_cut [22] (fun em wc => ∃ (kq : Nat) (b9 : Bool),em = .bool b9 ∧ Aside0 (a0c.j0 kq l0 l1 b9 = some r) ∧ Aside0 (kq ≤ k) ∧ Aside0 (Below w.heap.size w wc))
 case first =>
  have H := dO.out
  clear dO
  by_cases c4 : (l1.length : Int) > 20
  ·rw [if_pos c4] at H
   have Z : decide (20 < (l1.length : Int)) = true := decide_eq_true c4
   have ae : decide (20 < l1.length) = true := decide_eq_true (by omega)
   clear c4
   (first | rw [Z] | (simp only [a4j,a4v];rw [Z]) | skip)
   have H' := am_ H
   clear H
   go_wp2
   repeat (go_quiet (fail);try go_wp2)
   go_meet
   case rel => exact ⟨_,(true),qs_,H',⟨qo_⟩,⟨qb_⟩⟩
  rw [if_neg c4] at H
  have Z : decide (20 < (l1.length : Int)) = false := decide_eq_false c4
  have ae : decide (20 < l1.length) = false := decide_eq_false (by omega)
  clear c4
  (first | rw [Z] | (simp only [a4j,a4v];rw [Z]) | skip)
  have H' := am_ H
  clear H
  go_wp2
  repeat (go_quiet (fail);try go_wp2)
  go_meet
  case rel => exact ⟨_,(decide ((l0.length : Int) > 60)),qs_,H',⟨qo_⟩,⟨qb_⟩⟩
 case rest =>
 clear dO
 try clear c1
 try clear Z
 try clear ae
 obtain ⟨kq,b9,rfl,HA,z,HB⟩ := hcut
 cases kq with
 | zero => exact absurd HA.out (by simp [a0c.j0])
 | succ e8 =>
 have H := HA.out
 clear HA
 simp only [a0c.j0] at H
 by_cases c5 : b9 = true
 ·subst c5
  replace H := qip_ H
  obtain rfl := si_ H
  go_wp2
  repeat (go_quiet (fail);try go_wp2)
  go_ret
  exact ⟨qx_,qb_⟩
 replace c5 := be_ c5
 subst c5
 replace H := qin_ H
 have H' := am_ H
 clear H
 go_wp2
 repeat (go_quiet (fail);try go_wp2)
 go_loopg [5] e8 (fun kq v5 w' => ∃ (d : Int),v5 = .int .i64 d ∧ Aside0 (a0c.l0 kq l0 l1 d = some r) ∧ Aside0 (kq ≤ e8) ∧ Aside0 (Below w.heap.size w w'))
 case atStart => exact ⟨(0),qs_,H',⟨Nat.le_refl _⟩,⟨qb_⟩⟩
 case round =>
 clear H'
 try clear c1
 try clear Z
 try clear ae
 try clear c5
 obtain ⟨d,rfl,HA,A,HB⟩ := hrel
 cases gk with
 | zero => exact absurd HA.out (by simp [a0c.l0])
 | succ k2 =>
 have H := HA.out
 clear HA
 simp only [a0c.l0] at H
 by_cases c6 : d < (l1.length : Int)
 ·rw [if_pos c6] at H
  have bd : decide (d < (l1.length : Int)) = true := decide_eq_true c6
  clear c6
  obtain ⟨bR,H⟩ := qid_ H
  replace H := bm_ H
  obtain ⟨bS,e9,H⟩ := H
  have A8 := am_ e9
  clear e9
  have dP := am_ H
  clear H
  have af : 0 ≤ (d : Int) := ot_
  have ag : d < (l1.length : Int) := ot_
  obtain ⟨dG,en,eo,ed,T,K,bl,bm⟩ := a6u bk.out d af ag
  cases ed
  replace T := qh_ HB T
  replace K := qh_ HB K
  have ei := am_ bm
  have ej := am_ bl
  clear bm bl
  replace af := eq_true af
  replace ag := eq_true ag
  have ah : 0 ≤ (d : Int) := ot_
  have ai : d < (l1.length : Int) := ot_
  obtain ⟨dZ,ep,eq,ee,W,L,bn,bo⟩ := a6u bk.out d ah ai
  obtain rfl : dG = dZ := (by injection ee)
  replace W := qh_ HB W
  replace L := qh_ HB L
  have aZ := am_ bo
  have b0 := am_ bn
  clear bo bn
  replace ah := eq_true ah
  replace ai := eq_true ai
  have ea_ := si_ (K.symm.trans L)
  injection ea_ with ea_ en_ ec_
  subst ea_
  subst ec_
  clear en_
  go_upto_region 8 with (first | (go_at_call 33;(with_reducible refine (a0w.calls k2 _ _ ((a1l l1 d).f1) bS _ ?s1 b0.out A8.out).mono ?_);(case s1 => exact qc_ aZ);rintro e ea ⟨rfl,hb⟩;replace HB := qbs_ hb;(try clear hb);(try clear cd);(try clear hk);(try clear hi)))
  repeat (go_quiet (first | (go_at_call 33;(with_reducible refine (a0w.calls k2 _ _ ((a1l l1 d).f1) bS _ ?s1 b0.out A8.out).mono ?_);(case s1 => exact qc_ aZ);rintro e ea ⟨rfl,hb⟩;replace HB := qbs_ hb;(try clear hb);(try clear cd);(try clear hk);(try clear hi)));go_upto_region 8 with (first | (go_at_call 33;(with_reducible refine (a0w.calls k2 _ _ ((a1l l1 d).f1) bS _ ?s1 b0.out A8.out).mono ?_);(case s1 => exact qc_ aZ);rintro e ea ⟨rfl,hb⟩;replace HB := qbs_ hb;(try clear hb);(try clear cd);(try clear hk);(try clear hi))))
  (try simp only [Act.put,List.setIfInBounds_toArray,List.set_cons_zero,List.set_cons_succ])
  go_cut [63] (fun er wc => ∃ (kq : Nat) (ba : Bool),er = .bool ba ∧ Aside0 (a0c.j2 kq l0 l1 d ba = some r) ∧ Aside0 (kq ≤ k2) ∧ Aside0 (Below w.heap.size w wc))
  case first =>
   have H := dP.out
   clear dP
   by_cases b6 : bS = true
   rotate_left
   ·replace b6 := be_ b6
    subst b6
    replace H := qin_ H
    have H' := am_ H
    clear H
    go_wp2
    repeat (go_quiet (fail);try go_wp2)
    go_meet
    case rel => exact ⟨_,(true),qs_,H',⟨by have := z.out;have := A.out;first | omega | exact Nat.le_refl _⟩,⟨qb_⟩⟩
   subst b6
   replace H := qip_ H
   by_cases bp : ((a1l l1 d).f0) < 1
   ·rw [if_pos bp] at H
    have P : decide (((a1l l1 d).f0) < 1) = true := decide_eq_true bp
    clear bp
    (first | rw [P] | (simp only [a4j,a4v];rw [P]) | skip)
    have H' := am_ H
    clear H
    go_wp2
    repeat (go_quiet (fail);try go_wp2)
    go_meet
    case rel => exact ⟨_,(true),qs_,H',⟨by have := z.out;have := A.out;first | omega | exact Nat.le_refl _⟩,⟨qb_⟩⟩
   rw [if_neg bp] at H
   have P : decide (((a1l l1 d).f0) < 1) = false := decide_eq_false bp
   clear bp
   (first | rw [P] | (simp only [a4j,a4v];rw [P]) | skip)
   by_cases bq : ((a1l l1 d).f0) > 1000
   ·rw [if_pos bq] at H
    have ao : decide (1000 < ((a1l l1 d).f0)) = true := decide_eq_true bq
    clear bq
    have H' := am_ H
    clear H
    go_wp2
    repeat (go_quiet (fail);try go_wp2)
    go_meet
    case rel => exact ⟨_,(true),qs_,H',⟨by have := z.out;have := A.out;first | omega | exact Nat.le_refl _⟩,⟨qb_⟩⟩
   rw [if_neg bq] at H
   have ao : decide (1000 < ((a1l l1 d).f0)) = false := decide_eq_false bq
   clear bq
   by_cases br : d > 0
   rotate_left
   ·rw [if_neg br] at H
    have ap : decide (0 < d) = false := decide_eq_false br
    clear br
    have H' := am_ H
    clear H
    go_wp2
    repeat (go_quiet (fail);try go_wp2)
    go_meet
    case rel => exact ⟨_,(false),qs_,H',⟨by have := z.out;have := A.out;first | omega | exact Nat.le_refl _⟩,⟨qb_⟩⟩
   rw [if_pos br] at H
   have ap : decide (0 < d) = true := decide_eq_true br
   clear br
   obtain ⟨aj,aq⟩ : ∃ j_ : Int,(wrap64 (d - 1)) = j_ := ⟨_,rfl⟩
   replace H : (if 0 ≤ (aj) then (if (aj) < (l1.length : Int) then (a0c.j2 k2 l0 l1 d (decide (((a1l l1 d).f0) ≤ ((a1l l1 (aj)).f0)))) else (none)) else (none)) = some r := by first | (rw [aq] at H;exact H) | (simp only [aq] at H ⊢;exact H)
   have hji15w : (IntKind.i64.wrap (d - 1)) = aj := (a4j _).trans aq
   obtain ⟨bb,H⟩ := qid_ H
   obtain ⟨bc,H⟩ := qid_ H
   have H' := am_ H
   clear H
   have ak : 0 ≤ ((aj) : Int) := ot_
   have al : (aj) < (l1.length : Int) := ot_
   obtain ⟨e0,es,et,ef,X,Y,bs,bt⟩ := a6u bk.out (aj) ak al
   obtain rfl : dG = e0 := (by injection ef)
   replace X := qh_ HB X
   replace Y := qh_ HB Y
   have ek := am_ bt
   have el := am_ bs
   clear bt bs
   replace ak := eq_true ak
   replace al := eq_true al
   go_wp2
   repeat (go_quiet (fail);try go_wp2)
   try subst aq
   go_meet
   case rel => exact ⟨_,(decide (((a1l l1 d).f0) ≤ ((a1l l1 ((wrap64 (d - 1)))).f0))),(by first | rfl | (simp;done) | (simp only [← aq] <;> (first | rfl | simp)) | (simp [*];done)),H',⟨by have := z.out;have := A.out;first | omega | exact Nat.le_refl _⟩,⟨qb_⟩⟩
  case rest =>
  clear dP
  try clear c1
  try clear Z
  try clear ae
  try clear c5
  try clear bd
  try clear bR
  try clear b6
  try clear P
  try clear ao
  try clear ap
  try clear bb
  try clear bc
  try clear T
  try clear K
  try clear W
  try clear L
  try clear X
  try clear Y
  try clear af
  try clear ah
  try clear ak
  try clear ag
  try clear ai
  try clear al
  obtain ⟨kq,ba,rfl,HA,eb,HB⟩ := hcut
  cases kq with
  | zero => exact absurd HA.out (by simp [a0c.j2])
  | succ eu =>
  have H := HA.out
  clear HA
  simp only [a0c.j2] at H
  by_cases be : ba = true
  ·subst be
   replace H := qip_ H
   obtain rfl := si_ H
   go_wp2
   repeat (go_quiet (fail);try go_wp2)
   go_ret
   exact ⟨qx_,qb_⟩
  replace be := be_ be
  subst be
  replace H := qin_ H
  have H' := am_ H
  clear H
  go_wp2
  repeat (go_quiet (fail);try go_wp2)
  go_roundg eu
  case measure => have := z.out;have := A.out;have := eb.out;omega
  case rel => exact ⟨(wrap64 (d + 1)),qs_,H',⟨by have := z.out;have := A.out;have := eb.out;omega⟩,⟨qb_⟩⟩
 rw [if_neg c6] at H
 have bd : decide (d < (l1.length : Int)) = false := decide_eq_false c6
 clear c6
 have H' := am_ H
 clear H
 go_wp2
 repeat (go_quiet (fail);try go_wp2)
 go_loopg [8] k2 (fun kq v8 w' => ∃ (a : Int),v8 = .int .i64 a ∧ Aside0 (a0c.l1 kq l0 l1 a = some r) ∧ Aside0 (kq ≤ k2) ∧ Aside0 (Below w.heap.size w w'))
 case atStart => exact ⟨(0),qs_,H',⟨Nat.le_refl _⟩,⟨qb_⟩⟩
 case round =>
 clear H'
 try clear c1
 try clear Z
 try clear ae
 try clear c5
 try clear bd
 try clear bR
 try clear b6
 try clear P
 try clear ao
 try clear ap
 try clear bb
 try clear bc
 try clear be
 try clear T
 try clear K
 try clear W
 try clear L
 try clear X
 try clear Y
 try clear af
 try clear ah
 try clear ak
 try clear ag
 try clear ai
 try clear al
 obtain ⟨a,rfl,HA,a0,HB⟩ := hrel
 cases gk with
 | zero => exact absurd HA.out (by simp [a0c.l1])
 | succ k3 =>
 have H := HA.out
 clear HA
 simp only [a0c.l1] at H
 by_cases bu : a < (l0.length : Int)
 rotate_left
 ·rw [if_neg bu] at H
  have bT : decide (a < (l0.length : Int)) = false := decide_eq_false bu
  clear bu
  obtain rfl := si_ H
  go_wp2
  repeat (go_quiet (fail);try go_wp2)
  go_ret
  exact ⟨qx_,qb_⟩
 rw [if_pos bu] at H
 have bT : decide (a < (l0.length : Int)) = true := decide_eq_true bu
 clear bu
 obtain ⟨dH,H⟩ := qid_ H
 replace H := bm_ H
 obtain ⟨⟨dD,bf⟩,dQ,H⟩ := H
 replace H : ((a0k.f k3 ((a0a l0 a).f3) 1 1000).bind fun b1 => ((a0k.f k3 ((a0a l0 a).f4) 1 64).bind fun b2 => (if bf = true then (if b1 = true then (if b2 = true then (if (((a0a l0 a).f4).length : Int) > 8 then (a0c.j4 k3 l0 l1 a true ((a0a l0 a).f0) ((a0a l0 a).f1) ((a0a l0 a).f2) ((a0a l0 a).f3) ((a0a l0 a).f4)) else (if ((a0a l0 a).f0) < 1 then (a0c.j4 k3 l0 l1 a true ((a0a l0 a).f0) ((a0a l0 a).f1) ((a0a l0 a).f2) ((a0a l0 a).f3) ((a0a l0 a).f4)) else (if ((a0a l0 a).f0) > 1000 then (a0c.j4 k3 l0 l1 a true ((a0a l0 a).f0) ((a0a l0 a).f1) ((a0a l0 a).f2) ((a0a l0 a).f3) ((a0a l0 a).f4)) else (if a > 0 then (if 0 ≤ (wrap64 (a - 1)) then (if (wrap64 (a - 1)) < (l0.length : Int) then (if ((a0a l0 a).f0) ≤ ((a0a l0 (wrap64 (a - 1))).f0) then (a0c.j4 k3 l0 l1 a true ((a0a l0 a).f0) ((a0a l0 a).f1) ((a0a l0 a).f2) ((a0a l0 a).f3) ((a0a l0 a).f4)) else (if ((a0a l0 a).f2) < 1 then (a0c.j4 k3 l0 l1 a true ((a0a l0 a).f0) ((a0a l0 a).f1) ((a0a l0 a).f2) ((a0a l0 a).f3) ((a0a l0 a).f4)) else (a0c.j4 k3 l0 l1 a (decide (((a0a l0 a).f2) > 100)) ((a0a l0 a).f0) ((a0a l0 a).f1) ((a0a l0 a).f2) ((a0a l0 a).f3) ((a0a l0 a).f4)))) else (none)) else (none)) else (if ((a0a l0 a).f2) < 1 then (a0c.j4 k3 l0 l1 a true ((a0a l0 a).f0) ((a0a l0 a).f1) ((a0a l0 a).f2) ((a0a l0 a).f3) ((a0a l0 a).f4)) else (a0c.j4 k3 l0 l1 a (decide (((a0a l0 a).f2) > 100)) ((a0a l0 a).f0) ((a0a l0 a).f1) ((a0a l0 a).f2) ((a0a l0 a).f3) ((a0a l0 a).f4))))))) else (a0c.j4 k3 l0 l1 a true ((a0a l0 a).f0) ((a0a l0 a).f1) ((a0a l0 a).f2) ((a0a l0 a).f3) ((a0a l0 a).f4))) else (a0c.j4 k3 l0 l1 a true ((a0a l0 a).f0) ((a0a l0 a).f1) ((a0a l0 a).f2) ((a0a l0 a).f3) ((a0a l0 a).f4))) else (a0c.j4 k3 l0 l1 a true ((a0a l0 a).f0) ((a0a l0 a).f1) ((a0a l0 a).f2) ((a0a l0 a).f3) ((a0a l0 a).f4))))) = some r := H
 have dR := am_ dQ
 clear dQ
 replace H := bm_ H
 obtain ⟨b1,dS,H⟩ := H
 have dT := am_ dS
 clear dS
 replace H := bm_ H
 obtain ⟨b2,dU,H⟩ := H
 have dV := am_ dU
 clear dU
 have dE := am_ H
 clear H
 have bg : 0 ≤ (a : Int) := ot_
 have bh : a < (l0.length : Int) := ot_
 obtain ⟨bU,j,l,x,y,eg,a6,a7,a8,a9,aa,bv,bw,bx,bz⟩ := a5j ad.out a bg bh
 cases eg
 replace a6 := qh_ HB a6
 replace a7 := qh_ HB a7
 replace a8 := qh_ HB a8
 replace a9 := qh_ HB a9
 replace aa := qh_ HB aa
 have a2 := am_ bw
 have b3 := am_ bv
 clear bw bv
 have b4 := am_ bz
 have b5 := am_ bx
 clear bz bx
 replace bg := eq_true bg
 replace bh := eq_true bh
 go_upto_region 17 with (first | ((with_reducible refine a0t (N := 9) rfl ?_);(try (refine a3r (by rfl) ?_;dsimp only));refine qev_ 9 #[.int .i64 0, .int .i64 0, .int .i64 0, .slice none 0 0, .slice none 0 0] 51 ?_;intro c hg a1 hbox hb;have b := am_ (hbox);have ar := qga_ hg;have dI := qga_ hg;replace HB := qbs_ hb;clear hb hbox hg;obtain ⟨au,av,aw,ax,ay⟩ := qz5_ b;obtain ⟨az,aA,aB,aC,aD⟩ := qf5_ b) | ((with_reducible refine a5f (t := 51) (p := 9) rfl ?_);(try (rw [a6k a1];generalize hq_ : World.drewN a1 _ = a1;replace b := am_ (blk_at hq_ b.out);replace HB := am_ (below_at hq_ HB.out);clear hq_));refine a4w (t := 51) (p := 9) (v := ?vo_w27) (w1 := (((((a1.setCell ⟨c,0,none⟩ (.int .i64 ((a0a l0 a).f0))).setCell ⟨c,1,none⟩ (.int .i64 ((a0a l0 a).f1))).setCell ⟨c,2,none⟩ (.int .i64 ((a0a l0 a).f2))).setCell ⟨c,3,none⟩ (.slice j ((a0a l0 a).f3).length l)).setCell ⟨c,4,none⟩ (.slice x ((a0a l0 a).f4).length y))) ?hg ?ho ?hn ?hr ?_;(case ho => rfl);(case hg => rfl);(case hn => rfl);(case hr => exact qq_);intro b7 hw;replace b : Aside0 (b7.heap[c]? = some (.cells #[.int .i64 ((a0a l0 a).f0), .int .i64 ((a0a l0 a).f1), .int .i64 ((a0a l0 a).f2), .slice j ((a0a l0 a).f3).length l, .slice x ((a0a l0 a).f4).length y] 51 (0,0))) := ⟨(by rw [hw];exact (by refine qd_ ?_;refine a0g (cs := #[.int .i64 ((a0a l0 a).f0), .int .i64 ((a0a l0 a).f1), .int .i64 ((a0a l0 a).f2), .slice j ((a0a l0 a).f3).length l, .slice none 0 0]) ?_ 4 _ rfl;refine qd_ ?_;refine a0g (cs := #[.int .i64 ((a0a l0 a).f0), .int .i64 ((a0a l0 a).f1), .int .i64 ((a0a l0 a).f2), .slice none 0 0, .slice none 0 0]) ?_ 3 _ rfl;refine qd_ ?_;refine a0g (cs := #[.int .i64 ((a0a l0 a).f0), .int .i64 ((a0a l0 a).f1), .int .i64 0, .slice none 0 0, .slice none 0 0]) ?_ 2 _ rfl;refine qd_ ?_;refine a0g (cs := #[.int .i64 ((a0a l0 a).f0), .int .i64 0, .int .i64 0, .slice none 0 0, .slice none 0 0]) ?_ 1 _ rfl;refine qd_ ?_;refine a0g (cs := #[.int .i64 0, .int .i64 0, .int .i64 0, .slice none 0 0, .slice none 0 0]) ?_ 0 _ rfl;refine qd_ ?_;exact b.out))⟩;replace HB : Aside0 (Below w.heap.size w b7) := ⟨(by rw [hw];exact qb_)⟩;clear hw;obtain ⟨aE,aF,aG,aH,aI⟩ := qz5_ b;obtain ⟨aJ,aK,aL,aM,aN⟩ := qf5_ b) | (go_at_call 34;(with_reducible refine (a1k.calls k3 (fun k_ => k_ < w.heap.size) _ _ l1 ((a0a l0 a).f1) dD bf _ ?s1 dR.out).mono ?_);(case s1 => exact Kd.V_mk dN.out (Kd.b2r (Kd.C_F b1k bk.out) qb_));rintro e ec ⟨dW,rfl,b8,hb⟩;have dJ := am_ (Kd.b2t (Kd.b1w (ok' := fun k_ => k_ ≠ c) b8 (fun k_ hk_ => Or.elim hk_ (fun hs_ => fun e_ => Nat.not_le.2 hs_ (by rw [e_];exact ar.out)) (fun hn_ => (Kd.a8n (g := c) (o := .cells #[.int .i64 ((a0a l0 a).f0), .int .i64 ((a0a l0 a).f1), .int .i64 ((a0a l0 a).f2), .slice j ((a0a l0 a).f3).length l, .slice x ((a0a l0 a).f4).length y] 51 (0,0)) (qk_ b) k_ hn_)))) (a0z qb_));replace b := qkb_ b hb;replace HB := qbs_ hb;(try clear hb);(try clear cd);(try clear hk);(try clear hi);(try clear b8);obtain ⟨aO,aP,aQ,aR,aS⟩ := qz5_ b;obtain ⟨aT,aU,aV,aW,aX⟩ := qf5_ b) | (go_at_call 35;(with_reducible refine (a0k.calls k3 _ _ ((a0a l0 a).f3) 1 1000 b1 _ ?s1 b3.out dT.out).mono ?_);(case s1 => exact qc_ a2);rintro e w' ⟨rfl,⟨nd,rfl⟩⟩;(try exact qw_)) | (go_at_call 35;(with_reducible refine (a0k.calls k3 _ _ ((a0a l0 a).f4) 1 64 b2 _ ?s1 b5.out dV.out).mono ?_);(case s1 => repeat (first | exact (Kd.a2s b4.out qb_) | (with_reducible refine Kd.a1t ?_ _) | (with_reducible refine Kd.a1u ?_ _) | (with_reducible refine Kd.a2h ?_)));rintro e w' ⟨rfl,⟨nd,rfl⟩⟩;(try exact qw_)))
 repeat (go_quiet (first | ((with_reducible refine a0t (N := 9) rfl ?_);(try (refine a3r (by rfl) ?_;dsimp only));refine qev_ 9 #[.int .i64 0, .int .i64 0, .int .i64 0, .slice none 0 0, .slice none 0 0] 51 ?_;intro c hg a1 hbox hb;have b := am_ (hbox);have ar := qga_ hg;have dI := qga_ hg;replace HB := qbs_ hb;clear hb hbox hg;obtain ⟨au,av,aw,ax,ay⟩ := qz5_ b;obtain ⟨az,aA,aB,aC,aD⟩ := qf5_ b) | ((with_reducible refine a5f (t := 51) (p := 9) rfl ?_);(try (rw [a6k a1];generalize hq_ : World.drewN a1 _ = a1;replace b := am_ (blk_at hq_ b.out);replace HB := am_ (below_at hq_ HB.out);clear hq_));refine a4w (t := 51) (p := 9) (v := ?vo_w27) (w1 := (((((a1.setCell ⟨c,0,none⟩ (.int .i64 ((a0a l0 a).f0))).setCell ⟨c,1,none⟩ (.int .i64 ((a0a l0 a).f1))).setCell ⟨c,2,none⟩ (.int .i64 ((a0a l0 a).f2))).setCell ⟨c,3,none⟩ (.slice j ((a0a l0 a).f3).length l)).setCell ⟨c,4,none⟩ (.slice x ((a0a l0 a).f4).length y))) ?hg ?ho ?hn ?hr ?_;(case ho => rfl);(case hg => rfl);(case hn => rfl);(case hr => exact qq_);intro b7 hw;replace b : Aside0 (b7.heap[c]? = some (.cells #[.int .i64 ((a0a l0 a).f0), .int .i64 ((a0a l0 a).f1), .int .i64 ((a0a l0 a).f2), .slice j ((a0a l0 a).f3).length l, .slice x ((a0a l0 a).f4).length y] 51 (0,0))) := ⟨(by rw [hw];exact (by refine qd_ ?_;refine a0g (cs := #[.int .i64 ((a0a l0 a).f0), .int .i64 ((a0a l0 a).f1), .int .i64 ((a0a l0 a).f2), .slice j ((a0a l0 a).f3).length l, .slice none 0 0]) ?_ 4 _ rfl;refine qd_ ?_;refine a0g (cs := #[.int .i64 ((a0a l0 a).f0), .int .i64 ((a0a l0 a).f1), .int .i64 ((a0a l0 a).f2), .slice none 0 0, .slice none 0 0]) ?_ 3 _ rfl;refine qd_ ?_;refine a0g (cs := #[.int .i64 ((a0a l0 a).f0), .int .i64 ((a0a l0 a).f1), .int .i64 0, .slice none 0 0, .slice none 0 0]) ?_ 2 _ rfl;refine qd_ ?_;refine a0g (cs := #[.int .i64 ((a0a l0 a).f0), .int .i64 0, .int .i64 0, .slice none 0 0, .slice none 0 0]) ?_ 1 _ rfl;refine qd_ ?_;refine a0g (cs := #[.int .i64 0, .int .i64 0, .int .i64 0, .slice none 0 0, .slice none 0 0]) ?_ 0 _ rfl;refine qd_ ?_;exact b.out))⟩;replace HB : Aside0 (Below w.heap.size w b7) := ⟨(by rw [hw];exact qb_)⟩;clear hw;obtain ⟨aE,aF,aG,aH,aI⟩ := qz5_ b;obtain ⟨aJ,aK,aL,aM,aN⟩ := qf5_ b) | (go_at_call 34;(with_reducible refine (a1k.calls k3 (fun k_ => k_ < w.heap.size) _ _ l1 ((a0a l0 a).f1) dD bf _ ?s1 dR.out).mono ?_);(case s1 => exact Kd.V_mk dN.out (Kd.b2r (Kd.C_F b1k bk.out) qb_));rintro e ec ⟨dW,rfl,b8,hb⟩;have dJ := am_ (Kd.b2t (Kd.b1w (ok' := fun k_ => k_ ≠ c) b8 (fun k_ hk_ => Or.elim hk_ (fun hs_ => fun e_ => Nat.not_le.2 hs_ (by rw [e_];exact ar.out)) (fun hn_ => (Kd.a8n (g := c) (o := .cells #[.int .i64 ((a0a l0 a).f0), .int .i64 ((a0a l0 a).f1), .int .i64 ((a0a l0 a).f2), .slice j ((a0a l0 a).f3).length l, .slice x ((a0a l0 a).f4).length y] 51 (0,0)) (qk_ b) k_ hn_)))) (a0z qb_));replace b := qkb_ b hb;replace HB := qbs_ hb;(try clear hb);(try clear cd);(try clear hk);(try clear hi);(try clear b8);obtain ⟨aO,aP,aQ,aR,aS⟩ := qz5_ b;obtain ⟨aT,aU,aV,aW,aX⟩ := qf5_ b) | (go_at_call 35;(with_reducible refine (a0k.calls k3 _ _ ((a0a l0 a).f3) 1 1000 b1 _ ?s1 b3.out dT.out).mono ?_);(case s1 => exact qc_ a2);rintro e w' ⟨rfl,⟨nd,rfl⟩⟩;(try exact qw_)) | (go_at_call 35;(with_reducible refine (a0k.calls k3 _ _ ((a0a l0 a).f4) 1 64 b2 _ ?s1 b5.out dV.out).mono ?_);(case s1 => repeat (first | exact (Kd.a2s b4.out qb_) | (with_reducible refine Kd.a1t ?_ _) | (with_reducible refine Kd.a1u ?_ _) | (with_reducible refine Kd.a2h ?_)));rintro e w' ⟨rfl,⟨nd,rfl⟩⟩;(try exact qw_)));go_upto_region 17 with (first | ((with_reducible refine a0t (N := 9) rfl ?_);(try (refine a3r (by rfl) ?_;dsimp only));refine qev_ 9 #[.int .i64 0, .int .i64 0, .int .i64 0, .slice none 0 0, .slice none 0 0] 51 ?_;intro c hg a1 hbox hb;have b := am_ (hbox);have ar := qga_ hg;have dI := qga_ hg;replace HB := qbs_ hb;clear hb hbox hg;obtain ⟨au,av,aw,ax,ay⟩ := qz5_ b;obtain ⟨az,aA,aB,aC,aD⟩ := qf5_ b) | ((with_reducible refine a5f (t := 51) (p := 9) rfl ?_);(try (rw [a6k a1];generalize hq_ : World.drewN a1 _ = a1;replace b := am_ (blk_at hq_ b.out);replace HB := am_ (below_at hq_ HB.out);clear hq_));refine a4w (t := 51) (p := 9) (v := ?vo_w27) (w1 := (((((a1.setCell ⟨c,0,none⟩ (.int .i64 ((a0a l0 a).f0))).setCell ⟨c,1,none⟩ (.int .i64 ((a0a l0 a).f1))).setCell ⟨c,2,none⟩ (.int .i64 ((a0a l0 a).f2))).setCell ⟨c,3,none⟩ (.slice j ((a0a l0 a).f3).length l)).setCell ⟨c,4,none⟩ (.slice x ((a0a l0 a).f4).length y))) ?hg ?ho ?hn ?hr ?_;(case ho => rfl);(case hg => rfl);(case hn => rfl);(case hr => exact qq_);intro b7 hw;replace b : Aside0 (b7.heap[c]? = some (.cells #[.int .i64 ((a0a l0 a).f0), .int .i64 ((a0a l0 a).f1), .int .i64 ((a0a l0 a).f2), .slice j ((a0a l0 a).f3).length l, .slice x ((a0a l0 a).f4).length y] 51 (0,0))) := ⟨(by rw [hw];exact (by refine qd_ ?_;refine a0g (cs := #[.int .i64 ((a0a l0 a).f0), .int .i64 ((a0a l0 a).f1), .int .i64 ((a0a l0 a).f2), .slice j ((a0a l0 a).f3).length l, .slice none 0 0]) ?_ 4 _ rfl;refine qd_ ?_;refine a0g (cs := #[.int .i64 ((a0a l0 a).f0), .int .i64 ((a0a l0 a).f1), .int .i64 ((a0a l0 a).f2), .slice none 0 0, .slice none 0 0]) ?_ 3 _ rfl;refine qd_ ?_;refine a0g (cs := #[.int .i64 ((a0a l0 a).f0), .int .i64 ((a0a l0 a).f1), .int .i64 0, .slice none 0 0, .slice none 0 0]) ?_ 2 _ rfl;refine qd_ ?_;refine a0g (cs := #[.int .i64 ((a0a l0 a).f0), .int .i64 0, .int .i64 0, .slice none 0 0, .slice none 0 0]) ?_ 1 _ rfl;refine qd_ ?_;refine a0g (cs := #[.int .i64 0, .int .i64 0, .int .i64 0, .slice none 0 0, .slice none 0 0]) ?_ 0 _ rfl;refine qd_ ?_;exact b.out))⟩;replace HB : Aside0 (Below w.heap.size w b7) := ⟨(by rw [hw];exact qb_)⟩;clear hw;obtain ⟨aE,aF,aG,aH,aI⟩ := qz5_ b;obtain ⟨aJ,aK,aL,aM,aN⟩ := qf5_ b) | (go_at_call 34;(with_reducible refine (a1k.calls k3 (fun k_ => k_ < w.heap.size) _ _ l1 ((a0a l0 a).f1) dD bf _ ?s1 dR.out).mono ?_);(case s1 => exact Kd.V_mk dN.out (Kd.b2r (Kd.C_F b1k bk.out) qb_));rintro e ec ⟨dW,rfl,b8,hb⟩;have dJ := am_ (Kd.b2t (Kd.b1w (ok' := fun k_ => k_ ≠ c) b8 (fun k_ hk_ => Or.elim hk_ (fun hs_ => fun e_ => Nat.not_le.2 hs_ (by rw [e_];exact ar.out)) (fun hn_ => (Kd.a8n (g := c) (o := .cells #[.int .i64 ((a0a l0 a).f0), .int .i64 ((a0a l0 a).f1), .int .i64 ((a0a l0 a).f2), .slice j ((a0a l0 a).f3).length l, .slice x ((a0a l0 a).f4).length y] 51 (0,0)) (qk_ b) k_ hn_)))) (a0z qb_));replace b := qkb_ b hb;replace HB := qbs_ hb;(try clear hb);(try clear cd);(try clear hk);(try clear hi);(try clear b8);obtain ⟨aO,aP,aQ,aR,aS⟩ := qz5_ b;obtain ⟨aT,aU,aV,aW,aX⟩ := qf5_ b) | (go_at_call 35;(with_reducible refine (a0k.calls k3 _ _ ((a0a l0 a).f3) 1 1000 b1 _ ?s1 b3.out dT.out).mono ?_);(case s1 => exact qc_ a2);rintro e w' ⟨rfl,⟨nd,rfl⟩⟩;(try exact qw_)) | (go_at_call 35;(with_reducible refine (a0k.calls k3 _ _ ((a0a l0 a).f4) 1 64 b2 _ ?s1 b5.out dV.out).mono ?_);(case s1 => repeat (first | exact (Kd.a2s b4.out qb_) | (with_reducible refine Kd.a1t ?_ _) | (with_reducible refine Kd.a1u ?_ _) | (with_reducible refine Kd.a2h ?_)));rintro e w' ⟨rfl,⟨nd,rfl⟩⟩;(try exact qw_))))
 (try simp only [Act.put,List.setIfInBounds_toArray,List.set_cons_zero,List.set_cons_succ])
 go_cut [137] (fun eh wc => ∃ (kq : Nat) (ab : Bool),eh = .bool ab ∧ Aside0 (a0c.j4 kq l0 l1 a ab ((a0a l0 a).f0) ((a0a l0 a).f1) ((a0a l0 a).f2) ((a0a l0 a).f3) ((a0a l0 a).f4) = some r) ∧ Aside0 (kq ≤ k3) ∧ Aside0 (wc.heap[c]? = some (.cells #[.int .i64 ((a0a l0 a).f0), .int .i64 ((a0a l0 a).f1), .int .i64 ((a0a l0 a).f2),(.slice j ((a0a l0 a).f3).length l),(.slice x ((a0a l0 a).f4).length y)] 51 (0,0))) ∧ Aside0 (Below w.heap.size w wc))
 case first =>
  have H := dE.out
  clear dE
  by_cases bA : bf = true
  rotate_left
  ·replace bA := be_ bA
   subst bA
   replace H := qin_ H
   have H' := am_ H
   clear H
   go_wp2
   repeat (go_quiet (fail);try go_wp2)
   go_meet
   case rel => exact ⟨_,(true),qs_,H',⟨by have := z.out;have := A.out;have := a0.out;first | omega | exact Nat.le_refl _⟩,⟨qk_ b⟩,⟨qb_⟩⟩
  subst bA
  replace H := qip_ H
  by_cases bB : b1 = true
  rotate_left
  ·replace bB := be_ bB
   subst bB
   replace H := qin_ H
   have H' := am_ H
   clear H
   go_wp2
   repeat (go_quiet (fail);try go_wp2)
   go_meet
   case rel => exact ⟨_,(true),qs_,H',⟨by have := z.out;have := A.out;have := a0.out;first | omega | exact Nat.le_refl _⟩,⟨qk_ b⟩,⟨qb_⟩⟩
  subst bB
  replace H := qip_ H
  by_cases bC : b2 = true
  rotate_left
  ·replace bC := be_ bC
   subst bC
   replace H := qin_ H
   have H' := am_ H
   clear H
   go_wp2
   repeat (go_quiet (fail);try go_wp2)
   go_meet
   case rel => exact ⟨_,(true),qs_,H',⟨by have := z.out;have := A.out;have := a0.out;first | omega | exact Nat.le_refl _⟩,⟨qk_ b⟩,⟨qb_⟩⟩
  subst bC
  replace H := qip_ H
  by_cases bD : (((a0a l0 a).f4).length : Int) > 8
  ·rw [if_pos bD] at H
   have a4 : decide (8 < (((a0a l0 a).f4).length : Int)) = true := decide_eq_true bD
   have bV : decide (8 < ((a0a l0 a).f4).length) = true := decide_eq_true (by omega)
   clear bD
   (first | rw [a4] | (simp only [a4j,a4v];rw [a4]) | skip)
   have H' := am_ H
   clear H
   obtain ⟨ce,cf,cg,ch,ci⟩ := qz5_ b;obtain ⟨cj,ck,cl,cm,cn⟩ := qf5_ b
   go_wp2
   repeat (go_quiet (fail);try go_wp2)
   go_meet
   case rel => exact ⟨_,(true),qs_,H',⟨by have := z.out;have := A.out;have := a0.out;first | omega | exact Nat.le_refl _⟩,⟨qk_ b⟩,⟨qb_⟩⟩
  rw [if_neg bD] at H
  have a4 : decide (8 < (((a0a l0 a).f4).length : Int)) = false := decide_eq_false bD
  have bV : decide (8 < ((a0a l0 a).f4).length) = false := decide_eq_false (by omega)
  clear bD
  (first | rw [a4] | (simp only [a4j,a4v];rw [a4]) | skip)
  by_cases bE : ((a0a l0 a).f0) < 1
  ·rw [if_pos bE] at H
   have bW : decide (((a0a l0 a).f0) < 1) = true := decide_eq_true bE
   clear bE
   have H' := am_ H
   clear H
   obtain ⟨co,cp,cq,cr,ct⟩ := qz5_ b;obtain ⟨cu,cv,cw,cx,cy⟩ := qf5_ b
   go_wp2
   repeat (go_quiet (fail);try go_wp2)
   go_meet
   case rel => exact ⟨_,(true),qs_,H',⟨by have := z.out;have := A.out;have := a0.out;first | omega | exact Nat.le_refl _⟩,⟨qk_ b⟩,⟨qb_⟩⟩
  rw [if_neg bE] at H
  have bW : decide (((a0a l0 a).f0) < 1) = false := decide_eq_false bE
  clear bE
  by_cases bF : ((a0a l0 a).f0) > 1000
  ·rw [if_pos bF] at H
   have bX : decide (1000 < ((a0a l0 a).f0)) = true := decide_eq_true bF
   clear bF
   have H' := am_ H
   clear H
   obtain ⟨cz,cA,cB,cC,cD⟩ := qz5_ b;obtain ⟨cE,cF,cG,cH,cI⟩ := qf5_ b
   go_wp2
   repeat (go_quiet (fail);try go_wp2)
   go_meet
   case rel => exact ⟨_,(true),qs_,H',⟨by have := z.out;have := A.out;have := a0.out;first | omega | exact Nat.le_refl _⟩,⟨qk_ b⟩,⟨qb_⟩⟩
  rw [if_neg bF] at H
  have bX : decide (1000 < ((a0a l0 a).f0)) = false := decide_eq_false bF
  clear bF
  by_cases bG : a > 0
  rotate_left
  ·rw [if_neg bG] at H
   have bY : decide (0 < a) = false := decide_eq_false bG
   clear bG
   by_cases bH : ((a0a l0 a).f2) < 1
   ·rw [if_pos bH] at H
    have bZ : decide (((a0a l0 a).f2) < 1) = true := decide_eq_true bH
    clear bH
    have H' := am_ H
    clear H
    obtain ⟨cJ,cK,cL,cM,cN⟩ := qz5_ b;obtain ⟨cO,cP,cQ,cR,cS⟩ := qf5_ b
    go_wp2
    repeat (go_quiet (fail);try go_wp2)
    go_meet
    case rel => exact ⟨_,(true),qs_,H',⟨by have := z.out;have := A.out;have := a0.out;first | omega | exact Nat.le_refl _⟩,⟨qk_ b⟩,⟨qb_⟩⟩
   rw [if_neg bH] at H
   have bZ : decide (((a0a l0 a).f2) < 1) = false := decide_eq_false bH
   clear bH
   have H' := am_ H
   clear H
   obtain ⟨cT,cU,cV,cW,cX⟩ := qz5_ b;obtain ⟨cY,cZ,d0,d1,d2⟩ := qf5_ b
   go_wp2
   repeat (go_quiet (fail);try go_wp2)
   go_meet
   case rel => exact ⟨_,(decide (((a0a l0 a).f2) > 100)),qs_,H',⟨by have := z.out;have := A.out;have := a0.out;first | omega | exact Nat.le_refl _⟩,⟨qk_ b⟩,⟨qb_⟩⟩
  rw [if_pos bG] at H
  have bY : decide (0 < a) = true := decide_eq_true bG
  clear bG
  obtain ⟨B,ac⟩ : ∃ j_ : Int,(wrap64 (a - 1)) = j_ := ⟨_,rfl⟩
  replace H : (if 0 ≤ (B) then (if (B) < (l0.length : Int) then (if ((a0a l0 a).f0) ≤ ((a0a l0 (B)).f0) then (a0c.j4 k3 l0 l1 a true ((a0a l0 a).f0) ((a0a l0 a).f1) ((a0a l0 a).f2) ((a0a l0 a).f3) ((a0a l0 a).f4)) else (if ((a0a l0 a).f2) < 1 then (a0c.j4 k3 l0 l1 a true ((a0a l0 a).f0) ((a0a l0 a).f1) ((a0a l0 a).f2) ((a0a l0 a).f3) ((a0a l0 a).f4)) else (a0c.j4 k3 l0 l1 a (decide (((a0a l0 a).f2) > 100)) ((a0a l0 a).f0) ((a0a l0 a).f1) ((a0a l0 a).f2) ((a0a l0 a).f3) ((a0a l0 a).f4)))) else (none)) else (none)) = some r := by first | (rw [ac] at H;exact H) | (simp only [ac] at H ⊢;exact H)
  have hji41w : (IntKind.i64.wrap (a - 1)) = B := (a4j _).trans ac
  obtain ⟨dK,H⟩ := qid_ H
  obtain ⟨dL,H⟩ := qid_ H
  by_cases bI : ((a0a l0 a).f0) ≤ ((a0a l0 (B)).f0)
  ·rw [if_pos bI] at H
   have ca : decide (((a0a l0 a).f0) ≤ ((a0a l0 (B)).f0)) = true := decide_eq_true bI
   clear bI
   have H' := am_ H
   clear H
   obtain ⟨d3,d4,d5,d6,d7⟩ := qz5_ b;obtain ⟨d8,d9,da,db,dc⟩ := qf5_ b
   have M : 0 ≤ ((B) : Int) := ot_
   have O : (B) < (l0.length : Int) := ot_
   obtain ⟨aY,dd,de,df,dg,bi,m,n,q,s,u,D,E,G,J⟩ := a5j ad.out (B) M O
   obtain rfl : bU = aY := (by injection bi)
   replace m := qh_ HB m
   replace n := qh_ HB n
   replace q := qh_ HB q
   replace s := qh_ HB s
   replace u := qh_ HB u
   have bJ := am_ E
   have bK := am_ D
   clear E D
   have bL := am_ J
   have bM := am_ G
   clear J G
   replace M := eq_true M
   replace O := eq_true O
   go_wp2
   repeat (go_quiet (fail);try go_wp2)
   try subst ac
   go_meet
   case rel => exact ⟨_,(true),qs_,H',⟨by have := z.out;have := A.out;have := a0.out;first | omega | exact Nat.le_refl _⟩,⟨qk_ b⟩,⟨qb_⟩⟩
  rw [if_neg bI] at H
  have ca : decide (((a0a l0 a).f0) ≤ ((a0a l0 (B)).f0)) = false := decide_eq_false bI
  clear bI
  by_cases bN : ((a0a l0 a).f2) < 1
  ·rw [if_pos bN] at H
   have cb : decide (((a0a l0 a).f2) < 1) = true := decide_eq_true bN
   clear bN
   have H' := am_ H
   clear H
   obtain ⟨dh,di,dj,dk,dl⟩ := qz5_ b;obtain ⟨dm,dn,dp,dq,dr⟩ := qf5_ b
   have M : 0 ≤ ((B) : Int) := ot_
   have O : (B) < (l0.length : Int) := ot_
   obtain ⟨aY,dd,de,df,dg,bi,m,n,q,s,u,D,E,G,J⟩ := a5j ad.out (B) M O
   obtain rfl : bU = aY := (by injection bi)
   replace m := qh_ HB m
   replace n := qh_ HB n
   replace q := qh_ HB q
   replace s := qh_ HB s
   replace u := qh_ HB u
   have bJ := am_ E
   have bK := am_ D
   clear E D
   have bL := am_ J
   have bM := am_ G
   clear J G
   replace M := eq_true M
   replace O := eq_true O
   go_wp2
   repeat (go_quiet (fail);try go_wp2)
   try subst ac
   go_meet
   case rel => exact ⟨_,(true),qs_,H',⟨by have := z.out;have := A.out;have := a0.out;first | omega | exact Nat.le_refl _⟩,⟨qk_ b⟩,⟨qb_⟩⟩
  rw [if_neg bN] at H
  have cb : decide (((a0a l0 a).f2) < 1) = false := decide_eq_false bN
  clear bN
  have H' := am_ H
  clear H
  obtain ⟨ds,dt,du,dv,dw⟩ := qz5_ b;obtain ⟨dx,dy,dz,dA,dB⟩ := qf5_ b
  have M : 0 ≤ ((B) : Int) := ot_
  have O : (B) < (l0.length : Int) := ot_
  obtain ⟨aY,dd,de,df,dg,bi,m,n,q,s,u,D,E,G,J⟩ := a5j ad.out (B) M O
  obtain rfl : bU = aY := (by injection bi)
  replace m := qh_ HB m
  replace n := qh_ HB n
  replace q := qh_ HB q
  replace s := qh_ HB s
  replace u := qh_ HB u
  have bJ := am_ E
  have bK := am_ D
  clear E D
  have bL := am_ J
  have bM := am_ G
  clear J G
  replace M := eq_true M
  replace O := eq_true O
  go_wp2
  repeat (go_quiet (fail);try go_wp2)
  try subst ac
  go_meet
  case rel => exact ⟨_,(decide (((a0a l0 a).f2) > 100)),qs_,H',⟨by have := z.out;have := A.out;have := a0.out;first | omega | exact Nat.le_refl _⟩,⟨qk_ b⟩,⟨qb_⟩⟩
 case rest =>
 clear dE
 try clear c1
 try clear Z
 try clear ae
 try clear c5
 try clear bd
 try clear bR
 try clear b6
 try clear P
 try clear ao
 try clear ap
 try clear bb
 try clear bc
 try clear be
 try clear bT
 try clear dH
 try clear bA
 try clear bB
 try clear bC
 try clear a4
 try clear bV
 try clear bW
 try clear bX
 try clear bY
 try clear dK
 try clear dL
 try clear ca
 try clear cb
 try clear bZ
 try clear au av aw ax ay
 try clear aE aF aG aH aI
 try clear aO aP aQ aR aS
 try clear ce cf cg ch ci
 try clear co cp cq cr ct
 try clear cz cA cB cC cD
 try clear d3 d4 d5 d6 d7
 try clear dh di dj dk dl
 try clear ds dt du dv dw
 try clear cJ cK cL cM cN
 try clear cT cU cV cW cX
 try clear az aA aB aC aD
 try clear aJ aK aL aM aN
 try clear aT aU aV aW aX
 try clear cj ck cl cm cn
 try clear cu cv cw cx cy
 try clear cE cF cG cH cI
 try clear d8 d9 da db dc
 try clear dm dn dp dq dr
 try clear dx dy dz dA dB
 try clear cO cP cQ cR cS
 try clear cY cZ d0 d1 d2
 try clear T
 try clear K
 try clear W
 try clear L
 try clear X
 try clear Y
 try clear a6
 try clear a7
 try clear a8
 try clear a9
 try clear aa
 try clear m
 try clear n
 try clear q
 try clear s
 try clear u
 try clear af
 try clear ah
 try clear ak
 try clear bg
 try clear M
 try clear ag
 try clear ai
 try clear al
 try clear bh
 try clear O
 obtain ⟨kq,ab,rfl,HA,cc,b,HB⟩ := hcut
 cases kq with
 | zero => exact absurd HA.out (by simp [a0c.j4])
 | succ dX =>
 have H := HA.out
 clear HA
 simp only [a0c.j4] at H
 by_cases dC : ab = true
 ·subst dC
  replace H := qip_ H
  obtain rfl := si_ H
  go_wp2
  repeat (go_quiet (fail);try go_wp2)
  go_ret
  exact ⟨qx_,qb_⟩
 replace dC := be_ dC
 subst dC
 replace H := qin_ H
 have H' := am_ H
 clear H
 go_wp2
 repeat (go_quiet (fail);try go_wp2)
 go_loopg [14] dX (fun kq ev w' => ∃ (i : Int),ev = .int .i64 i ∧ Aside0 (a0c.l2 kq l0 l1 a i ((a0a l0 a).f0) ((a0a l0 a).f1) ((a0a l0 a).f2) ((a0a l0 a).f3) ((a0a l0 a).f4) = some r) ∧ Aside0 (kq ≤ dX) ∧ Aside0 (w'.heap[c]? = some (.cells #[.int .i64 ((a0a l0 a).f0), .int .i64 ((a0a l0 a).f1), .int .i64 ((a0a l0 a).f2),(.slice j ((a0a l0 a).f3).length l),(.slice x ((a0a l0 a).f4).length y)] 51 (0,0))) ∧ Aside0 (Below w.heap.size w w'))
 case atStart => exact ⟨(0),qs_,H',⟨Nat.le_refl _⟩,⟨qk_ b⟩,⟨qb_⟩⟩
 case round =>
 clear H'
 try clear c1
 try clear Z
 try clear ae
 try clear c5
 try clear bd
 try clear bR
 try clear b6
 try clear P
 try clear ao
 try clear ap
 try clear bb
 try clear bc
 try clear be
 try clear bT
 try clear dH
 try clear bA
 try clear bB
 try clear bC
 try clear a4
 try clear bV
 try clear bW
 try clear bX
 try clear bY
 try clear dK
 try clear dL
 try clear ca
 try clear cb
 try clear bZ
 try clear dC
 try clear au av aw ax ay
 try clear aE aF aG aH aI
 try clear aO aP aQ aR aS
 try clear ce cf cg ch ci
 try clear co cp cq cr ct
 try clear cz cA cB cC cD
 try clear d3 d4 d5 d6 d7
 try clear dh di dj dk dl
 try clear ds dt du dv dw
 try clear cJ cK cL cM cN
 try clear cT cU cV cW cX
 try clear az aA aB aC aD
 try clear aJ aK aL aM aN
 try clear aT aU aV aW aX
 try clear cj ck cl cm cn
 try clear cu cv cw cx cy
 try clear cE cF cG cH cI
 try clear d8 d9 da db dc
 try clear dm dn dp dq dr
 try clear dx dy dz dA dB
 try clear cO cP cQ cR cS
 try clear cY cZ d0 d1 d2
 try clear T
 try clear K
 try clear W
 try clear L
 try clear X
 try clear Y
 try clear a6
 try clear a7
 try clear a8
 try clear a9
 try clear aa
 try clear m
 try clear n
 try clear q
 try clear s
 try clear u
 try clear af
 try clear ah
 try clear ak
 try clear bg
 try clear M
 try clear ag
 try clear ai
 try clear al
 try clear bh
 try clear O
 obtain ⟨i,rfl,HA,dM,b,HB⟩ := hrel
 cases gk with
 | zero => exact absurd HA.out (by simp [a0c.l2])
 | succ k5 =>
 have H := HA.out
 clear HA
 simp only [a0c.l2] at H
 by_cases bO : i < (((a0a l0 a).f3).length : Int)
 rotate_left
 ·rw [if_neg bO] at H
  have e1 : decide (i < (((a0a l0 a).f3).length : Int)) = false := decide_eq_false bO
  clear bO
  have H' := am_ H
  clear H
  obtain ⟨ew,ex,ey,ez,eA⟩ := qz5_ b;obtain ⟨eB,eC,eD,eE,eF⟩ := qf5_ b
  go_wp2
  repeat (go_quiet (fail);try go_wp2)
  go_roundg k5
  case measure => have := z.out;have := A.out;have := a0.out;have := cc.out;have := dM.out;omega
  case rel => exact ⟨(wrap64 (a + 1)),qs_,H',⟨by have := z.out;have := A.out;have := a0.out;have := cc.out;have := dM.out;omega⟩,⟨qb_⟩⟩
 rw [if_pos bO] at H
 have e1 : decide (i < (((a0a l0 a).f3).length : Int)) = true := decide_eq_true bO
 clear bO
 obtain ⟨f5,H⟩ := qid_ H
 replace H := bm_ H
 obtain ⟨a5,dY,H⟩ := H
 have bP := am_ dY
 clear dY
 by_cases bQ : a5 < 0
 ·rw [if_pos bQ] at H
  have e2 : decide (a5 < 0) = true := decide_eq_true bQ
  clear bQ
  obtain rfl := si_ H
  obtain ⟨eG,eH,eI,eJ,eK⟩ := qz5_ b;obtain ⟨eL,eM,eN,eO,eP⟩ := qf5_ b
  have am : 0 ≤ (i : Int) := ot_
  have an : i < (((a0a l0 a).f3).length : Int) := ot_
  obtain ⟨e3,dF,a3⟩ := Kd.a4t a2.out i am an
  cases dF
  replace a3 := qh_ HB a3
  replace am := eq_true am
  replace an := eq_true an
  go_wp2_with (first | (go_at_call 36;(with_reducible refine (a1b.calls k5 _ _ l0 a (rd ((a0a l0 a).f3) i) a5 _ ?s1 bj.out bP.out).mono ?_);(case s1 => exact qc_ ad);rintro e w' ⟨rfl,⟨nd,rfl⟩⟩;(try exact qw_)))
  repeat (go_quiet (first | (go_at_call 36;(with_reducible refine (a1b.calls k5 _ _ l0 a (rd ((a0a l0 a).f3) i) a5 _ ?s1 bj.out bP.out).mono ?_);(case s1 => exact qc_ ad);rintro e w' ⟨rfl,⟨nd,rfl⟩⟩;(try exact qw_)));try go_wp2_with (first | (go_at_call 36;(with_reducible refine (a1b.calls k5 _ _ l0 a (rd ((a0a l0 a).f3) i) a5 _ ?s1 bj.out bP.out).mono ?_);(case s1 => exact qc_ ad);rintro e w' ⟨rfl,⟨nd,rfl⟩⟩;(try exact qw_))))
  go_ret
  exact ⟨qx_,qb_⟩
 rw [if_neg bQ] at H
 have e2 : decide (a5 < 0) = false := decide_eq_false bQ
 clear bQ
 have H' := am_ H
 clear H
 obtain ⟨eQ,eR,eS,eT,eU⟩ := qz5_ b;obtain ⟨eV,eW,eX,eY,eZ⟩ := qf5_ b
 have am : 0 ≤ (i : Int) := ot_
 have an : i < (((a0a l0 a).f3).length : Int) := ot_
 obtain ⟨e3,dF,a3⟩ := Kd.a4t a2.out i am an
 cases dF
 replace a3 := qh_ HB a3
 replace am := eq_true am
 replace an := eq_true an
 go_wp2_with (first | (go_at_call 36;(with_reducible refine (a1b.calls k5 _ _ l0 a (rd ((a0a l0 a).f3) i) a5 _ ?s1 bj.out bP.out).mono ?_);(case s1 => exact qc_ ad);rintro e w' ⟨rfl,⟨nd,rfl⟩⟩;(try exact qw_)))
 repeat (go_quiet (first | (go_at_call 36;(with_reducible refine (a1b.calls k5 _ _ l0 a (rd ((a0a l0 a).f3) i) a5 _ ?s1 bj.out bP.out).mono ?_);(case s1 => exact qc_ ad);rintro e w' ⟨rfl,⟨nd,rfl⟩⟩;(try exact qw_)));try go_wp2_with (first | (go_at_call 36;(with_reducible refine (a1b.calls k5 _ _ l0 a (rd ((a0a l0 a).f3) i) a5 _ ?s1 bj.out bP.out).mono ?_);(case s1 => exact qc_ ad);rintro e w' ⟨rfl,⟨nd,rfl⟩⟩;(try exact qw_))))
 go_roundg k5
 case measure => have := z.out;have := A.out;have := a0.out;have := cc.out;have := dM.out;omega
 case rel => exact ⟨(wrap64 (i + 1)),qs_,H',⟨by have := z.out;have := A.out;have := a0.out;have := cc.out;have := dM.out;omega⟩,⟨qk_ b⟩,⟨qb_⟩⟩
end Go.Proofs.Ytheibjkjmkanoaa.Px
