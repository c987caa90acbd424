/- Contracts of Go functions, printed. Conditions: as each theorem states. -/
import Derived.Test.YtheibjkjmkanoaaPx0
import Derived.Test.YtheibjkjmkanoaaPx23
import Derived.Test.YtheibjkjmkanoaaPx26
namespace Go.Proofs.Ytheibjkjmkanoaa.Px
open Go.Proofs.Ytheibjkjmkanoaa.Given
open Go.RowKit Go.Proofs.YtheibjkjmkanoaaW.PrintWords Go.Proofs.YtheibjkjmkanoaaW.PrintLast Go.Proofs.YtheibjkjmkanoaaW.PrintMore
attribute [local go_sem] a3r a3s a4e a4f a3k a3l a3t a3u
set_option linter.unusedVariables false
set_option linter.unusedSimpArgs false
mutual
def a0u.l0 : Nat → List (S51) → List (S42) → Int → List Int → List (S42) → Int → Option ((List (S42)))
 | 0,_,_,_,_,_,_ => none
 | k + 1,x0,x1,x2,x3,x9,a => if a < (x0.length : Int) then (if 0 ≤ a then ((a2c.f k x3 ((a0a x0 a).f0)).bind fun b => (if b = true then (a0u.j1 k x0 x1 x2 x3 x9 a false) else (if a < (x1.length : Int) then (a0u.j1 k x0 x1 x2 x3 x9 a (decide (((a0b x1 a).f1) < x2))) else (none)))) else (none)) else (some x9)
def a0u.j1 : Nat → List (S51) → List (S42) → Int → List Int → List (S42) → Int → Bool → Option ((List (S42)))
 | 0,_,_,_,_,_,_,_ => none
 | k + 1,x0,x1,x2,x3,x9,a,b => a0u.l1 k x0 x1 x2 x3 x9 a b 0
def a0u.l1 : Nat → List (S51) → List (S42) → Int → List Int → List (S42) → Int → Bool → Int → Option ((List (S42)))
 | 0,_,_,_,_,_,_,_,_ => none
 | k + 1,x0,x1,x2,x3,x9,a,d,b => if 0 ≤ a then (if a < (x0.length : Int) then (if b < (((a0a x0 a).f3).length : Int) then (if d = true then (if 0 ≤ b then ((a1m.f k x0 a (rd ((a0a x0 a).f3) b)).bind fun c => (if 0 ≤ c then (if c < (x9.length : Int) then (a0u.l1 k x0 x1 x2 x3 x9 a (decide (((a0b x9 c).f2) > 0)) (wrap64 (b + 1))) else (none)) else (none))) else (none)) else (a0u.l1 k x0 x1 x2 x3 x9 a false (wrap64 (b + 1)))) else (if d = true then (if a < (x1.length : Int) then (if a < (x9.length : Int) then (a0u.l0 k x0 x1 x2 x3 (x9.set (a : Int).toNat (⟨(a0b x1 a).f0,(a0b x1 a).f1,(a0b x1 a).f2⟩ : S42)) (wrap64 (a + 1))) else (none)) else (none)) else (a0u.l0 k x0 x1 x2 x3 x9 (wrap64 (a + 1))))) else (none)) else (none)
end
def a0u.f (k : Nat) (l0 : List (S51)) (l1 : List (S42)) (a2 : Int) (l3 : List Int) : Option ((List (S42))) := if 0 ≤ (l0.length : Int) then (if ((l0.length : Int) : Int).toNat ≤ 11728124029610 then (a0u.l0 k l0 l1 a2 l3 (List.replicate ((l0.length : Int) : Int).toNat z42) 0) else (none)) else (none)
theorem a0u.a1t : ∀ k,(∀ y0 y1 y2 y3 y4 y5,LeO (a0u.l0 k y0 y1 y2 y3 y4 y5) (a0u.l0 (k + 1) y0 y1 y2 y3 y4 y5)) ∧ (∀ y0 y1 y2 y3 y4 y5 y6,LeO (a0u.j1 k y0 y1 y2 y3 y4 y5 y6) (a0u.j1 (k + 1) y0 y1 y2 y3 y4 y5 y6)) ∧ (∀ y0 y1 y2 y3 y4 y5 y6 y7,LeO (a0u.l1 k y0 y1 y2 y3 y4 y5 y6 y7) (a0u.l1 (k + 1) y0 y1 y2 y3 y4 y5 y6 y7))
 | 0 => ⟨fun _ _ _ _ _ _ r h => by simp [a0u.l0] at h,fun _ _ _ _ _ _ _ r h => by simp [a0u.j1] at h,fun _ _ _ _ _ _ _ _ r h => by simp [a0u.l1] at h⟩
 | k + 1 => by
  obtain ⟨a,b,c⟩ := a0u.a1t k
  refine ⟨?_,?_,?_⟩ <;> intros <;> (first | unfold a0u.l0 | unfold a0u.j1 | unfold a0u.l1) <;> with_reducible (repeat' first | apply a | apply b | apply c | apply a1m.mono | apply a2c.mono | apply LeO.refl | apply LeO.none | apply LeO.ite | refine LeO.bind ?_ (fun _ => ?_))
theorem a0u.mono : ∀ a0 a1 a2 a3 k,LeO (a0u.f k a0 a1 a2 a3) (a0u.f (k + 1) a0 a1 a2 a3) := by
 intro a0 a1 a2 a3 k
 obtain ⟨a,b,c⟩ := a0u.a1t k
 unfold a0u.f
 with_reducible (repeat' first | apply a | apply b | apply c | apply a1m.mono | apply a2c.mono | apply LeO.refl | apply LeO.none | apply LeO.ite | refine LeO.bind ?_ (fun _ => ?_))
set_option maxHeartbeats 8000000 in
set_option maxRecDepth 100000 in
theorem a0u.calls (k : Nat) (A0 : Option Addr) (c0 : Nat) (l0 : List (S51)) (A1 : Option Addr) (c1 : Nat) (l1 : List (S42)) (a2 : Int) (A3 : Option Addr) (c3 : Nat) (l3 : List Int) (r : List (S42)) (w : World) (bw : Kd.C k51 w A0 l0.length l0) (bx : l0.length ≤ c0) (bz : Kd.C k42 w A1 l1.length l1) (bA : l1.length ≤ c1) (bB : Kd.C (Kd.int .i64) w A3 l3.length l3) (bC : l3.length ≤ c3) (h : a0u.f k l0 l1 a2 l3 = some r) :
  Calls Try.prog 26 #[.slice A0 l0.length c0, .slice A1 l1.length c1, .int .i64 a2, .slice A3 l3.length c3] w fun e w' => ∃ bD : Value,e = .returned (bD) ∧ Kd.R k42 42 w' w.heap.size (fun _ => True) bD r ∧ Below w.heap.size w w' := by
 have cD := Try.underlying42
 have ad := am_ bw
 have bX := am_ bx
 clear bw bx
 have bE := am_ bz
 have cK := am_ bA
 clear bz bA
 have bY := am_ bB
 have bZ := am_ bC
 clear bB bC
 have HB := am_ (Below.refl w.heap.size w)
 have H : (if 0 ≤ (l0.length : Int) then (if ((l0.length : Int) : Int).toNat ≤ 11728124029610 then (a0u.l0 k l0 l1 a2 l3 (List.replicate ((l0.length : Int) : Int).toNat z42) 0) else (none)) else (none)) = some r := h
 clear h
 by_cases c5 : 0 ≤ (l0.length : Int)
 rotate_left
 ·rw [if_neg c5] at H
  exact absurd H (by simp)
 rw [if_pos c5] at H
 have aI := eq_true c5
 have aJ : decide (0 ≤ (l0.length : Int)) = true := decide_eq_true c5
 clear c5
 by_cases c6 : ((l0.length : Int) : Int).toNat ≤ 11728124029610
 rotate_left
 ·rw [if_neg c6] at H
  exact absurd H (by simp)
 rw [if_pos c6] at H
 have aK := eq_true c6
 have aL : decide (((l0.length : Int) : Int).toNat ≤ 11728124029610) = true := decide_eq_true c6
 clear c6
 obtain ⟨b6,P⟩ : ∃ y_ : List (S42),y_ = (List.replicate ((l0.length : Int) : Int).toNat z42) := ⟨_,rfl⟩
 replace H : (a0u.l0 k l0 l1 a2 l3 b6 0) = some r := by first | (rw [P];with_reducible exact H) | (have ae := (Option.bind_some _ _).symm.trans H;rw [P];with_reducible exact ae) | (have ae := (Option.bind_some _ _).symm.trans H;with_reducible exact ae) | with_reducible exact H | (rw [P];exact H) | exact H
 have b0 := am_ P
 clear P
 have H' := am_ H
 clear H
 go_enter Try.func26,Try.ntmps26
 go_wp2_with (first | ((with_reducible refine a1d (N := 16) rfl ?_);refine Kd.b9j k42 _ 42 rfl (N := 16) rfl 24 _ _ rfl (l0.length : Int) rfl rfl Try.underlying24 (.agg #[(.int .i64 0),(.int .i64 0),(.int .i64 0)]) 24 a8r rfl (by decide) (by omega) z42 (ok := fun _ => True) (okp := fun _ => True) (a5e _ _ _ z42 ) (fun _ hk => hk) trivial (ot_) (Nat.le_trans (Nat.mul_le_mul_right _ (ot_ : (l0.length : Int).toNat ≤ 11728124029610)) (by omega)) (Below.refl _ _) (Nat.le_refl _) ?_;intro aM w7 aH hb hg_ hnew_;clear hg_ hnew_;(first | rw [← b0.out] at aH | (simp only [Int.reduceToNat] at aH;rw [← b0.out] at aH));have br := am_ (Kd.a3b aH (a0r qb_));replace HB := qbs_ hb;clear hb aH))
 go_loopg [10] k (fun kq ca w' => ∃ (d : List (S42)) (a : Int),ca = .int .i64 a ∧ Aside0 (a0u.l0 kq l0 l1 a2 l3 d a = some r) ∧ Aside0 (kq ≤ k) ∧ Aside0 (Kd.R k42 42 w' w.heap.size (fun _ => True) aM d) ∧ Aside0 (Below w.heap.size w w'))
 case atStart => exact ⟨(b6),(0),qs_,H',⟨Nat.le_refl _⟩,⟨by (with_reducible repeat (first | apply Kd.a2k | apply Kd.a2l | apply Kd.a2f));exact br.out⟩,⟨qb_⟩⟩
 case round =>
 clear H'
 try clear c1
 try clear c3
 try clear aI
 try clear aJ
 try clear aK
 try clear aL
 obtain ⟨d,a,rfl,HA,M,HO_9,HB⟩ := hrel
 cases gk with
 | zero => exact absurd HA.out (by simp [a0u.l0])
 | succ k1 =>
 have H := HA.out
 clear HA
 simp only [a0u.l0] at H
 by_cases c9 : a < (l0.length : Int)
 rotate_left
 ·rw [if_neg c9] at H
  have aN : decide (a < (l0.length : Int)) = false := decide_eq_false c9
  clear c9
  obtain rfl := si_ H
  go_wp2
  go_ret
  exact ⟨_,qx_,by (with_reducible repeat (first | apply Kd.a2k | apply Kd.a2l | apply Kd.a2f));exact HO_9.out,qb_⟩
 rw [if_pos c9] at H
 have aN : decide (a < (l0.length : Int)) = true := decide_eq_true c9
 clear c9
 obtain ⟨b1,H⟩ := qid_ H
 replace H := bm_ H
 obtain ⟨b7,b8,H⟩ := H
 have cb := am_ b8
 clear b8
 have aO := am_ H
 clear H
 have af : 0 ≤ (a : Int) := ot_
 have ag : a < (l0.length : Int) := ot_
 obtain ⟨T,cc,cd,ce,cf,bF,B,D,E,G,I,ao,ap,aq,ar⟩ := a4i ad.out a af ag
 cases bF
 replace B := qh_ HB B
 replace D := qh_ HB D
 replace E := qh_ HB E
 replace G := qh_ HB G
 replace I := qh_ HB I
 have bN := am_ ap
 have bO := am_ ao
 clear ap ao
 have bP := am_ ar
 have bQ := am_ aq
 clear ar aq
 replace af := eq_true af
 replace ag := eq_true ag
 go_upto_region 6 with (first | ((with_reducible refine a0i (f := 52) rfl ?_);refine a1i (some 29) rfl rfl Try.func52 (by kernel_rfl) rfl #[.slice A3 l3.length c3, .int .i64 ((a0a l0 a).f0)] rfl ql_ ?_;(with_reducible refine (a2c.calls k1 _ _ l3 ((a0a l0 a).f0) b7 _ ?s1 bZ.out cb.out).mono ?_);(case s1 => exact qc_ bY);rintro e w' ⟨rfl,⟨nd,rfl⟩⟩;refine ⟨_,rfl,?_⟩))
 (try simp only [Act.put,List.setIfInBounds_toArray,List.set_cons_zero,List.set_cons_succ])
 go_cut [12] (fun b9 wc => ∃ (kq : Nat) (U : Bool),b9 = .bool U ∧ Aside0 (a0u.j1 kq l0 l1 a2 l3 d a U = some r) ∧ Aside0 (kq ≤ k1) ∧ Aside0 (Kd.R k42 42 wc w.heap.size (fun _ => True) aM d) ∧ Aside0 (Below w.heap.size w wc))
 case first =>
  have H := aO.out
  clear aO
  by_cases au : b7 = true
  ·subst au
   replace H := qip_ H
   have H' := am_ H
   clear H
   go_wp2
   go_meet
   case rel => exact ⟨_,(false),qs_,H',⟨by have := M.out;first | omega | exact Nat.le_refl _⟩,⟨by (with_reducible repeat (first | apply Kd.a2k | apply Kd.a2l | apply Kd.a2f));exact HO_9.out⟩,⟨qb_⟩⟩
  replace au := be_ au
  subst au
  replace H := qin_ H
  obtain ⟨a9,H⟩ := qid_ H
  (first | rw [a9] | (simp only [a4m,a4v];rw [a9]) | skip)
  have H' := am_ H
  clear H
  have ah : 0 ≤ (a : Int) := ot_
  have ai : a < (l1.length : Int) := ot_
  obtain ⟨cs,bG,J,K,L⟩ := a3o bE.out a ah ai
  cases bG
  replace J := qh_ HB J
  replace K := qh_ HB K
  replace L := qh_ HB L
  replace ah := eq_true ah
  replace ai := eq_true ai
  go_wp2
  go_meet
  case rel => exact ⟨_,(decide (((a0b l1 a).f1) < a2)),qs_,H',⟨by have := M.out;first | omega | exact Nat.le_refl _⟩,⟨by (with_reducible repeat (first | apply Kd.a2k | apply Kd.a2l | apply Kd.a2f));exact HO_9.out⟩,⟨qb_⟩⟩
 case rest =>
 clear aO
 try clear c1
 try clear c3
 try clear aI
 try clear aJ
 try clear aK
 try clear aL
 try clear aN
 try clear b1
 try clear au
 try clear a9
 try clear B
 try clear D
 try clear E
 try clear G
 try clear I
 try clear J
 try clear K
 try clear L
 try clear af
 try clear ah
 try clear ag
 try clear ai
 obtain ⟨kq,U,rfl,HA,A,HO_9,HB⟩ := hcut
 cases kq with
 | zero => exact absurd HA.out (by simp [a0u.j1])
 | succ ba =>
 have H := HA.out
 clear HA
 simp only [a0u.j1] at H
 have H' := am_ H
 clear H
 go_wp2
 go_loopg [12,13] ba (fun kq b9 cg w' => ∃ (W : Bool) (s : Int),b9 = .bool W ∧ cg = .int .i64 s ∧ Aside0 (a0u.l1 kq l0 l1 a2 l3 d a W s = some r) ∧ Aside0 (kq ≤ ba) ∧ Aside0 (Kd.R k42 42 w' w.heap.size (fun _ => True) aM d) ∧ Aside0 (Below w.heap.size w w'))
 case atStart => exact ⟨(U),(0),qs_,qs_,H',⟨Nat.le_refl _⟩,⟨by (with_reducible repeat (first | apply Kd.a2k | apply Kd.a2l | apply Kd.a2f));exact HO_9.out⟩,⟨qb_⟩⟩
 case round =>
 clear H'
 try clear c1
 try clear c3
 try clear aI
 try clear aJ
 try clear aK
 try clear aL
 try clear aN
 try clear b1
 try clear au
 try clear a9
 try clear B
 try clear D
 try clear E
 try clear G
 try clear I
 try clear J
 try clear K
 try clear L
 try clear af
 try clear ah
 try clear ag
 try clear ai
 obtain ⟨W,s,rfl,rfl,HA,a8,HO_9,HB⟩ := hrel
 cases gk with
 | zero => exact absurd HA.out (by simp [a0u.l1])
 | succ k3 =>
 have H := HA.out
 clear HA
 simp only [a0u.l1] at H
 obtain ⟨ct,H⟩ := qid_ H
 obtain ⟨cu,H⟩ := qid_ H
 by_cases av : s < (((a0a l0 a).f3).length : Int)
 ·rw [if_pos av] at H
  have bs : decide (s < (((a0a l0 a).f3).length : Int)) = true := decide_eq_true av
  clear av
  by_cases b2 : W = true
  rotate_left
  ·replace b2 := be_ b2
   subst b2
   replace H := qin_ H
   have H' := am_ H
   clear H
   have u : 0 ≤ (a : Int) := ot_
   have x : a < (l0.length : Int) := ot_
   obtain ⟨z,aj,ak,al,am,O,g,i,l,b,c,m,n,o,q⟩ := a4i ad.out a u x
   obtain rfl : T = z := (by injection O)
   replace g := qh_ HB g
   replace i := qh_ HB i
   replace l := qh_ HB l
   replace b := qh_ HB b
   replace c := qh_ HB c
   have a1 := am_ n
   have a3 := am_ m
   clear n m
   have a4 := am_ q
   have a5 := am_ o
   clear q o
   replace u := eq_true u
   replace x := eq_true x
   go_wp2
   go_roundg k3
   case measure => have := M.out;have := A.out;have := a8.out;omega
   case rel => exact ⟨(false),(wrap64 (s + 1)),qs_,qs_,H',⟨by have := M.out;have := A.out;have := a8.out;omega⟩,⟨by (with_reducible repeat (first | apply Kd.a2k | apply Kd.a2l | apply Kd.a2f));exact HO_9.out⟩,⟨qb_⟩⟩
  subst b2
  replace H := qip_ H
  obtain ⟨cv,H⟩ := qid_ H
  replace H := bm_ H
  obtain ⟨an,bb,H⟩ := H
  have ch := am_ bb
  clear bb
  obtain ⟨cw,H⟩ := qid_ H
  obtain ⟨cx,H⟩ := qid_ H
  have H' := am_ H
  clear H
  have u : 0 ≤ (a : Int) := ot_
  have x : a < (l0.length : Int) := ot_
  obtain ⟨z,aj,ak,al,am,O,g,i,l,b,c,m,n,o,q⟩ := a4i ad.out a u x
  obtain rfl : T = z := (by injection O)
  replace g := qh_ HB g
  replace i := qh_ HB i
  replace l := qh_ HB l
  replace b := qh_ HB b
  replace c := qh_ HB c
  have a1 := am_ n
  have a3 := am_ m
  clear n m
  have a4 := am_ q
  have a5 := am_ o
  clear q o
  replace u := eq_true u
  replace x := eq_true x
  have aP : 0 ≤ (a : Int) := ot_
  have aQ : a < (l0.length : Int) := ot_
  obtain ⟨bt,ci,cj,ck,cl,bH,aw,ax,ay,a6,a7,az,aA,aB,aC⟩ := a4i ad.out a aP aQ
  obtain rfl : T = bt := (by injection bH)
  replace aw := qh_ HB aw
  replace ax := qh_ HB ax
  replace ay := qh_ HB ay
  replace a6 := qh_ HB a6
  replace a7 := qh_ HB a7
  have b5 := am_ aA
  have bR := am_ az
  clear aA az
  have bS := am_ aC
  have bT := am_ aB
  clear aC aB
  replace aP := eq_true aP
  replace aQ := eq_true aQ
  have ea_ := si_ (b.symm.trans a6)
  injection ea_ with ea_ en_ ec_
  subst ea_
  subst ec_
  clear en_
  have ea_ := si_ (c.symm.trans a7)
  injection ea_ with ea_ en_ ec_
  subst ea_
  subst ec_
  clear en_
  have aR : 0 ≤ (s : Int) := ot_
  have aS : s < (((a0a l0 a).f3).length : Int) := ot_
  obtain ⟨cy,bI,aD⟩ := Kd.a4q b5.out s aR aS
  cases bI
  replace aD := qh_ HB aD
  replace aR := eq_true aR
  replace aS := eq_true aS
  go_wp2_with (first | (go_at_call 36;(with_reducible refine (a1m.calls k3 _ _ l0 a (rd ((a0a l0 a).f3) s) an _ ?s1 bX.out ch.out).mono ?_);(case s1 => exact qc_ ad);rintro e w' ⟨rfl,⟨nd,rfl⟩⟩;obtain ⟨cE,cF,bJ⟩ := Kd.a3c HO_9.out;subst bJ;have aT : 0 ≤ (an : Int) := ot_;have aU : an < (d.length : Int) := ot_;obtain ⟨cz,bK,bU,bV,bW⟩ := a3o (Kd.a1g HO_9.out).2.2 an aT aU;cases bK;replace aT := eq_true aT;replace aU := eq_true aU))
  go_roundg k3
  case measure => have := M.out;have := A.out;have := a8.out;omega
  case rel => exact ⟨(decide (((a0b d an).f2) > 0)),(wrap64 (s + 1)),qs_,qs_,H',⟨by have := M.out;have := A.out;have := a8.out;omega⟩,⟨by (with_reducible repeat (first | apply Kd.a2k | apply Kd.a2l | apply Kd.a2f));exact HO_9.out⟩,⟨qb_⟩⟩
 rw [if_neg av] at H
 have bs : decide (s < (((a0a l0 a).f3).length : Int)) = false := decide_eq_false av
 clear av
 by_cases b3 : W = true
 rotate_left
 ·replace b3 := be_ b3
  subst b3
  replace H := qin_ H
  have H' := am_ H
  clear H
  have u : 0 ≤ (a : Int) := ot_
  have x : a < (l0.length : Int) := ot_
  obtain ⟨z,aj,ak,al,am,O,g,i,l,b,c,m,n,o,q⟩ := a4i ad.out a u x
  obtain rfl : T = z := (by injection O)
  replace g := qh_ HB g
  replace i := qh_ HB i
  replace l := qh_ HB l
  replace b := qh_ HB b
  replace c := qh_ HB c
  have a1 := am_ n
  have a3 := am_ m
  clear n m
  have a4 := am_ q
  have a5 := am_ o
  clear q o
  replace u := eq_true u
  replace x := eq_true x
  go_wp2
  go_roundg k3
  case measure => have := M.out;have := A.out;have := a8.out;omega
  case rel => exact ⟨(d),(wrap64 (a + 1)),qs_,H',⟨by have := M.out;have := A.out;have := a8.out;omega⟩,⟨by (with_reducible repeat (first | apply Kd.a2k | apply Kd.a2l | apply Kd.a2f));exact HO_9.out⟩,⟨qb_⟩⟩
 subst b3
 replace H := qip_ H
 obtain ⟨cA,H⟩ := qid_ H
 obtain ⟨cB,H⟩ := qid_ H
 obtain ⟨aV,X⟩ : ∃ y_ : List (S42),y_ = (d.set (a : Int).toNat (⟨(a0b l1 a).f0,(a0b l1 a).f1,(a0b l1 a).f2⟩ : S42)) := ⟨_,rfl⟩
 replace H : (a0u.l0 k3 l0 l1 a2 l3 aV (wrap64 (a + 1))) = some r := by first | (rw [X];with_reducible exact H) | (have ae := (Option.bind_some _ _).symm.trans H;rw [X];with_reducible exact ae) | (have ae := (Option.bind_some _ _).symm.trans H;with_reducible exact ae) | with_reducible exact H | (rw [X];exact H) | exact H
 have bu := am_ X
 clear X
 have H' := am_ H
 clear H
 have u : 0 ≤ (a : Int) := ot_
 have x : a < (l0.length : Int) := ot_
 obtain ⟨z,aj,ak,al,am,O,g,i,l,b,c,m,n,o,q⟩ := a4i ad.out a u x
 obtain rfl : T = z := (by injection O)
 replace g := qh_ HB g
 replace i := qh_ HB i
 replace l := qh_ HB l
 replace b := qh_ HB b
 replace c := qh_ HB c
 have a1 := am_ n
 have a3 := am_ m
 clear n m
 have a4 := am_ q
 have a5 := am_ o
 clear q o
 replace u := eq_true u
 replace x := eq_true x
 have aW : 0 ≤ (a : Int) := ot_
 have aX : a < (l1.length : Int) := ot_
 obtain ⟨cC,bL,aE,aF,aG⟩ := a3o bE.out a aW aX
 cases bL
 replace aE := qh_ HB aE
 replace aF := qh_ HB aF
 replace aG := qh_ HB aG
 replace aW := eq_true aW
 replace aX := eq_true aX
 have p27 : 0 ≤ (a : Int) := ot_
 have bc : (a : Int) < ((d.length : Int) : Int) := ot_
 obtain ⟨y,bd,be,bf,bM,cG,bg⟩ := Kd.b3c HO_9.out (by omega)
 (first | cases be | (injection be with ea_ en_ ec_;(first | subst ea_ | (injection ea_ with ea_;subst ea_));subst ec_;clear en_))
 have aY := am_ bf
 have cH := am_ bg
 clear bf bM bg
 obtain ⟨cI,bv,bh,aa,ab⟩ := Kd.a8q HO_9.out z42 (a : Int) p27 bc
 obtain rfl := a7s bh
 have cm : wr.cell? ⟨y,(a : Int).toNat * 3,none⟩ = some (.int .i64 ((a0b d a).f0)) := aa 0 _ rfl
 have cn : wr.cell? ⟨y,(a : Int).toNat * 3 + 1,none⟩ = some (.int .i64 ((a0b d a).f1)) := aa 1 _ rfl
 have co : wr.cell? ⟨y,(a : Int).toNat * 3 + 2,none⟩ = some (.int .i64 ((a0b d a).f2)) := aa 2 _ rfl
 have cp : wr.frozen? ⟨y,(a : Int).toNat * 3,none⟩ = false := ab 0
 have cq : wr.frozen? ⟨y,(a : Int).toNat * 3 + 1,none⟩ = false := ab 1
 have cr : wr.frozen? ⟨y,(a : Int).toNat * 3 + 2,none⟩ = false := ab 2
 clear bv aa ab bh
 replace p27 := eq_true p27
 replace bc := eq_true bc
 have bi := am_ (show Kd.R k42 42 wr w.heap.size (fun _ => True) (.slice (some ⟨y,0,none⟩) d.length bd) d from (qr_ HO_9))
 obtain ⟨cJ,b4,bj,a0,ac⟩ := Kd.a8q bi.out z42 (a : Int) (ot_) (by have h_ : (a : Int) < ((d.length : Int) : Int) := ot_;first | exact h_ | (have e_ := (Kd.a1g HO_9.out).1;omega) | simpa using h_)
 obtain rfl := a7s bj
 have aZ := Kd.b5i bi.out (a : Int) (ot_) (by have h_ : (a : Int) < ((d.length : Int) : Int) := ot_;first | exact h_ | (have e_ := (Kd.a1g HO_9.out).1;omega) | simpa using h_) (seg := [.int .i64 ((a0b l1 a).f0), .int .i64 ((a0b l1 a).f1), .int .i64 ((a0b l1 a).f2)]) (j := 0) b4 a0 (show 3 ≤ 3 from by decide) (x' := (⟨(a0b l1 a).f0,(a0b l1 a).f1,(a0b l1 a).f2⟩ : S42)) (a5e _ _ _ (⟨(a0b l1 a).f0,(a0b l1 a).f1,(a0b l1 a).f2⟩ : S42) ) (fun _ hk => hk)
 have bk := a0 0 _ rfl
 (try simp only [show (k42).sz = 3 from rfl,Nat.mul_one,Nat.add_zero] at bk)
 have bl := ac 0
 (try simp only [show (k42).sz = 3 from rfl,Nat.mul_one,Nat.add_zero] at bl)
 have bm := a0 1 _ rfl
 (try simp only [show (k42).sz = 3 from rfl,Nat.mul_one,Nat.add_zero] at bm)
 have bn := ac 1
 (try simp only [show (k42).sz = 3 from rfl,Nat.mul_one,Nat.add_zero] at bn)
 have bo := a0 2 _ rfl
 (try simp only [show (k42).sz = 3 from rfl,Nat.mul_one,Nat.add_zero] at bo)
 have bp := ac 2
 (try simp only [show (k42).sz = 3 from rfl,Nat.mul_one,Nat.add_zero] at bp)
 clear b4 a0 ac bj
 go_wp2_with (first | ((with_reducible refine a6m (t := 42) (p := 77) rfl ?_);refine a6f (t := 42) (p := 77) (v := ?vo_w29) (w1 := (((wr.setCell ⟨y,(a : Int).toNat * 3,none⟩ (.int .i64 ((a0b l1 a).f0))).setCell ⟨y,(a : Int).toNat * 3 + 1,none⟩ (.int .i64 ((a0b l1 a).f1))).setCell ⟨y,(a : Int).toNat * 3 + 2,none⟩ (.int .i64 ((a0b l1 a).f2)))) ?hg ?ho ?hn ?hr ?_;(case ho => rfl);(case hg => rfl);(case hn => rfl);(case hr => exact qq_);intro bq hw;have hg : wr.grownBy bq (some y) := (by rw [hw];exact aZ.2);have hp_ : Kd.R k42 42 bq w.heap.size (fun _ => True) (.slice (some ⟨y,0,none⟩) d.length bd) aV := (by rw [hw,bu.out];exact aZ.1);clear aZ;replace HO_9 := am_ (hp_);replace HB := am_ ((by rw [hw];exact ls_ (ls_ (ls_ (HB.out) aY.out) aY.out) aY.out : Below w.heap.size w bq));clear hg hw hp_))
 go_roundg k3
 case measure => have := M.out;have := A.out;have := a8.out;omega
 case rel => exact ⟨(aV),(wrap64 (a + 1)),qs_,H',⟨by have := M.out;have := A.out;have := a8.out;omega⟩,⟨by (with_reducible repeat (first | apply Kd.a2k | apply Kd.a2l | apply Kd.a2f));exact HO_9.out⟩,⟨qb_⟩⟩
end Go.Proofs.Ytheibjkjmkanoaa.Px
